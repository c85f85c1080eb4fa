-- Made by a program of this session (the kit print, shortened): the kit print itself does not give this text
import Derived.Test.YtapnohcfnclleaaV4
import Derived.Test.YtapnohcfnclleaaPFnPictureFirstx0
import Derived.Test.YtapnohcfnclleaaPFnPictureFirstx1
import Derived.Test.YtapnohcfnclleaaPFnPictureFirstx5
import Derived.Test.YtapnohcfnclleaaPFnPictureFirstx6
import Derived.Test.YtapnohcfnclleaaPFnPictureFirstx11
import Derived.Test.YtapnohcfnclleaaPFnPictureFirstx13
namespace Go.Proofs.Ytapnohcfnclleaa.PFnPictureFirst
open Go.RowKit Go.Proofs.YtapnohcfnclleaaW.PrintWords Go.Proofs.YtapnohcfnclleaaW.PrintLast Go.Proofs.YtapnohcfnclleaaW.PrintMore
attribute [local go_sem] max2_int min2_int max_two min_two max_three min_three max_four min_four   -- for this text's walks alone
set_option linter.unusedVariables false
set_option linter.unusedSimpArgs false

/-! ### laws_FnPictureFirst: function 12 -/
mutual
def laws_FnPictureFirst.j0 : Nat → List (List Bool) → Bool → List (List Bool) → Bool → List (List Int) → List (List Int) → Option (Bool)
 | 0, _, _, _, _, _, _ => none
 | k + 1, x4, x5, x6, x37, x416000, x416001 => if x37 = true then (some false) else (if x5 = true then (laws_FnPictureFirst.l0 k x4 x6 0 x416000 x416001) else (if (x4.length : Int) = 0 then ((laws_alive.f k).bind fun t424 => (some t424)) else (some false)))
def laws_FnPictureFirst.l0 : Nat → List (List Bool) → List (List Bool) → Int → List (List Int) → List (List Int) → Option (Bool)
 | 0, _, _, _, _, _ => none
 | k + 1, x4, x6, x8, x416000, x416001 => if x8 < (x4.length : Int) then (if 0 ≤ x8 then (if x8 < (x6.length : Int) then ((laws_sameFlags.f k (rd_L3 x4 x8) (rd_L3 x6 x8)).bind fun t427 => (if t427 = true then (laws_FnPictureFirst.l0 k x4 x6 (wrap64 (x8 + 1)) x416000 x416001) else (some false))) else (none)) else (none)) else ((impl_PictureOf.f k x4).bind fun bt428 => (laws_FnPictureFirst.l1 k bt428.2.2 0 x416000 x416001 bt428.1 bt428.2.1))
def laws_FnPictureFirst.l1 : Nat → Bool → Int → List (List Int) → List (List Int) → List (List Int) → List (List Int) → Option (Bool)
 | 0, _, _, _, _, _, _ => none
 | k + 1, x10, x11, x416000, x416001, x436000, x436001 => if x11 < (x416000.length : Int) then (if x11 ≥ (x436000.length : Int) then (some false) else (if 0 ≤ x11 then (if x11 < (x436000.length : Int) then ((laws_sameInts.f k (rd_L1 x436000 x11) (rd_L1 x416000 x11)).bind fun t438 => (if t438 = true then (laws_FnPictureFirst.l1 k x10 (wrap64 (x11 + 1)) x416000 x416001 x436000 x436001) else (some false))) else (none)) else (none))) else (laws_FnPictureFirst.l2 k x10 0 x416000 x416001 x436000 x436001)
def laws_FnPictureFirst.l2 : Nat → Bool → Int → List (List Int) → List (List Int) → List (List Int) → List (List Int) → Option (Bool)
 | 0, _, _, _, _, _, _ => none
 | k + 1, x10, x12, x416000, x416001, x436000, x436001 => if x12 < (x416001.length : Int) then (if x12 ≥ (x436001.length : Int) then (some false) else (if 0 ≤ x12 then (if x12 < (x436001.length : Int) then ((laws_sameInts.f k (rd_L1 x436001 x12) (rd_L1 x416001 x12)).bind fun t441 => (if t441 = true then (laws_FnPictureFirst.l2 k x10 (wrap64 (x12 + 1)) x416000 x416001 x436000 x436001) else (some false))) else (none)) else (none))) else (if x10 = true then (if (x436000.length : Int) = (x416000.length : Int) then (some ((x436001.length : Int) == (x416001.length : Int))) else (some false)) else (some false))
end
def laws_FnPictureFirst.f (k : Nat) (l0 : List Int) : Option (Bool) := if (l0.length : Int) > 1048576 then (some true) else ((spec_DrawPictureFirst.f k l0).bind fun bt409 => ((impl_PictureFirst.f k bt409.1 bt409.2).bind fun bt416 => ((spec_PictureFirst.f k bt409.1 bt409.2).bind fun bt420 => (if (bt416.1.length : Int) = (bt420.1.length : Int) then (laws_FnPictureFirst.j0 k bt416.1 bt416.2 bt420.1 (bt416.2 != bt420.2) bt409.1 bt409.2) else (laws_FnPictureFirst.j0 k bt416.1 bt416.2 bt420.1 true bt409.1 bt409.2)))))
theorem laws_FnPictureFirst.mono_l : ∀ k, (∀ y0 y1 y2 y3 y4 y5, LeO (laws_FnPictureFirst.j0 k y0 y1 y2 y3 y4 y5) (laws_FnPictureFirst.j0 (k + 1) y0 y1 y2 y3 y4 y5)) ∧ (∀ y0 y1 y2 y3 y4, LeO (laws_FnPictureFirst.l0 k y0 y1 y2 y3 y4) (laws_FnPictureFirst.l0 (k + 1) y0 y1 y2 y3 y4)) ∧ (∀ y0 y1 y2 y3 y4 y5, LeO (laws_FnPictureFirst.l1 k y0 y1 y2 y3 y4 y5) (laws_FnPictureFirst.l1 (k + 1) y0 y1 y2 y3 y4 y5)) ∧ (∀ y0 y1 y2 y3 y4 y5, LeO (laws_FnPictureFirst.l2 k y0 y1 y2 y3 y4 y5) (laws_FnPictureFirst.l2 (k + 1) y0 y1 y2 y3 y4 y5))
 | 0 => ⟨fun _ _ _ _ _ _ r h => by simp [laws_FnPictureFirst.j0] at h, fun _ _ _ _ _ r h => by simp [laws_FnPictureFirst.l0] at h, fun _ _ _ _ _ _ r h => by simp [laws_FnPictureFirst.l1] at h, fun _ _ _ _ _ _ r h => by simp [laws_FnPictureFirst.l2] at h⟩
 | k + 1 => by
  obtain ⟨ih0, ih1, ih2, ih3⟩ := laws_FnPictureFirst.mono_l k
  refine ⟨?_, ?_, ?_, ?_⟩
  ·intro y0 y1 y2 y3 y4 y5
   unfold laws_FnPictureFirst.j0
   repeat' first
   | (with_reducible exact ih0 _ _ _ _ _ _)
   | (with_reducible exact ih1 _ _ _ _ _)
   | (with_reducible exact ih2 _ _ _ _ _ _)
   | (with_reducible exact ih3 _ _ _ _ _ _)
   | (with_reducible exact impl_PictureFirst.mono _ _ _)
   | (with_reducible exact impl_PictureOf.mono _ _)
   | (with_reducible exact laws_alive.mono _)
   | (with_reducible exact laws_sameFlags.mono _ _ _)
   | (with_reducible exact laws_sameInts.mono _ _ _)
   | (with_reducible exact spec_DrawPictureFirst.mono _ _)
   | (with_reducible exact spec_PictureFirst.mono _ _ _)
   | (with_reducible exact LeO.refl _)
   | (with_reducible exact LeO.none _)
   | (with_reducible refine LeO.ite ?_ ?_)
   | (with_reducible refine LeO.bind ?_ (fun _ => ?_))
   | exact LeO.none _
   | refine LeO.ite ?_ ?_
   | refine LeO.bind ?_ (fun _ => ?_)
  ·intro y0 y1 y2 y3 y4
   unfold laws_FnPictureFirst.l0
   repeat' first
   | (with_reducible exact ih0 _ _ _ _ _ _)
   | (with_reducible exact ih1 _ _ _ _ _)
   | (with_reducible exact ih2 _ _ _ _ _ _)
   | (with_reducible exact ih3 _ _ _ _ _ _)
   | (with_reducible exact impl_PictureFirst.mono _ _ _)
   | (with_reducible exact impl_PictureOf.mono _ _)
   | (with_reducible exact laws_alive.mono _)
   | (with_reducible exact laws_sameFlags.mono _ _ _)
   | (with_reducible exact laws_sameInts.mono _ _ _)
   | (with_reducible exact spec_DrawPictureFirst.mono _ _)
   | (with_reducible exact spec_PictureFirst.mono _ _ _)
   | (with_reducible exact LeO.refl _)
   | (with_reducible exact LeO.none _)
   | (with_reducible refine LeO.ite ?_ ?_)
   | (with_reducible refine LeO.bind ?_ (fun _ => ?_))
   | exact LeO.none _
   | refine LeO.ite ?_ ?_
   | refine LeO.bind ?_ (fun _ => ?_)
  ·intro y0 y1 y2 y3 y4 y5
   unfold laws_FnPictureFirst.l1
   repeat' first
   | (with_reducible exact ih0 _ _ _ _ _ _)
   | (with_reducible exact ih1 _ _ _ _ _)
   | (with_reducible exact ih2 _ _ _ _ _ _)
   | (with_reducible exact ih3 _ _ _ _ _ _)
   | (with_reducible exact impl_PictureFirst.mono _ _ _)
   | (with_reducible exact impl_PictureOf.mono _ _)
   | (with_reducible exact laws_alive.mono _)
   | (with_reducible exact laws_sameFlags.mono _ _ _)
   | (with_reducible exact laws_sameInts.mono _ _ _)
   | (with_reducible exact spec_DrawPictureFirst.mono _ _)
   | (with_reducible exact spec_PictureFirst.mono _ _ _)
   | (with_reducible exact LeO.refl _)
   | (with_reducible exact LeO.none _)
   | (with_reducible refine LeO.ite ?_ ?_)
   | (with_reducible refine LeO.bind ?_ (fun _ => ?_))
   | exact LeO.none _
   | refine LeO.ite ?_ ?_
   | refine LeO.bind ?_ (fun _ => ?_)
  ·intro y0 y1 y2 y3 y4 y5
   unfold laws_FnPictureFirst.l2
   repeat' first
   | (with_reducible exact ih0 _ _ _ _ _ _)
   | (with_reducible exact ih1 _ _ _ _ _)
   | (with_reducible exact ih2 _ _ _ _ _ _)
   | (with_reducible exact ih3 _ _ _ _ _ _)
   | (with_reducible exact impl_PictureFirst.mono _ _ _)
   | (with_reducible exact impl_PictureOf.mono _ _)
   | (with_reducible exact laws_alive.mono _)
   | (with_reducible exact laws_sameFlags.mono _ _ _)
   | (with_reducible exact laws_sameInts.mono _ _ _)
   | (with_reducible exact spec_DrawPictureFirst.mono _ _)
   | (with_reducible exact spec_PictureFirst.mono _ _ _)
   | (with_reducible exact LeO.refl _)
   | (with_reducible exact LeO.none _)
   | (with_reducible refine LeO.ite ?_ ?_)
   | (with_reducible refine LeO.bind ?_ (fun _ => ?_))
   | exact LeO.none _
   | refine LeO.ite ?_ ?_
   | refine LeO.bind ?_ (fun _ => ?_)
theorem laws_FnPictureFirst.mono : ∀ a0 k, LeO (laws_FnPictureFirst.f k a0) (laws_FnPictureFirst.f (k + 1) a0) := by
 intro a0 k
 obtain ⟨ih0, ih1, ih2, ih3⟩ := laws_FnPictureFirst.mono_l k
 unfold laws_FnPictureFirst.f
 repeat' first
   | (with_reducible exact ih0 _ _ _ _ _ _)
   | (with_reducible exact ih1 _ _ _ _ _)
   | (with_reducible exact ih2 _ _ _ _ _ _)
   | (with_reducible exact ih3 _ _ _ _ _ _)
   | (with_reducible exact impl_PictureFirst.mono _ _ _)
   | (with_reducible exact impl_PictureOf.mono _ _)
   | (with_reducible exact laws_alive.mono _)
   | (with_reducible exact laws_sameFlags.mono _ _ _)
   | (with_reducible exact laws_sameInts.mono _ _ _)
   | (with_reducible exact spec_DrawPictureFirst.mono _ _)
   | (with_reducible exact spec_PictureFirst.mono _ _ _)
   | (with_reducible exact LeO.refl _)
   | (with_reducible exact LeO.none _)
   | (with_reducible refine LeO.ite ?_ ?_)
   | (with_reducible refine LeO.bind ?_ (fun _ => ?_))
   | exact LeO.none _
   | refine LeO.ite ?_ ?_
   | refine LeO.bind ?_ (fun _ => ?_)
set_option maxHeartbeats 8000000 in
set_option maxRecDepth 100000 in
theorem laws_FnPictureFirst.calls (k : Nat) (A0 : Option Addr) (c0 : Nat) (l0 : List Int) (r : Bool) (w : World) (hr0 : Kd.C (Kd.int .u8) w A0 l0.length l0) (hc0 : l0.length ≤ c0) (h : laws_FnPictureFirst.f k l0 = some r) :
  Calls Try.prog 12 #[.slice A0 l0.length c0] w fun e w' => e = .returned (.bool r) ∧ Below w.heap.size w w' := by
 have hu25 := Try.underlying25
 have HR0 := Aside0.mk hr0
 have HC0 := Aside0.mk hc0
 clear hr0 hc0
 have HB := Aside0.mk (Below.refl w.heap.size w)
 have H : (if (l0.length : Int) > 1048576 then (some true) else ((spec_DrawPictureFirst.f k l0).bind fun bt409 => ((impl_PictureFirst.f k bt409.1 bt409.2).bind fun bt416 => ((spec_PictureFirst.f k bt409.1 bt409.2).bind fun bt420 => (if (bt416.1.length : Int) = (bt420.1.length : Int) then (laws_FnPictureFirst.j0 k bt416.1 bt416.2 bt420.1 (bt416.2 != bt420.2) bt409.1 bt409.2) else (laws_FnPictureFirst.j0 k bt416.1 bt416.2 bt420.1 true bt409.1 bt409.2)))))) = some r := h
 clear h
 by_cases c2 : (l0.length : Int) > 1048576
 ·rw [if_pos c2] at H
  have c2b0 : decide (1048576 < (l0.length : Int)) = true := decide_eq_true c2
  have c2b1 : decide (1048576 < l0.length) = true := decide_eq_true (by omega)
  clear c2
  obtain rfl := Option.some.inj H
  go_enter Try.func12, Try.ntmps12
  go_wp2
  repeat (go_quiet (fail); try go_wp2)
  go_ret
  exact ⟨by first | rfl | (simp [errW_none, errW_some] <;> rfl) | (simp [*, errW_none, errW_some] <;> rfl), bm HB⟩
 ·rw [if_neg c2] at H
  have c2b0 : decide (1048576 < (l0.length : Int)) = false := decide_eq_false c2
  have c2b1 : decide (1048576 < l0.length) = false := decide_eq_false (by omega)
  clear c2
  replace H := Option.bind_eq_some_iff.mp H
  obtain ⟨⟨t409, t412⟩, A30, H⟩ := H
  replace H : ((impl_PictureFirst.f k t409 t412).bind fun bt416 => ((spec_PictureFirst.f k t409 t412).bind fun bt420 => (if (bt416.1.length : Int) = (bt420.1.length : Int) then (laws_FnPictureFirst.j0 k bt416.1 bt416.2 bt420.1 (bt416.2 != bt420.2) t409 t412) else (laws_FnPictureFirst.j0 k bt416.1 bt416.2 bt420.1 true t409 t412)))) = some r := H
  have A3 := Aside0.mk A30
  clear A30
  replace H := Option.bind_eq_some_iff.mp H
  obtain ⟨⟨t416, t419⟩, A40, H⟩ := H
  replace H : ((spec_PictureFirst.f k t409 t412).bind fun bt420 => (if (t416.length : Int) = (bt420.1.length : Int) then (laws_FnPictureFirst.j0 k t416 t419 bt420.1 (t419 != bt420.2) t409 t412) else (laws_FnPictureFirst.j0 k t416 t419 bt420.1 true t409 t412))) = some r := H
  have A4 := Aside0.mk A40
  clear A40
  replace H := Option.bind_eq_some_iff.mp H
  obtain ⟨⟨t420, t423⟩, A50, H⟩ := H
  replace H : (if (t416.length : Int) = (t420.length : Int) then (laws_FnPictureFirst.j0 k t416 t419 t420 (t419 != t423) t409 t412) else (laws_FnPictureFirst.j0 k t416 t419 t420 true t409 t412)) = some r := H
  have A5 := Aside0.mk A50
  clear A50
  have HC6 := Aside0.mk H
  clear H
  go_enter Try.func12, Try.ntmps12
  go_upto_region 6 with (first | (go_at_call 41; (with_reducible refine (spec_DrawPictureFirst.calls k _ _ l0 t409 t412 _ ?side1 ?side2 A3.out).mono ?_); (case side1 => repeat (first | exact HR0.out | (with_reducible refine Kd.C_drewN ?_ _) | (with_reducible refine Kd.C_drew ?_))); (case side2 => exact HC0.out); rintro e w7 ⟨v410, v413, rfl, ho0, ho1, hb⟩; have n0_ := Aside0.mk (Kd.N_lower (Kd.N_mono (ok' := fun k_ => some k_ ≠ (v413 : Value).ownBlock) ho0 (fun k_ hk_ => hk_.2)) (below_size (bm HB))); have n1_ := Aside0.mk (Kd.N_lower (Kd.N_mono (ok' := fun k_ => some k_ ≠ (v410 : Value).ownBlock) ho1 (fun k_ hk_ => hk_.2)) (below_size (bm HB))); have n2_ := Aside0.mk (below_step (bm HB) hb); clear HB; have HO411 := n0_; have HO414 := n1_; have HB := n2_; clear n0_ n1_ n2_; (try clear hb); (try clear hb2); (try clear hk); (try clear hi); (try clear ho0); (try clear ho1)) | ((with_reducible refine gate_dst (N := 3) rfl ?_); (try (refine gate_guard (by rfl) ?_; dsimp only)); refine box_event ?hg (N := 3) ?hd (cs := #[.slice none 0 0, .slice none 0 0]) (t := 25) ?hr ?_; (case hd => rfl); (case hg => rfl); (case hr => first | (go_simp; done) | (go_simp; rfl)); intro gb415 hg w8 hbox hb; have n0_ := Aside0.mk (Kd.N_below (Kd.N_elderB (Kd.nv HO411.out) gb415 (Nat.le_of_eq hg.symm)) hb); have n1_ := Aside0.mk (Kd.N_below (Kd.N_elderB (Kd.nv HO414.out) gb415 (Nat.le_of_eq hg.symm)) hb); have n2_ := Aside0.mk (below_step (bm HB) hb); have n3_ := Aside0.mk (hbox); have n4_ := Aside0.mk ((by rw [hg]; exact (below_size (bm HB)) : w.heap.size ≤ gb415)); have n5_ := Aside0.mk ((by rw [hg]; exact (below_size (bm HB)) : w.heap.size ≤ gb415)); clear HO411; clear HO414; clear HB; have HO411 := n0_; have HO414 := n1_; have HB := n2_; have BK415 := n3_; have GW415 := n4_; have GE415 := n5_; clear n0_ n1_ n2_ n3_ n4_ n5_; clear hb hbox hg; obtain ⟨Ao9, co9, eo9⟩ := Kd.N_slice HO411.out; subst eo9; have hcz10_0 : w8.cell? ⟨gb415, 0, none⟩ = some (.slice none 0 0) := (blk_cell BK415.out 0).trans rfl; have hcz10_1 : w8.cell? ⟨gb415, 1, none⟩ = some (.slice none 0 0) := (blk_cell BK415.out 1).trans rfl; have hfz10_0 := blk_frozen BK415.out 0; have hfz10_1 := blk_frozen BK415.out 1; obtain ⟨Ao11, co11, eo11⟩ := Kd.N_slice HO414.out; subst eo11) | (go_at_call 20; (with_reducible refine (impl_PictureFirst.calls k _ _ t409 _ _ t412 t416 t419 _ ?side1 ?side2 ?side3 ?side4 A4.out).mono ?_); (case side1 => refine (Kd.N_reads' (e := 36) (base := w.heap.size) (ok := fun k_ => (some k_ ≠ (.slice Ao11 t412.length co11 : Value).ownBlock ∧ k_ ≠ gb415)) (n := t409.length) (c := co9) ?_).2.2; exact (by (with_reducible repeat (first | apply Kd.N_alloc | apply Kd.N_drewN | apply Kd.N_drew)); exact (Kd.N_mono (Kd.N_far (p := ⟨gb415, 1, none⟩) (Kd.N_far (p := ⟨gb415, 0, none⟩) (Kd.N_mono HO411.out (fun k_ hk => (⟨hk, hk.2⟩ : _ ∧ k_ ≠ gb415))) (fun _ hk => hk.2) (.slice Ao9 t409.length co9)) (fun _ hk => hk.2) (.slice Ao11 t412.length co11)) (fun _ h_ => h_.1)))); (case side2 => exact (Kd.N_reads' HO411.out).2.1); (case side3 => refine (Kd.N_reads' (e := 36) (base := w.heap.size) (ok := fun k_ => (some k_ ≠ (.slice Ao9 t409.length co9 : Value).ownBlock ∧ k_ ≠ gb415)) (n := t412.length) (c := co11) ?_).2.2; exact (by (with_reducible repeat (first | apply Kd.N_alloc | apply Kd.N_drewN | apply Kd.N_drew)); exact (Kd.N_mono (Kd.N_far (p := ⟨gb415, 1, none⟩) (Kd.N_far (p := ⟨gb415, 0, none⟩) (Kd.N_mono HO414.out (fun k_ hk => (⟨hk, hk.2⟩ : _ ∧ k_ ≠ gb415))) (fun _ hk => hk.2) (.slice Ao9 t409.length co9)) (fun _ hk => hk.2) (.slice Ao11 t412.length co11)) (fun _ h_ => h_.1)))); (case side4 => exact (Kd.N_reads' HO414.out).2.1); rintro e w12 ⟨v417, rfl, ho0, hb⟩; have n0_ := Aside0.mk (Kd.N_elder' (by (with_reducible repeat (first | apply Kd.N_alloc | apply Kd.N_drewN | apply Kd.N_drew)); exact (Kd.N_mono (Kd.N_far (p := ⟨gb415, 1, none⟩) (Kd.N_far (p := ⟨gb415, 0, none⟩) (Kd.N_mono HO411.out (fun k_ hk => (⟨hk, hk.2⟩ : _ ∧ k_ ≠ gb415))) (fun _ hk => hk.2) (.slice Ao9 t409.length co9)) (fun _ hk => hk.2) (.slice Ao11 t412.length co11)) (fun _ h_ => h_.1))) (by first | exact Kd.N_base ho0 | exact Kd.R_base ho0) hb); have n1_ := Aside0.mk (Kd.N_elder' (by (with_reducible repeat (first | apply Kd.N_alloc | apply Kd.N_drewN | apply Kd.N_drew)); exact (Kd.N_mono (Kd.N_far (p := ⟨gb415, 1, none⟩) (Kd.N_far (p := ⟨gb415, 0, none⟩) (Kd.N_mono HO414.out (fun k_ hk => (⟨hk, hk.2⟩ : _ ∧ k_ ≠ gb415))) (fun _ hk => hk.2) (.slice Ao9 t409.length co9)) (fun _ hk => hk.2) (.slice Ao11 t412.length co11)) (fun _ h_ => h_.1))) (by first | exact Kd.N_base ho0 | exact Kd.R_base ho0) hb); have n2_ := Aside0.mk (Kd.N_lower (Kd.N_mono (ok' := fun k_ => some k_ ≠ (.slice Ao9 t409.length co9 : Value).ownBlock ∧ some k_ ≠ (.slice Ao11 t412.length co11 : Value).ownBlock ∧ k_ ≠ gb415) (Kd.R_N (Kd.R_bound ho0)) (fun k_ hk_ => ⟨(Kd.fresh' (Kd.N_lt (by (with_reducible repeat (first | apply Kd.N_alloc | apply Kd.N_drewN | apply Kd.N_drew)); exact (Kd.N_mono (Kd.N_far (p := ⟨gb415, 1, none⟩) (Kd.N_far (p := ⟨gb415, 0, none⟩) (Kd.N_mono HO411.out (fun k_ hk => (⟨hk, hk.2⟩ : _ ∧ k_ ≠ gb415))) (fun _ hk => hk.2) (.slice Ao9 t409.length co9)) (fun _ hk => hk.2) (.slice Ao11 t412.length co11)) (fun _ h_ => h_.1)))) k_ hk_.2.1), (Kd.fresh' (Kd.N_lt (by (with_reducible repeat (first | apply Kd.N_alloc | apply Kd.N_drewN | apply Kd.N_drew)); exact (Kd.N_mono (Kd.N_far (p := ⟨gb415, 1, none⟩) (Kd.N_far (p := ⟨gb415, 0, none⟩) (Kd.N_mono HO414.out (fun k_ hk => (⟨hk, hk.2⟩ : _ ∧ k_ ≠ gb415))) (fun _ hk => hk.2) (.slice Ao9 t409.length co9)) (fun _ hk => hk.2) (.slice Ao11 t412.length co11)) (fun _ h_ => h_.1)))) k_ hk_.2.1), (Kd.freshB (g := gb415) (o := .cells #[.slice Ao9 t409.length co9, .slice Ao11 t412.length co11] 25 (0, 0)) (by (with_reducible repeat (first | refine blk_drewN ?_ _ | refine blk_drew ?_ | refine blk_alloc ?_ _)); refine blk_put (cs := #[.slice Ao9 t409.length co9, .slice none 0 0]) ?_ 1 _ rfl; (with_reducible repeat (first | refine blk_drewN ?_ _ | refine blk_drew ?_ | refine blk_alloc ?_ _)); refine blk_put (cs := #[.slice none 0 0, .slice none 0 0]) ?_ 0 _ rfl; (with_reducible repeat (first | refine blk_drewN ?_ _ | refine blk_drew ?_ | refine blk_alloc ?_ _)); exact BK415.out) k_ hk_.2.1)⟩)) (below_size (by repeat (first | exact HB.out | refine below_set ?_ GE415.out)))); have n3_ := Aside0.mk (blk_below (g := gb415) (o := .cells #[.slice Ao9 t409.length co9, .slice Ao11 t412.length co11] 25 (0, 0)) (by (with_reducible repeat (first | refine blk_drewN ?_ _ | refine blk_drew ?_ | refine blk_alloc ?_ _)); refine blk_put (cs := #[.slice Ao9 t409.length co9, .slice none 0 0]) ?_ 1 _ rfl; (with_reducible repeat (first | refine blk_drewN ?_ _ | refine blk_drew ?_ | refine blk_alloc ?_ _)); refine blk_put (cs := #[.slice none 0 0, .slice none 0 0]) ?_ 0 _ rfl; (with_reducible repeat (first | refine blk_drewN ?_ _ | refine blk_drew ?_ | refine blk_alloc ?_ _)); exact BK415.out) hb); have n4_ := Aside0.mk (below_step (by repeat (first | exact HB.out | refine below_set ?_ GE415.out)) hb); clear HO411; clear HO414; clear BK415; clear HB; have HO411 := n0_; have HO414 := n1_; have HO418 := n2_; have BK415 := n3_; have HB := n4_; clear n0_ n1_ n2_ n3_ n4_; (try clear hb); (try clear hb2); (try clear hk); (try clear hi); (try clear ho0); have hcz13_0 : w12.cell? ⟨gb415, 0, none⟩ = some (.slice Ao9 t409.length co9) := (blk_cell BK415.out 0).trans rfl; have hcz13_1 : w12.cell? ⟨gb415, 1, none⟩ = some (.slice Ao11 t412.length co11) := (blk_cell BK415.out 1).trans rfl; have hfz13_0 := blk_frozen BK415.out 0; have hfz13_1 := blk_frozen BK415.out 1) | (go_at_call 42; (with_reducible refine (spec_PictureFirst.calls k _ _ t409 _ _ t412 t420 t423 _ ?side1 ?side2 ?side3 ?side4 A5.out).mono ?_); (case side1 => repeat (first | exact (Kd.N_reads' HO411.out).2.2 | (with_reducible refine Kd.C_drewN ?_ _) | (with_reducible refine Kd.C_drew ?_))); (case side2 => exact (Kd.N_reads' HO411.out).2.1); (case side3 => repeat (first | exact (Kd.N_reads' HO414.out).2.2 | (with_reducible refine Kd.C_drewN ?_ _) | (with_reducible refine Kd.C_drew ?_))); (case side4 => exact (Kd.N_reads' HO414.out).2.1); rintro e w14 ⟨v421, rfl, ho0, hb⟩; have n0_ := Aside0.mk (Kd.N_elder' (Kd.nv HO411.out) (by first | exact Kd.N_base ho0 | exact Kd.R_base ho0) hb); have n1_ := Aside0.mk (Kd.N_elder' (Kd.nv HO414.out) (by first | exact Kd.N_base ho0 | exact Kd.R_base ho0) hb); have n2_ := Aside0.mk (Kd.N_elder' (Kd.nv HO418.out) (by first | exact Kd.N_base ho0 | exact Kd.R_base ho0) hb); have n3_ := Aside0.mk (Kd.N_lower (Kd.N_mono (ok' := fun k_ => some k_ ≠ (.slice Ao9 t409.length co9 : Value).ownBlock ∧ some k_ ≠ (.slice Ao11 t412.length co11 : Value).ownBlock ∧ some k_ ≠ (v417 : Value).ownBlock ∧ k_ ≠ gb415) (Kd.R_N (Kd.R_bound ho0)) (fun k_ hk_ => ⟨(Kd.fresh' (Kd.N_lt (Kd.nv HO411.out)) k_ hk_.2.1), (Kd.fresh' (Kd.N_lt (Kd.nv HO414.out)) k_ hk_.2.1), (Kd.fresh' (Kd.N_lt (Kd.nv HO418.out)) k_ hk_.2.1), (Kd.freshB (g := gb415) (o := .cells #[.slice Ao9 t409.length co9, .slice Ao11 t412.length co11] 25 (0, 0)) (bv BK415.out) k_ hk_.2.1)⟩)) (below_size (bm HB))); have n4_ := Aside0.mk (blk_below (g := gb415) (o := .cells #[.slice Ao9 t409.length co9, .slice Ao11 t412.length co11] 25 (0, 0)) (bv BK415.out) hb); have n5_ := Aside0.mk (below_step (bm HB) hb); clear HO411; clear HO414; clear HO418; clear BK415; clear HB; have HO411 := n0_; have HO414 := n1_; have HO418 := n2_; have HO422 := n3_; have BK415 := n4_; have HB := n5_; clear n0_ n1_ n2_ n3_ n4_ n5_; (try clear hb); (try clear hb2); (try clear hk); (try clear hi); (try clear ho0)))
  repeat (go_quiet (first | (go_at_call 41; (with_reducible refine (spec_DrawPictureFirst.calls k _ _ l0 t409 t412 _ ?side1 ?side2 A3.out).mono ?_); (case side1 => repeat (first | exact HR0.out | (with_reducible refine Kd.C_drewN ?_ _) | (with_reducible refine Kd.C_drew ?_))); (case side2 => exact HC0.out); rintro e w7 ⟨v410, v413, rfl, ho0, ho1, hb⟩; have n0_ := Aside0.mk (Kd.N_lower (Kd.N_mono (ok' := fun k_ => some k_ ≠ (v413 : Value).ownBlock) ho0 (fun k_ hk_ => hk_.2)) (below_size (bm HB))); have n1_ := Aside0.mk (Kd.N_lower (Kd.N_mono (ok' := fun k_ => some k_ ≠ (v410 : Value).ownBlock) ho1 (fun k_ hk_ => hk_.2)) (below_size (bm HB))); have n2_ := Aside0.mk (below_step (bm HB) hb); clear HB; have HO411 := n0_; have HO414 := n1_; have HB := n2_; clear n0_ n1_ n2_; (try clear hb); (try clear hb2); (try clear hk); (try clear hi); (try clear ho0); (try clear ho1)) | ((with_reducible refine gate_dst (N := 3) rfl ?_); (try (refine gate_guard (by rfl) ?_; dsimp only)); refine box_event ?hg (N := 3) ?hd (cs := #[.slice none 0 0, .slice none 0 0]) (t := 25) ?hr ?_; (case hd => rfl); (case hg => rfl); (case hr => first | (go_simp; done) | (go_simp; rfl)); intro gb415 hg w8 hbox hb; have n0_ := Aside0.mk (Kd.N_below (Kd.N_elderB (Kd.nv HO411.out) gb415 (Nat.le_of_eq hg.symm)) hb); have n1_ := Aside0.mk (Kd.N_below (Kd.N_elderB (Kd.nv HO414.out) gb415 (Nat.le_of_eq hg.symm)) hb); have n2_ := Aside0.mk (below_step (bm HB) hb); have n3_ := Aside0.mk (hbox); have n4_ := Aside0.mk ((by rw [hg]; exact (below_size (bm HB)) : w.heap.size ≤ gb415)); have n5_ := Aside0.mk ((by rw [hg]; exact (below_size (bm HB)) : w.heap.size ≤ gb415)); clear HO411; clear HO414; clear HB; have HO411 := n0_; have HO414 := n1_; have HB := n2_; have BK415 := n3_; have GW415 := n4_; have GE415 := n5_; clear n0_ n1_ n2_ n3_ n4_ n5_; clear hb hbox hg; obtain ⟨Ao9, co9, eo9⟩ := Kd.N_slice HO411.out; subst eo9; have hcz10_0 : w8.cell? ⟨gb415, 0, none⟩ = some (.slice none 0 0) := (blk_cell BK415.out 0).trans rfl; have hcz10_1 : w8.cell? ⟨gb415, 1, none⟩ = some (.slice none 0 0) := (blk_cell BK415.out 1).trans rfl; have hfz10_0 := blk_frozen BK415.out 0; have hfz10_1 := blk_frozen BK415.out 1; obtain ⟨Ao11, co11, eo11⟩ := Kd.N_slice HO414.out; subst eo11) | (go_at_call 20; (with_reducible refine (impl_PictureFirst.calls k _ _ t409 _ _ t412 t416 t419 _ ?side1 ?side2 ?side3 ?side4 A4.out).mono ?_); (case side1 => refine (Kd.N_reads' (e := 36) (base := w.heap.size) (ok := fun k_ => (some k_ ≠ (.slice Ao11 t412.length co11 : Value).ownBlock ∧ k_ ≠ gb415)) (n := t409.length) (c := co9) ?_).2.2; exact (by (with_reducible repeat (first | apply Kd.N_alloc | apply Kd.N_drewN | apply Kd.N_drew)); exact (Kd.N_mono (Kd.N_far (p := ⟨gb415, 1, none⟩) (Kd.N_far (p := ⟨gb415, 0, none⟩) (Kd.N_mono HO411.out (fun k_ hk => (⟨hk, hk.2⟩ : _ ∧ k_ ≠ gb415))) (fun _ hk => hk.2) (.slice Ao9 t409.length co9)) (fun _ hk => hk.2) (.slice Ao11 t412.length co11)) (fun _ h_ => h_.1)))); (case side2 => exact (Kd.N_reads' HO411.out).2.1); (case side3 => refine (Kd.N_reads' (e := 36) (base := w.heap.size) (ok := fun k_ => (some k_ ≠ (.slice Ao9 t409.length co9 : Value).ownBlock ∧ k_ ≠ gb415)) (n := t412.length) (c := co11) ?_).2.2; exact (by (with_reducible repeat (first | apply Kd.N_alloc | apply Kd.N_drewN | apply Kd.N_drew)); exact (Kd.N_mono (Kd.N_far (p := ⟨gb415, 1, none⟩) (Kd.N_far (p := ⟨gb415, 0, none⟩) (Kd.N_mono HO414.out (fun k_ hk => (⟨hk, hk.2⟩ : _ ∧ k_ ≠ gb415))) (fun _ hk => hk.2) (.slice Ao9 t409.length co9)) (fun _ hk => hk.2) (.slice Ao11 t412.length co11)) (fun _ h_ => h_.1)))); (case side4 => exact (Kd.N_reads' HO414.out).2.1); rintro e w12 ⟨v417, rfl, ho0, hb⟩; have n0_ := Aside0.mk (Kd.N_elder' (by (with_reducible repeat (first | apply Kd.N_alloc | apply Kd.N_drewN | apply Kd.N_drew)); exact (Kd.N_mono (Kd.N_far (p := ⟨gb415, 1, none⟩) (Kd.N_far (p := ⟨gb415, 0, none⟩) (Kd.N_mono HO411.out (fun k_ hk => (⟨hk, hk.2⟩ : _ ∧ k_ ≠ gb415))) (fun _ hk => hk.2) (.slice Ao9 t409.length co9)) (fun _ hk => hk.2) (.slice Ao11 t412.length co11)) (fun _ h_ => h_.1))) (by first | exact Kd.N_base ho0 | exact Kd.R_base ho0) hb); have n1_ := Aside0.mk (Kd.N_elder' (by (with_reducible repeat (first | apply Kd.N_alloc | apply Kd.N_drewN | apply Kd.N_drew)); exact (Kd.N_mono (Kd.N_far (p := ⟨gb415, 1, none⟩) (Kd.N_far (p := ⟨gb415, 0, none⟩) (Kd.N_mono HO414.out (fun k_ hk => (⟨hk, hk.2⟩ : _ ∧ k_ ≠ gb415))) (fun _ hk => hk.2) (.slice Ao9 t409.length co9)) (fun _ hk => hk.2) (.slice Ao11 t412.length co11)) (fun _ h_ => h_.1))) (by first | exact Kd.N_base ho0 | exact Kd.R_base ho0) hb); have n2_ := Aside0.mk (Kd.N_lower (Kd.N_mono (ok' := fun k_ => some k_ ≠ (.slice Ao9 t409.length co9 : Value).ownBlock ∧ some k_ ≠ (.slice Ao11 t412.length co11 : Value).ownBlock ∧ k_ ≠ gb415) (Kd.R_N (Kd.R_bound ho0)) (fun k_ hk_ => ⟨(Kd.fresh' (Kd.N_lt (by (with_reducible repeat (first | apply Kd.N_alloc | apply Kd.N_drewN | apply Kd.N_drew)); exact (Kd.N_mono (Kd.N_far (p := ⟨gb415, 1, none⟩) (Kd.N_far (p := ⟨gb415, 0, none⟩) (Kd.N_mono HO411.out (fun k_ hk => (⟨hk, hk.2⟩ : _ ∧ k_ ≠ gb415))) (fun _ hk => hk.2) (.slice Ao9 t409.length co9)) (fun _ hk => hk.2) (.slice Ao11 t412.length co11)) (fun _ h_ => h_.1)))) k_ hk_.2.1), (Kd.fresh' (Kd.N_lt (by (with_reducible repeat (first | apply Kd.N_alloc | apply Kd.N_drewN | apply Kd.N_drew)); exact (Kd.N_mono (Kd.N_far (p := ⟨gb415, 1, none⟩) (Kd.N_far (p := ⟨gb415, 0, none⟩) (Kd.N_mono HO414.out (fun k_ hk => (⟨hk, hk.2⟩ : _ ∧ k_ ≠ gb415))) (fun _ hk => hk.2) (.slice Ao9 t409.length co9)) (fun _ hk => hk.2) (.slice Ao11 t412.length co11)) (fun _ h_ => h_.1)))) k_ hk_.2.1), (Kd.freshB (g := gb415) (o := .cells #[.slice Ao9 t409.length co9, .slice Ao11 t412.length co11] 25 (0, 0)) (by (with_reducible repeat (first | refine blk_drewN ?_ _ | refine blk_drew ?_ | refine blk_alloc ?_ _)); refine blk_put (cs := #[.slice Ao9 t409.length co9, .slice none 0 0]) ?_ 1 _ rfl; (with_reducible repeat (first | refine blk_drewN ?_ _ | refine blk_drew ?_ | refine blk_alloc ?_ _)); refine blk_put (cs := #[.slice none 0 0, .slice none 0 0]) ?_ 0 _ rfl; (with_reducible repeat (first | refine blk_drewN ?_ _ | refine blk_drew ?_ | refine blk_alloc ?_ _)); exact BK415.out) k_ hk_.2.1)⟩)) (below_size (bm HB))); have n3_ := Aside0.mk (blk_below (g := gb415) (o := .cells #[.slice Ao9 t409.length co9, .slice Ao11 t412.length co11] 25 (0, 0)) (by (with_reducible repeat (first | refine blk_drewN ?_ _ | refine blk_drew ?_ | refine blk_alloc ?_ _)); refine blk_put (cs := #[.slice Ao9 t409.length co9, .slice none 0 0]) ?_ 1 _ rfl; (with_reducible repeat (first | refine blk_drewN ?_ _ | refine blk_drew ?_ | refine blk_alloc ?_ _)); refine blk_put (cs := #[.slice none 0 0, .slice none 0 0]) ?_ 0 _ rfl; (with_reducible repeat (first | refine blk_drewN ?_ _ | refine blk_drew ?_ | refine blk_alloc ?_ _)); exact BK415.out) hb); have n4_ := Aside0.mk (below_step (bm HB) hb); clear HO411; clear HO414; clear BK415; clear HB; have HO411 := n0_; have HO414 := n1_; have HO418 := n2_; have BK415 := n3_; have HB := n4_; clear n0_ n1_ n2_ n3_ n4_; (try clear hb); (try clear hb2); (try clear hk); (try clear hi); (try clear ho0); have hcz13_0 : w12.cell? ⟨gb415, 0, none⟩ = some (.slice Ao9 t409.length co9) := (blk_cell BK415.out 0).trans rfl; have hcz13_1 : w12.cell? ⟨gb415, 1, none⟩ = some (.slice Ao11 t412.length co11) := (blk_cell BK415.out 1).trans rfl; have hfz13_0 := blk_frozen BK415.out 0; have hfz13_1 := blk_frozen BK415.out 1) | (go_at_call 42; (with_reducible refine (spec_PictureFirst.calls k _ _ t409 _ _ t412 t420 t423 _ ?side1 ?side2 ?side3 ?side4 A5.out).mono ?_); (case side1 => repeat (first | exact (Kd.N_reads' HO411.out).2.2 | (with_reducible refine Kd.C_drewN ?_ _) | (with_reducible refine Kd.C_drew ?_))); (case side2 => exact (Kd.N_reads' HO411.out).2.1); (case side3 => repeat (first | exact (Kd.N_reads' HO414.out).2.2 | (with_reducible refine Kd.C_drewN ?_ _) | (with_reducible refine Kd.C_drew ?_))); (case side4 => exact (Kd.N_reads' HO414.out).2.1); rintro e w14 ⟨v421, rfl, ho0, hb⟩; have n0_ := Aside0.mk (Kd.N_elder' (Kd.nv HO411.out) (by first | exact Kd.N_base ho0 | exact Kd.R_base ho0) hb); have n1_ := Aside0.mk (Kd.N_elder' (Kd.nv HO414.out) (by first | exact Kd.N_base ho0 | exact Kd.R_base ho0) hb); have n2_ := Aside0.mk (Kd.N_elder' (Kd.nv HO418.out) (by first | exact Kd.N_base ho0 | exact Kd.R_base ho0) hb); have n3_ := Aside0.mk (Kd.N_lower (Kd.N_mono (ok' := fun k_ => some k_ ≠ (.slice Ao9 t409.length co9 : Value).ownBlock ∧ some k_ ≠ (.slice Ao11 t412.length co11 : Value).ownBlock ∧ some k_ ≠ (v417 : Value).ownBlock ∧ k_ ≠ gb415) (Kd.R_N (Kd.R_bound ho0)) (fun k_ hk_ => ⟨(Kd.fresh' (Kd.N_lt (Kd.nv HO411.out)) k_ hk_.2.1), (Kd.fresh' (Kd.N_lt (Kd.nv HO414.out)) k_ hk_.2.1), (Kd.fresh' (Kd.N_lt (Kd.nv HO418.out)) k_ hk_.2.1), (Kd.freshB (g := gb415) (o := .cells #[.slice Ao9 t409.length co9, .slice Ao11 t412.length co11] 25 (0, 0)) (bv BK415.out) k_ hk_.2.1)⟩)) (below_size (bm HB))); have n4_ := Aside0.mk (blk_below (g := gb415) (o := .cells #[.slice Ao9 t409.length co9, .slice Ao11 t412.length co11] 25 (0, 0)) (bv BK415.out) hb); have n5_ := Aside0.mk (below_step (bm HB) hb); clear HO411; clear HO414; clear HO418; clear BK415; clear HB; have HO411 := n0_; have HO414 := n1_; have HO418 := n2_; have HO422 := n3_; have BK415 := n4_; have HB := n5_; clear n0_ n1_ n2_ n3_ n4_ n5_; (try clear hb); (try clear hb2); (try clear hk); (try clear hi); (try clear ho0))); go_upto_region 6 with (first | (go_at_call 41; (with_reducible refine (spec_DrawPictureFirst.calls k _ _ l0 t409 t412 _ ?side1 ?side2 A3.out).mono ?_); (case side1 => repeat (first | exact HR0.out | (with_reducible refine Kd.C_drewN ?_ _) | (with_reducible refine Kd.C_drew ?_))); (case side2 => exact HC0.out); rintro e w7 ⟨v410, v413, rfl, ho0, ho1, hb⟩; have n0_ := Aside0.mk (Kd.N_lower (Kd.N_mono (ok' := fun k_ => some k_ ≠ (v413 : Value).ownBlock) ho0 (fun k_ hk_ => hk_.2)) (below_size (bm HB))); have n1_ := Aside0.mk (Kd.N_lower (Kd.N_mono (ok' := fun k_ => some k_ ≠ (v410 : Value).ownBlock) ho1 (fun k_ hk_ => hk_.2)) (below_size (bm HB))); have n2_ := Aside0.mk (below_step (bm HB) hb); clear HB; have HO411 := n0_; have HO414 := n1_; have HB := n2_; clear n0_ n1_ n2_; (try clear hb); (try clear hb2); (try clear hk); (try clear hi); (try clear ho0); (try clear ho1)) | ((with_reducible refine gate_dst (N := 3) rfl ?_); (try (refine gate_guard (by rfl) ?_; dsimp only)); refine box_event ?hg (N := 3) ?hd (cs := #[.slice none 0 0, .slice none 0 0]) (t := 25) ?hr ?_; (case hd => rfl); (case hg => rfl); (case hr => first | (go_simp; done) | (go_simp; rfl)); intro gb415 hg w8 hbox hb; have n0_ := Aside0.mk (Kd.N_below (Kd.N_elderB (Kd.nv HO411.out) gb415 (Nat.le_of_eq hg.symm)) hb); have n1_ := Aside0.mk (Kd.N_below (Kd.N_elderB (Kd.nv HO414.out) gb415 (Nat.le_of_eq hg.symm)) hb); have n2_ := Aside0.mk (below_step (bm HB) hb); have n3_ := Aside0.mk (hbox); have n4_ := Aside0.mk ((by rw [hg]; exact (below_size (bm HB)) : w.heap.size ≤ gb415)); have n5_ := Aside0.mk ((by rw [hg]; exact (below_size (bm HB)) : w.heap.size ≤ gb415)); clear HO411; clear HO414; clear HB; have HO411 := n0_; have HO414 := n1_; have HB := n2_; have BK415 := n3_; have GW415 := n4_; have GE415 := n5_; clear n0_ n1_ n2_ n3_ n4_ n5_; clear hb hbox hg; obtain ⟨Ao9, co9, eo9⟩ := Kd.N_slice HO411.out; subst eo9; have hcz10_0 : w8.cell? ⟨gb415, 0, none⟩ = some (.slice none 0 0) := (blk_cell BK415.out 0).trans rfl; have hcz10_1 : w8.cell? ⟨gb415, 1, none⟩ = some (.slice none 0 0) := (blk_cell BK415.out 1).trans rfl; have hfz10_0 := blk_frozen BK415.out 0; have hfz10_1 := blk_frozen BK415.out 1; obtain ⟨Ao11, co11, eo11⟩ := Kd.N_slice HO414.out; subst eo11) | (go_at_call 20; (with_reducible refine (impl_PictureFirst.calls k _ _ t409 _ _ t412 t416 t419 _ ?side1 ?side2 ?side3 ?side4 A4.out).mono ?_); (case side1 => refine (Kd.N_reads' (e := 36) (base := w.heap.size) (ok := fun k_ => (some k_ ≠ (.slice Ao11 t412.length co11 : Value).ownBlock ∧ k_ ≠ gb415)) (n := t409.length) (c := co9) ?_).2.2; exact (by (with_reducible repeat (first | apply Kd.N_alloc | apply Kd.N_drewN | apply Kd.N_drew)); exact (Kd.N_mono (Kd.N_far (p := ⟨gb415, 1, none⟩) (Kd.N_far (p := ⟨gb415, 0, none⟩) (Kd.N_mono HO411.out (fun k_ hk => (⟨hk, hk.2⟩ : _ ∧ k_ ≠ gb415))) (fun _ hk => hk.2) (.slice Ao9 t409.length co9)) (fun _ hk => hk.2) (.slice Ao11 t412.length co11)) (fun _ h_ => h_.1)))); (case side2 => exact (Kd.N_reads' HO411.out).2.1); (case side3 => refine (Kd.N_reads' (e := 36) (base := w.heap.size) (ok := fun k_ => (some k_ ≠ (.slice Ao9 t409.length co9 : Value).ownBlock ∧ k_ ≠ gb415)) (n := t412.length) (c := co11) ?_).2.2; exact (by (with_reducible repeat (first | apply Kd.N_alloc | apply Kd.N_drewN | apply Kd.N_drew)); exact (Kd.N_mono (Kd.N_far (p := ⟨gb415, 1, none⟩) (Kd.N_far (p := ⟨gb415, 0, none⟩) (Kd.N_mono HO414.out (fun k_ hk => (⟨hk, hk.2⟩ : _ ∧ k_ ≠ gb415))) (fun _ hk => hk.2) (.slice Ao9 t409.length co9)) (fun _ hk => hk.2) (.slice Ao11 t412.length co11)) (fun _ h_ => h_.1)))); (case side4 => exact (Kd.N_reads' HO414.out).2.1); rintro e w12 ⟨v417, rfl, ho0, hb⟩; have n0_ := Aside0.mk (Kd.N_elder' (by (with_reducible repeat (first | apply Kd.N_alloc | apply Kd.N_drewN | apply Kd.N_drew)); exact (Kd.N_mono (Kd.N_far (p := ⟨gb415, 1, none⟩) (Kd.N_far (p := ⟨gb415, 0, none⟩) (Kd.N_mono HO411.out (fun k_ hk => (⟨hk, hk.2⟩ : _ ∧ k_ ≠ gb415))) (fun _ hk => hk.2) (.slice Ao9 t409.length co9)) (fun _ hk => hk.2) (.slice Ao11 t412.length co11)) (fun _ h_ => h_.1))) (by first | exact Kd.N_base ho0 | exact Kd.R_base ho0) hb); have n1_ := Aside0.mk (Kd.N_elder' (by (with_reducible repeat (first | apply Kd.N_alloc | apply Kd.N_drewN | apply Kd.N_drew)); exact (Kd.N_mono (Kd.N_far (p := ⟨gb415, 1, none⟩) (Kd.N_far (p := ⟨gb415, 0, none⟩) (Kd.N_mono HO414.out (fun k_ hk => (⟨hk, hk.2⟩ : _ ∧ k_ ≠ gb415))) (fun _ hk => hk.2) (.slice Ao9 t409.length co9)) (fun _ hk => hk.2) (.slice Ao11 t412.length co11)) (fun _ h_ => h_.1))) (by first | exact Kd.N_base ho0 | exact Kd.R_base ho0) hb); have n2_ := Aside0.mk (Kd.N_lower (Kd.N_mono (ok' := fun k_ => some k_ ≠ (.slice Ao9 t409.length co9 : Value).ownBlock ∧ some k_ ≠ (.slice Ao11 t412.length co11 : Value).ownBlock ∧ k_ ≠ gb415) (Kd.R_N (Kd.R_bound ho0)) (fun k_ hk_ => ⟨(Kd.fresh' (Kd.N_lt (by (with_reducible repeat (first | apply Kd.N_alloc | apply Kd.N_drewN | apply Kd.N_drew)); exact (Kd.N_mono (Kd.N_far (p := ⟨gb415, 1, none⟩) (Kd.N_far (p := ⟨gb415, 0, none⟩) (Kd.N_mono HO411.out (fun k_ hk => (⟨hk, hk.2⟩ : _ ∧ k_ ≠ gb415))) (fun _ hk => hk.2) (.slice Ao9 t409.length co9)) (fun _ hk => hk.2) (.slice Ao11 t412.length co11)) (fun _ h_ => h_.1)))) k_ hk_.2.1), (Kd.fresh' (Kd.N_lt (by (with_reducible repeat (first | apply Kd.N_alloc | apply Kd.N_drewN | apply Kd.N_drew)); exact (Kd.N_mono (Kd.N_far (p := ⟨gb415, 1, none⟩) (Kd.N_far (p := ⟨gb415, 0, none⟩) (Kd.N_mono HO414.out (fun k_ hk => (⟨hk, hk.2⟩ : _ ∧ k_ ≠ gb415))) (fun _ hk => hk.2) (.slice Ao9 t409.length co9)) (fun _ hk => hk.2) (.slice Ao11 t412.length co11)) (fun _ h_ => h_.1)))) k_ hk_.2.1), (Kd.freshB (g := gb415) (o := .cells #[.slice Ao9 t409.length co9, .slice Ao11 t412.length co11] 25 (0, 0)) (by (with_reducible repeat (first | refine blk_drewN ?_ _ | refine blk_drew ?_ | refine blk_alloc ?_ _)); refine blk_put (cs := #[.slice Ao9 t409.length co9, .slice none 0 0]) ?_ 1 _ rfl; (with_reducible repeat (first | refine blk_drewN ?_ _ | refine blk_drew ?_ | refine blk_alloc ?_ _)); refine blk_put (cs := #[.slice none 0 0, .slice none 0 0]) ?_ 0 _ rfl; (with_reducible repeat (first | refine blk_drewN ?_ _ | refine blk_drew ?_ | refine blk_alloc ?_ _)); exact BK415.out) k_ hk_.2.1)⟩)) (below_size (bm HB))); have n3_ := Aside0.mk (blk_below (g := gb415) (o := .cells #[.slice Ao9 t409.length co9, .slice Ao11 t412.length co11] 25 (0, 0)) (by (with_reducible repeat (first | refine blk_drewN ?_ _ | refine blk_drew ?_ | refine blk_alloc ?_ _)); refine blk_put (cs := #[.slice Ao9 t409.length co9, .slice none 0 0]) ?_ 1 _ rfl; (with_reducible repeat (first | refine blk_drewN ?_ _ | refine blk_drew ?_ | refine blk_alloc ?_ _)); refine blk_put (cs := #[.slice none 0 0, .slice none 0 0]) ?_ 0 _ rfl; (with_reducible repeat (first | refine blk_drewN ?_ _ | refine blk_drew ?_ | refine blk_alloc ?_ _)); exact BK415.out) hb); have n4_ := Aside0.mk (below_step (bm HB) hb); clear HO411; clear HO414; clear BK415; clear HB; have HO411 := n0_; have HO414 := n1_; have HO418 := n2_; have BK415 := n3_; have HB := n4_; clear n0_ n1_ n2_ n3_ n4_; (try clear hb); (try clear hb2); (try clear hk); (try clear hi); (try clear ho0); have hcz13_0 : w12.cell? ⟨gb415, 0, none⟩ = some (.slice Ao9 t409.length co9) := (blk_cell BK415.out 0).trans rfl; have hcz13_1 : w12.cell? ⟨gb415, 1, none⟩ = some (.slice Ao11 t412.length co11) := (blk_cell BK415.out 1).trans rfl; have hfz13_0 := blk_frozen BK415.out 0; have hfz13_1 := blk_frozen BK415.out 1) | (go_at_call 42; (with_reducible refine (spec_PictureFirst.calls k _ _ t409 _ _ t412 t420 t423 _ ?side1 ?side2 ?side3 ?side4 A5.out).mono ?_); (case side1 => repeat (first | exact (Kd.N_reads' HO411.out).2.2 | (with_reducible refine Kd.C_drewN ?_ _) | (with_reducible refine Kd.C_drew ?_))); (case side2 => exact (Kd.N_reads' HO411.out).2.1); (case side3 => repeat (first | exact (Kd.N_reads' HO414.out).2.2 | (with_reducible refine Kd.C_drewN ?_ _) | (with_reducible refine Kd.C_drew ?_))); (case side4 => exact (Kd.N_reads' HO414.out).2.1); rintro e w14 ⟨v421, rfl, ho0, hb⟩; have n0_ := Aside0.mk (Kd.N_elder' (Kd.nv HO411.out) (by first | exact Kd.N_base ho0 | exact Kd.R_base ho0) hb); have n1_ := Aside0.mk (Kd.N_elder' (Kd.nv HO414.out) (by first | exact Kd.N_base ho0 | exact Kd.R_base ho0) hb); have n2_ := Aside0.mk (Kd.N_elder' (Kd.nv HO418.out) (by first | exact Kd.N_base ho0 | exact Kd.R_base ho0) hb); have n3_ := Aside0.mk (Kd.N_lower (Kd.N_mono (ok' := fun k_ => some k_ ≠ (.slice Ao9 t409.length co9 : Value).ownBlock ∧ some k_ ≠ (.slice Ao11 t412.length co11 : Value).ownBlock ∧ some k_ ≠ (v417 : Value).ownBlock ∧ k_ ≠ gb415) (Kd.R_N (Kd.R_bound ho0)) (fun k_ hk_ => ⟨(Kd.fresh' (Kd.N_lt (Kd.nv HO411.out)) k_ hk_.2.1), (Kd.fresh' (Kd.N_lt (Kd.nv HO414.out)) k_ hk_.2.1), (Kd.fresh' (Kd.N_lt (Kd.nv HO418.out)) k_ hk_.2.1), (Kd.freshB (g := gb415) (o := .cells #[.slice Ao9 t409.length co9, .slice Ao11 t412.length co11] 25 (0, 0)) (bv BK415.out) k_ hk_.2.1)⟩)) (below_size (bm HB))); have n4_ := Aside0.mk (blk_below (g := gb415) (o := .cells #[.slice Ao9 t409.length co9, .slice Ao11 t412.length co11] 25 (0, 0)) (bv BK415.out) hb); have n5_ := Aside0.mk (below_step (bm HB) hb); clear HO411; clear HO414; clear HO418; clear BK415; clear HB; have HO411 := n0_; have HO414 := n1_; have HO418 := n2_; have HO422 := n3_; have BK415 := n4_; have HB := n5_; clear n0_ n1_ n2_ n3_ n4_ n5_; (try clear hb); (try clear hb2); (try clear hk); (try clear hi); (try clear ho0))))
  (try simp only [Act.put, List.setIfInBounds_toArray, List.set_cons_zero, List.set_cons_succ])
  go_cut [37] (fun v37 wc => ∃ (kq : Nat) (x37_5 : Bool), v37 = .bool x37_5 ∧ Aside0 (laws_FnPictureFirst.j0 kq t416 t419 t420 x37_5 t409 t412 = some r) ∧ Aside0 (kq ≤ k) ∧ Aside0 (Kd.N (Kd.slice 4 Kd.bool) 37 wc w.heap.size (fun k_ => some k_ ≠ (v421 : Value).ownBlock ∧ some k_ ≠ ((.slice Ao9 t409.length co9) : Value).ownBlock ∧ some k_ ≠ ((.slice Ao11 t412.length co11) : Value).ownBlock ∧ k_ ≠ gb415) v417 t416) ∧ Aside0 (Kd.N (Kd.slice 4 Kd.bool) 37 wc w.heap.size (fun k_ => some k_ ≠ (v417 : Value).ownBlock ∧ some k_ ≠ ((.slice Ao9 t409.length co9) : Value).ownBlock ∧ some k_ ≠ ((.slice Ao11 t412.length co11) : Value).ownBlock ∧ k_ ≠ gb415) v421 t420) ∧ Aside0 (Kd.N (Kd.slice 3 (Kd.int .i64)) 36 wc w.heap.size (fun k_ => some k_ ≠ (v417 : Value).ownBlock ∧ some k_ ≠ (v421 : Value).ownBlock ∧ some k_ ≠ ((.slice Ao11 t412.length co11) : Value).ownBlock ∧ k_ ≠ gb415) (.slice Ao9 t409.length co9) t409) ∧ Aside0 (Kd.N (Kd.slice 3 (Kd.int .i64)) 36 wc w.heap.size (fun k_ => some k_ ≠ (v417 : Value).ownBlock ∧ some k_ ≠ (v421 : Value).ownBlock ∧ some k_ ≠ ((.slice Ao9 t409.length co9) : Value).ownBlock ∧ k_ ≠ gb415) (.slice Ao11 t412.length co11) t412) ∧ Aside0 (wc.heap[gb415]? = some (.cells #[(.slice Ao9 t409.length co9), (.slice Ao11 t412.length co11)] 25 (0, 0))) ∧ Aside0 (Below w.heap.size w wc))
  case first =>
   have H := HC6.out
   clear HC6
   by_cases c15 : (t416.length : Int) = (t420.length : Int)
   ·rw [if_pos c15] at H
    have c15b0 : ((t416.length : Int) == (t420.length : Int)) = true := beq_iff_eq.mpr c15
    have c15b1 : ((t416.length : Int) != (t420.length : Int)) = false := bne_eq_false_iff_eq.mpr c15
    have c15b2 : (t416.length == t420.length) = true := by first | simpa using c15 | (simp at c15 ⊢; omega)
    clear c15
    (first | rw [c15b0] | (simp only [i64_w, i32_w]; rw [c15b0]) | skip)
    have H' := Aside0.mk H
    clear H
    obtain ⟨Ao16, co16, eo16⟩ := Kd.N_slice HO418.out
    subst eo16
    obtain ⟨Ao17, co17, eo17⟩ := Kd.N_slice HO422.out
    subst eo17
    go_wp2
    repeat (go_quiet (fail); try go_wp2)
    go_meet
    case rel => exact ⟨_, ((t419 != t423)), (by first | rfl | (simp; done) | (simp [*]; done)), H', ⟨by first | omega | exact Nat.le_refl _⟩, ⟨by (with_reducible repeat (first | apply Kd.N_alloc | apply Kd.N_drewN | apply Kd.N_drew)); exact Kd.N_mono HO418.out (fun _ hk => ⟨hk.2, ⟨hk.1.1, ⟨hk.1.2.1, hk.1.2.2⟩⟩⟩)⟩, ⟨by (with_reducible repeat (first | apply Kd.N_alloc | apply Kd.N_drewN | apply Kd.N_drew)); exact Kd.N_mono HO422.out (fun _ hk => ⟨hk.2.2.1, ⟨hk.1, ⟨hk.2.1, hk.2.2.2⟩⟩⟩)⟩, ⟨by (with_reducible repeat (first | apply Kd.N_alloc | apply Kd.N_drewN | apply Kd.N_drew)); exact Kd.N_mono HO411.out (fun _ hk => ⟨hk.1.2, ⟨hk.2, ⟨hk.1.1.1, hk.1.1.2⟩⟩⟩)⟩, ⟨by (with_reducible repeat (first | apply Kd.N_alloc | apply Kd.N_drewN | apply Kd.N_drew)); exact Kd.N_mono HO414.out (fun _ hk => ⟨hk.1.2, ⟨hk.2, ⟨hk.1.1.1, hk.1.1.2⟩⟩⟩)⟩, ⟨bv BK415.out⟩, ⟨bm HB⟩⟩
   ·rw [if_neg c15] at H
    have c15b0 : ((t416.length : Int) == (t420.length : Int)) = false := beq_eq_false_iff_ne.mpr c15
    have c15b1 : ((t416.length : Int) != (t420.length : Int)) = true := bne_iff_ne.mpr c15
    have c15b2 : (t416.length == t420.length) = false := by first | simpa using c15 | (simp at c15 ⊢; omega)
    (first | rw [c15b0] | (simp only [i64_w, i32_w]; rw [c15b0]) | skip)
    have H' := Aside0.mk H
    clear H
    obtain ⟨Ao18, co18, eo18⟩ := Kd.N_slice HO418.out
    subst eo18
    obtain ⟨Ao19, co19, eo19⟩ := Kd.N_slice HO422.out
    subst eo19
    go_wp2
    repeat (go_quiet (fail); try go_wp2)
    go_meet
    case rel => exact ⟨_, (true), (by first | rfl | (simp; done) | (simp [*]; done)), H', ⟨by first | omega | exact Nat.le_refl _⟩, ⟨by (with_reducible repeat (first | apply Kd.N_alloc | apply Kd.N_drewN | apply Kd.N_drew)); exact Kd.N_mono HO418.out (fun _ hk => ⟨hk.2, ⟨hk.1.1, ⟨hk.1.2.1, hk.1.2.2⟩⟩⟩)⟩, ⟨by (with_reducible repeat (first | apply Kd.N_alloc | apply Kd.N_drewN | apply Kd.N_drew)); exact Kd.N_mono HO422.out (fun _ hk => ⟨hk.2.2.1, ⟨hk.1, ⟨hk.2.1, hk.2.2.2⟩⟩⟩)⟩, ⟨by (with_reducible repeat (first | apply Kd.N_alloc | apply Kd.N_drewN | apply Kd.N_drew)); exact Kd.N_mono HO411.out (fun _ hk => ⟨hk.1.2, ⟨hk.2, ⟨hk.1.1.1, hk.1.1.2⟩⟩⟩)⟩, ⟨by (with_reducible repeat (first | apply Kd.N_alloc | apply Kd.N_drewN | apply Kd.N_drew)); exact Kd.N_mono HO414.out (fun _ hk => ⟨hk.1.2, ⟨hk.2, ⟨hk.1.1.1, hk.1.1.2⟩⟩⟩)⟩, ⟨bv BK415.out⟩, ⟨bm HB⟩⟩
  case rest =>
   clear HC6
   try clear c1
   try clear c2
   try clear c2b0
   try clear c2b1
   try clear p2
   try clear c12
   try clear c15
   try clear c15b0
   try clear c15b1
   try clear c15b2
   try clear hcz10_0
   try clear hcz10_1
   try clear hcz13_0
   try clear hcz13_1
   try clear hfz10_0
   try clear hfz10_1
   try clear hfz13_0
   try clear hfz13_1
   obtain ⟨kq, x37_5, rfl, HA, HJ5, HO_4, HO_6, HO_416000, HO_416001, BK415, HB⟩ := hcut
   cases kq with
   | zero => exact absurd HA.out (by simp [laws_FnPictureFirst.j0])
   | succ kj5 =>
    have H := HA.out
    clear HA
    simp only [laws_FnPictureFirst.j0] at H
    by_cases c20 : x37_5 = true
    ·subst c20
     have H1 : (some false) = some r := by rw [if_pos rfl] at H; exact H
     clear H
     have H := H1
     clear H1
     obtain rfl := Option.some.inj H
     go_wp2
     repeat (go_quiet (fail); try go_wp2)
     go_ret
     exact ⟨by first | rfl | (simp [errW_none, errW_some] <;> rfl) | (simp [*, errW_none, errW_some] <;> rfl), bm HB⟩
    ·replace c20 := Bool.eq_false_iff.mpr c20
     subst c20
     have H1 : (if t419 = true then (laws_FnPictureFirst.l0 kj5 t416 t420 0 t409 t412) else (if (t416.length : Int) = 0 then ((laws_alive.f kj5).bind fun t424 => (some t424)) else (some false))) = some r := by rw [if_neg (show ¬ (false = true) by decide)] at H; exact H
     clear H
     have H := H1
     clear H1
     by_cases c21 : t419 = true
     ·subst c21
      have H1 : (laws_FnPictureFirst.l0 kj5 t416 t420 0 t409 t412) = some r := by rw [if_pos rfl] at H; exact H
      clear H
      have H := H1
      clear H1
      have H' := Aside0.mk H
      clear H
      go_wp2
      repeat (go_quiet (fail); try go_wp2)
      go_loopg [8] kj5 (fun kq v8 w' => ∃ (x8_2 : Int), v8 = .int .i64 x8_2 ∧ Aside0 (laws_FnPictureFirst.l0 kq t416 t420 x8_2 t409 t412 = some r) ∧ Aside0 (kq ≤ kj5) ∧ Aside0 (Kd.N (Kd.slice 4 Kd.bool) 37 w' w.heap.size (fun k_ => some k_ ≠ (v421 : Value).ownBlock ∧ some k_ ≠ ((.slice Ao9 t409.length co9) : Value).ownBlock ∧ some k_ ≠ ((.slice Ao11 t412.length co11) : Value).ownBlock ∧ k_ ≠ gb415) v417 t416) ∧ Aside0 (Kd.N (Kd.slice 4 Kd.bool) 37 w' w.heap.size (fun k_ => some k_ ≠ (v417 : Value).ownBlock ∧ some k_ ≠ ((.slice Ao9 t409.length co9) : Value).ownBlock ∧ some k_ ≠ ((.slice Ao11 t412.length co11) : Value).ownBlock ∧ k_ ≠ gb415) v421 t420) ∧ Aside0 (Kd.N (Kd.slice 3 (Kd.int .i64)) 36 w' w.heap.size (fun k_ => some k_ ≠ (v417 : Value).ownBlock ∧ some k_ ≠ (v421 : Value).ownBlock ∧ some k_ ≠ ((.slice Ao11 t412.length co11) : Value).ownBlock ∧ k_ ≠ gb415) (.slice Ao9 t409.length co9) t409) ∧ Aside0 (Kd.N (Kd.slice 3 (Kd.int .i64)) 36 w' w.heap.size (fun k_ => some k_ ≠ (v417 : Value).ownBlock ∧ some k_ ≠ (v421 : Value).ownBlock ∧ some k_ ≠ ((.slice Ao9 t409.length co9) : Value).ownBlock ∧ k_ ≠ gb415) (.slice Ao11 t412.length co11) t412) ∧ Aside0 (w'.heap[gb415]? = some (.cells #[(.slice Ao9 t409.length co9), (.slice Ao11 t412.length co11)] 25 (0, 0))) ∧ Aside0 (Below w.heap.size w w'))
      case atStart => exact ⟨(0), (by first | rfl | (simp; done) | (simp [*]; done)), H', ⟨Nat.le_refl _⟩, ⟨Kd.nv HO_4.out⟩, ⟨Kd.nv HO_6.out⟩, ⟨Kd.nv HO_416000.out⟩, ⟨Kd.nv HO_416001.out⟩, ⟨bv BK415.out⟩, ⟨bm HB⟩⟩
      case round =>
       clear H'
       try clear c1
       try clear c2
       try clear c2b0
       try clear c2b1
       try clear p2
       try clear c12
       try clear c15
       try clear c15b0
       try clear c15b1
       try clear c15b2
       try clear c20
       try clear c21
       try clear hcz10_0
       try clear hcz10_1
       try clear hcz13_0
       try clear hcz13_1
       try clear hfz10_0
       try clear hfz10_1
       try clear hfz13_0
       try clear hfz13_1
       try clear p2
       obtain ⟨x8_2, rfl, HA, HK2, HO_4, HO_6, HO_416000, HO_416001, BK415, HB⟩ := hrel
       cases gk with
       | zero => exact absurd HA.out (by simp [laws_FnPictureFirst.l0])
       | succ k2 =>
        have H := HA.out
        clear HA
        simp only [laws_FnPictureFirst.l0] at H
        by_cases c22 : x8_2 < (t416.length : Int)
        ·rw [if_pos c22] at H
         have c22b0 : decide (x8_2 < (t416.length : Int)) = true := decide_eq_true c22
         clear c22
         have q_ := ifs H
         clear H
         obtain ⟨c23, H⟩ := q_
         have c23b0 : decide (0 ≤ x8_2) = true := decide_eq_true c23
         clear c23
         have q_ := ifs H
         clear H
         obtain ⟨c24, H⟩ := q_
         have c24b0 : decide (x8_2 < (t420.length : Int)) = true := decide_eq_true c24
         clear c24
         replace H := Option.bind_eq_some_iff.mp H
         obtain ⟨t427, A250, H⟩ := H
         replace H : (if t427 = true then (laws_FnPictureFirst.l0 k2 t416 t420 (wrap64 (x8_2 + 1)) t409 t412) else (some false)) = some r := H
         have A25 := Aside0.mk A250
         clear A250
         by_cases c26 : t427 = true
         ·subst c26
          have H1 : (laws_FnPictureFirst.l0 k2 t416 t420 (wrap64 (x8_2 + 1)) t409 t412) = some r := by rw [if_pos rfl] at H; exact H
          clear H
          have H := H1
          clear H1
          have H' := Aside0.mk H
          clear H
          obtain ⟨Ao27, co27, eo27⟩ := Kd.N_slice HO_4.out
          subst eo27
          have p425 : 0 ≤ (x8_2 : Int) := of_decide_eq_true (by first | (with_reducible assumption) | assumption)
          have q425 : x8_2 < (t416.length : Int) := of_decide_eq_true (by first | (with_reducible assumption) | assumption)
          obtain ⟨ad425, A425_0, c425_0, e425, hx425_0, hl425_0, hi425_0⟩ := at_L3 (Kd.N_reads' HO_4.out).2.2 x8_2 p425 q425
          cases e425
          obtain ⟨ce425, hce425, hMe425, hcc425⟩ := Kd.N_get HO_4.out [] x8_2 p425 (by first | exact q425 | exact of_decide_eq_true (by first | (with_reducible assumption) | assumption) | (have e_ := (Kd.N_reads' HO_4.out).1; omega))
          obtain ⟨ua425_0, uc425_0, rfl, ul425_0, ge425_0⟩ := Kd.FK_slice_open hMe425
          have hv425_0 := hcc425 0 _ rfl
          rw [Nat.add_zero, show ((Kd.slice 4 Kd.bool)).sz = 1 from rfl, Nat.mul_one] at hv425_0
          replace hv425_0 := Option.some.inj (hv425_0.symm.trans hx425_0)
          injection hv425_0 with hva_ hvn_ hvc_
          rw [hva_] at ge425_0
          rw [hvc_] at ul425_0
          have HL425_0 := Aside0.mk (show Kd.V Kd.bool 4 _ w.heap.size _ _ (rd_L3 t416 x8_2) from Kd.V_mk ul425_0 ge425_0)
          clear hva_ hvn_ hvc_ ge425_0 ul425_0 hcc425 hce425
          have HR425_0 := Aside0.mk hi425_0
          have HC425_0 := Aside0.mk hl425_0
          clear hi425_0 hl425_0
          replace p425 := eq_true p425
          replace q425 := eq_true q425
          obtain ⟨Ao28, co28, eo28⟩ := Kd.N_slice HO_6.out
          subst eo28
          have p426 : 0 ≤ (x8_2 : Int) := of_decide_eq_true (by first | (with_reducible assumption) | assumption)
          have q426 : x8_2 < (t420.length : Int) := of_decide_eq_true (by first | (with_reducible assumption) | assumption)
          obtain ⟨ad426, A426_0, c426_0, e426, hx426_0, hl426_0, hi426_0⟩ := at_L3 (Kd.N_reads' HO_6.out).2.2 x8_2 p426 q426
          cases e426
          obtain ⟨ce426, hce426, hMe426, hcc426⟩ := Kd.N_get HO_6.out [] x8_2 p426 (by first | exact q426 | exact of_decide_eq_true (by first | (with_reducible assumption) | assumption) | (have e_ := (Kd.N_reads' HO_6.out).1; omega))
          obtain ⟨ua426_0, uc426_0, rfl, ul426_0, ge426_0⟩ := Kd.FK_slice_open hMe426
          have hv426_0 := hcc426 0 _ rfl
          rw [Nat.add_zero, show ((Kd.slice 4 Kd.bool)).sz = 1 from rfl, Nat.mul_one] at hv426_0
          replace hv426_0 := Option.some.inj (hv426_0.symm.trans hx426_0)
          injection hv426_0 with hva_ hvn_ hvc_
          rw [hva_] at ge426_0
          rw [hvc_] at ul426_0
          have HL426_0 := Aside0.mk (show Kd.V Kd.bool 4 _ w.heap.size _ _ (rd_L3 t420 x8_2) from Kd.V_mk ul426_0 ge426_0)
          clear hva_ hvn_ hvc_ ge426_0 ul426_0 hcc426 hce426
          have HR426_0 := Aside0.mk hi426_0
          have HC426_0 := Aside0.mk hl426_0
          clear hi426_0 hl426_0
          replace p426 := eq_true p426
          replace q426 := eq_true q426
          go_wp2_with (first | (go_at_call 43; (with_reducible refine (laws_sameFlags.calls k2 _ _ (rd_L3 t416 x8_2) _ _ (rd_L3 t420 x8_2) true _ ?side1 ?side2 ?side3 ?side4 A25.out).mono ?_); (case side1 => repeat (first | exact (by repeat (first | (with_reducible exact HR425_0.out) | (with_reducible refine Kd.C_drewN ?_ _) | (with_reducible refine Kd.C_drew ?_) | exact HR425_0.out)) | (with_reducible refine Kd.C_drewN ?_ _) | (with_reducible refine Kd.C_drew ?_))); (case side2 => exact HC425_0.out); (case side3 => repeat (first | exact (by repeat (first | (with_reducible exact HR426_0.out) | (with_reducible refine Kd.C_drewN ?_ _) | (with_reducible refine Kd.C_drew ?_) | exact HR426_0.out)) | (with_reducible refine Kd.C_drewN ?_ _) | (with_reducible refine Kd.C_drew ?_))); (case side4 => exact HC426_0.out); rintro e w' ⟨rfl, ⟨nd, rfl⟩⟩; (try first | exact ⟨rfl, _, World.drewN_drewN _ _ _⟩ | exact ⟨rfl, _, Eq.trans (World.drewN_drewN _ _ _) (congrArg (World.drewN _) (Nat.add_assoc _ _ _))⟩)))
          repeat (go_quiet (first | (go_at_call 43; (with_reducible refine (laws_sameFlags.calls k2 _ _ (rd_L3 t416 x8_2) _ _ (rd_L3 t420 x8_2) true _ ?side1 ?side2 ?side3 ?side4 A25.out).mono ?_); (case side1 => repeat (first | exact (by repeat (first | (with_reducible exact HR425_0.out) | (with_reducible refine Kd.C_drewN ?_ _) | (with_reducible refine Kd.C_drew ?_) | exact HR425_0.out)) | (with_reducible refine Kd.C_drewN ?_ _) | (with_reducible refine Kd.C_drew ?_))); (case side2 => exact HC425_0.out); (case side3 => repeat (first | exact (by repeat (first | (with_reducible exact HR426_0.out) | (with_reducible refine Kd.C_drewN ?_ _) | (with_reducible refine Kd.C_drew ?_) | exact HR426_0.out)) | (with_reducible refine Kd.C_drewN ?_ _) | (with_reducible refine Kd.C_drew ?_))); (case side4 => exact HC426_0.out); rintro e w' ⟨rfl, ⟨nd, rfl⟩⟩; (try first | exact ⟨rfl, _, World.drewN_drewN _ _ _⟩ | exact ⟨rfl, _, Eq.trans (World.drewN_drewN _ _ _) (congrArg (World.drewN _) (Nat.add_assoc _ _ _))⟩))); try go_wp2_with (first | (go_at_call 43; (with_reducible refine (laws_sameFlags.calls k2 _ _ (rd_L3 t416 x8_2) _ _ (rd_L3 t420 x8_2) true _ ?side1 ?side2 ?side3 ?side4 A25.out).mono ?_); (case side1 => repeat (first | exact (by repeat (first | (with_reducible exact HR425_0.out) | (with_reducible refine Kd.C_drewN ?_ _) | (with_reducible refine Kd.C_drew ?_) | exact HR425_0.out)) | (with_reducible refine Kd.C_drewN ?_ _) | (with_reducible refine Kd.C_drew ?_))); (case side2 => exact HC425_0.out); (case side3 => repeat (first | exact (by repeat (first | (with_reducible exact HR426_0.out) | (with_reducible refine Kd.C_drewN ?_ _) | (with_reducible refine Kd.C_drew ?_) | exact HR426_0.out)) | (with_reducible refine Kd.C_drewN ?_ _) | (with_reducible refine Kd.C_drew ?_))); (case side4 => exact HC426_0.out); rintro e w' ⟨rfl, ⟨nd, rfl⟩⟩; (try first | exact ⟨rfl, _, World.drewN_drewN _ _ _⟩ | exact ⟨rfl, _, Eq.trans (World.drewN_drewN _ _ _) (congrArg (World.drewN _) (Nat.add_assoc _ _ _))⟩))))
          go_roundg k2
          case measure => have := HJ5.out; have := HK2.out; omega
          case rel => exact ⟨(wrap64 (x8_2 + 1)), (by first | rfl | (simp; done) | (simp [*]; done)), H', ⟨by have := HJ5.out; have := HK2.out; omega⟩, ⟨Kd.nv HO_4.out⟩, ⟨Kd.nv HO_6.out⟩, ⟨Kd.nv HO_416000.out⟩, ⟨Kd.nv HO_416001.out⟩, ⟨bv BK415.out⟩, ⟨bm HB⟩⟩
         ·replace c26 := Bool.eq_false_iff.mpr c26
          subst c26
          have H1 : (some false) = some r := by rw [if_neg (show ¬ (false = true) by decide)] at H; exact H
          clear H
          have H := H1
          clear H1
          obtain rfl := Option.some.inj H
          obtain ⟨Ao29, co29, eo29⟩ := Kd.N_slice HO_4.out
          subst eo29
          have p425 : 0 ≤ (x8_2 : Int) := of_decide_eq_true (by first | (with_reducible assumption) | assumption)
          have q425 : x8_2 < (t416.length : Int) := of_decide_eq_true (by first | (with_reducible assumption) | assumption)
          obtain ⟨ad425, A425_0, c425_0, e425, hx425_0, hl425_0, hi425_0⟩ := at_L3 (Kd.N_reads' HO_4.out).2.2 x8_2 p425 q425
          cases e425
          obtain ⟨ce425, hce425, hMe425, hcc425⟩ := Kd.N_get HO_4.out [] x8_2 p425 (by first | exact q425 | exact of_decide_eq_true (by first | (with_reducible assumption) | assumption) | (have e_ := (Kd.N_reads' HO_4.out).1; omega))
          obtain ⟨ua425_0, uc425_0, rfl, ul425_0, ge425_0⟩ := Kd.FK_slice_open hMe425
          have hv425_0 := hcc425 0 _ rfl
          rw [Nat.add_zero, show ((Kd.slice 4 Kd.bool)).sz = 1 from rfl, Nat.mul_one] at hv425_0
          replace hv425_0 := Option.some.inj (hv425_0.symm.trans hx425_0)
          injection hv425_0 with hva_ hvn_ hvc_
          rw [hva_] at ge425_0
          rw [hvc_] at ul425_0
          have HL425_0 := Aside0.mk (show Kd.V Kd.bool 4 _ w.heap.size _ _ (rd_L3 t416 x8_2) from Kd.V_mk ul425_0 ge425_0)
          clear hva_ hvn_ hvc_ ge425_0 ul425_0 hcc425 hce425
          have HR425_0 := Aside0.mk hi425_0
          have HC425_0 := Aside0.mk hl425_0
          clear hi425_0 hl425_0
          replace p425 := eq_true p425
          replace q425 := eq_true q425
          obtain ⟨Ao30, co30, eo30⟩ := Kd.N_slice HO_6.out
          subst eo30
          have p426 : 0 ≤ (x8_2 : Int) := of_decide_eq_true (by first | (with_reducible assumption) | assumption)
          have q426 : x8_2 < (t420.length : Int) := of_decide_eq_true (by first | (with_reducible assumption) | assumption)
          obtain ⟨ad426, A426_0, c426_0, e426, hx426_0, hl426_0, hi426_0⟩ := at_L3 (Kd.N_reads' HO_6.out).2.2 x8_2 p426 q426
          cases e426
          obtain ⟨ce426, hce426, hMe426, hcc426⟩ := Kd.N_get HO_6.out [] x8_2 p426 (by first | exact q426 | exact of_decide_eq_true (by first | (with_reducible assumption) | assumption) | (have e_ := (Kd.N_reads' HO_6.out).1; omega))
          obtain ⟨ua426_0, uc426_0, rfl, ul426_0, ge426_0⟩ := Kd.FK_slice_open hMe426
          have hv426_0 := hcc426 0 _ rfl
          rw [Nat.add_zero, show ((Kd.slice 4 Kd.bool)).sz = 1 from rfl, Nat.mul_one] at hv426_0
          replace hv426_0 := Option.some.inj (hv426_0.symm.trans hx426_0)
          injection hv426_0 with hva_ hvn_ hvc_
          rw [hva_] at ge426_0
          rw [hvc_] at ul426_0
          have HL426_0 := Aside0.mk (show Kd.V Kd.bool 4 _ w.heap.size _ _ (rd_L3 t420 x8_2) from Kd.V_mk ul426_0 ge426_0)
          clear hva_ hvn_ hvc_ ge426_0 ul426_0 hcc426 hce426
          have HR426_0 := Aside0.mk hi426_0
          have HC426_0 := Aside0.mk hl426_0
          clear hi426_0 hl426_0
          replace p426 := eq_true p426
          replace q426 := eq_true q426
          go_wp2_with (first | (go_at_call 43; (with_reducible refine (laws_sameFlags.calls k2 _ _ (rd_L3 t416 x8_2) _ _ (rd_L3 t420 x8_2) false _ ?side1 ?side2 ?side3 ?side4 A25.out).mono ?_); (case side1 => repeat (first | exact (by repeat (first | (with_reducible exact HR425_0.out) | (with_reducible refine Kd.C_drewN ?_ _) | (with_reducible refine Kd.C_drew ?_) | exact HR425_0.out)) | (with_reducible refine Kd.C_drewN ?_ _) | (with_reducible refine Kd.C_drew ?_))); (case side2 => exact HC425_0.out); (case side3 => repeat (first | exact (by repeat (first | (with_reducible exact HR426_0.out) | (with_reducible refine Kd.C_drewN ?_ _) | (with_reducible refine Kd.C_drew ?_) | exact HR426_0.out)) | (with_reducible refine Kd.C_drewN ?_ _) | (with_reducible refine Kd.C_drew ?_))); (case side4 => exact HC426_0.out); rintro e w' ⟨rfl, ⟨nd, rfl⟩⟩; (try first | exact ⟨rfl, _, World.drewN_drewN _ _ _⟩ | exact ⟨rfl, _, Eq.trans (World.drewN_drewN _ _ _) (congrArg (World.drewN _) (Nat.add_assoc _ _ _))⟩)))
          repeat (go_quiet (first | (go_at_call 43; (with_reducible refine (laws_sameFlags.calls k2 _ _ (rd_L3 t416 x8_2) _ _ (rd_L3 t420 x8_2) false _ ?side1 ?side2 ?side3 ?side4 A25.out).mono ?_); (case side1 => repeat (first | exact (by repeat (first | (with_reducible exact HR425_0.out) | (with_reducible refine Kd.C_drewN ?_ _) | (with_reducible refine Kd.C_drew ?_) | exact HR425_0.out)) | (with_reducible refine Kd.C_drewN ?_ _) | (with_reducible refine Kd.C_drew ?_))); (case side2 => exact HC425_0.out); (case side3 => repeat (first | exact (by repeat (first | (with_reducible exact HR426_0.out) | (with_reducible refine Kd.C_drewN ?_ _) | (with_reducible refine Kd.C_drew ?_) | exact HR426_0.out)) | (with_reducible refine Kd.C_drewN ?_ _) | (with_reducible refine Kd.C_drew ?_))); (case side4 => exact HC426_0.out); rintro e w' ⟨rfl, ⟨nd, rfl⟩⟩; (try first | exact ⟨rfl, _, World.drewN_drewN _ _ _⟩ | exact ⟨rfl, _, Eq.trans (World.drewN_drewN _ _ _) (congrArg (World.drewN _) (Nat.add_assoc _ _ _))⟩))); try go_wp2_with (first | (go_at_call 43; (with_reducible refine (laws_sameFlags.calls k2 _ _ (rd_L3 t416 x8_2) _ _ (rd_L3 t420 x8_2) false _ ?side1 ?side2 ?side3 ?side4 A25.out).mono ?_); (case side1 => repeat (first | exact (by repeat (first | (with_reducible exact HR425_0.out) | (with_reducible refine Kd.C_drewN ?_ _) | (with_reducible refine Kd.C_drew ?_) | exact HR425_0.out)) | (with_reducible refine Kd.C_drewN ?_ _) | (with_reducible refine Kd.C_drew ?_))); (case side2 => exact HC425_0.out); (case side3 => repeat (first | exact (by repeat (first | (with_reducible exact HR426_0.out) | (with_reducible refine Kd.C_drewN ?_ _) | (with_reducible refine Kd.C_drew ?_) | exact HR426_0.out)) | (with_reducible refine Kd.C_drewN ?_ _) | (with_reducible refine Kd.C_drew ?_))); (case side4 => exact HC426_0.out); rintro e w' ⟨rfl, ⟨nd, rfl⟩⟩; (try first | exact ⟨rfl, _, World.drewN_drewN _ _ _⟩ | exact ⟨rfl, _, Eq.trans (World.drewN_drewN _ _ _) (congrArg (World.drewN _) (Nat.add_assoc _ _ _))⟩))))
          go_ret
          exact ⟨by first | rfl | (simp [errW_none, errW_some] <;> rfl) | (simp [*, errW_none, errW_some] <;> rfl), bm HB⟩
        ·rw [if_neg c22] at H
         have c22b0 : decide (x8_2 < (t416.length : Int)) = false := decide_eq_false c22
         clear c22
         replace H := Option.bind_eq_some_iff.mp H
         obtain ⟨⟨t428, t431, t434⟩, A310, H⟩ := H
         replace H : (laws_FnPictureFirst.l1 k2 t434 0 t409 t412 t428 t431) = some r := H
         have A31 := Aside0.mk A310
         clear A310
         have H' := Aside0.mk H
         clear H
         obtain ⟨Ao32, co32, eo32⟩ := Kd.N_slice HO_4.out
         subst eo32
         go_wp2_with (first | (go_at_call 30; (with_reducible refine (impl_PictureOf.calls k2 _ _ t416 t428 t431 t434 _ ?side1 ?side2 A31.out).mono ?_); (case side1 => repeat (first | exact (Kd.N_reads' HO_4.out).2.2 | (with_reducible refine Kd.C_drewN ?_ _) | (with_reducible refine Kd.C_drew ?_))); (case side2 => exact (Kd.N_reads' HO_4.out).2.1); rintro e w33 ⟨v429, v432, rfl, ho0, ho1, hb⟩; have n0_ := Aside0.mk (Kd.N_mono (Kd.N_told (Kd.N_told (Kd.N_old (Kd.nv HO_4.out) hb) (by first | exact Kd.N_base ho0 | exact Kd.R_base ho0)) (by first | exact Kd.N_base ho1 | exact Kd.R_base ho1)) (fun _ h_ => h_.1)); have n1_ := Aside0.mk (Kd.N_mono (Kd.N_told (Kd.N_told (Kd.N_old (Kd.nv HO_6.out) hb) (by first | exact Kd.N_base ho0 | exact Kd.R_base ho0)) (by first | exact Kd.N_base ho1 | exact Kd.R_base ho1)) (fun _ h_ => h_.1)); have n2_ := Aside0.mk (Kd.N_mono (Kd.N_told (Kd.N_told (Kd.N_old (Kd.nv HO_416000.out) hb) (by first | exact Kd.N_base ho0 | exact Kd.R_base ho0)) (by first | exact Kd.N_base ho1 | exact Kd.R_base ho1)) (fun _ h_ => h_.1)); have n3_ := Aside0.mk (Kd.N_mono (Kd.N_told (Kd.N_told (Kd.N_old (Kd.nv HO_416001.out) hb) (by first | exact Kd.N_base ho0 | exact Kd.R_base ho0)) (by first | exact Kd.N_base ho1 | exact Kd.R_base ho1)) (fun _ h_ => h_.1)); have n4_ := Aside0.mk (Kd.N_lower (Kd.N_mono (ok' := fun k_ => some k_ ≠ (v432 : Value).ownBlock ∧ some k_ ≠ (.slice Ao32 t416.length co32 : Value).ownBlock ∧ some k_ ≠ (v421 : Value).ownBlock ∧ some k_ ≠ (.slice Ao9 t409.length co9 : Value).ownBlock ∧ some k_ ≠ (.slice Ao11 t412.length co11 : Value).ownBlock ∧ k_ ≠ gb415) (Kd.R_N (Kd.R_bound ho0)) (fun k_ hk_ => ⟨hk_.1, (Kd.fresh' (Kd.N_lt (Kd.nv HO_4.out)) k_ hk_.2.1), (Kd.fresh' (Kd.N_lt (Kd.nv HO_6.out)) k_ hk_.2.1), (Kd.fresh' (Kd.N_lt (Kd.nv HO_416000.out)) k_ hk_.2.1), (Kd.fresh' (Kd.N_lt (Kd.nv HO_416001.out)) k_ hk_.2.1), (Kd.freshB (g := gb415) (o := .cells #[.slice Ao9 t409.length co9, .slice Ao11 t412.length co11] 25 (0, 0)) (bv BK415.out) k_ hk_.2.1)⟩)) (below_size (bm HB))); have n5_ := Aside0.mk (Kd.N_lower (Kd.N_mono (ok' := fun k_ => some k_ ≠ (v429 : Value).ownBlock ∧ some k_ ≠ (.slice Ao32 t416.length co32 : Value).ownBlock ∧ some k_ ≠ (v421 : Value).ownBlock ∧ some k_ ≠ (.slice Ao9 t409.length co9 : Value).ownBlock ∧ some k_ ≠ (.slice Ao11 t412.length co11 : Value).ownBlock ∧ k_ ≠ gb415) (Kd.R_N (Kd.R_bound ho1)) (fun k_ hk_ => ⟨hk_.1, (Kd.fresh' (Kd.N_lt (Kd.nv HO_4.out)) k_ hk_.2.1), (Kd.fresh' (Kd.N_lt (Kd.nv HO_6.out)) k_ hk_.2.1), (Kd.fresh' (Kd.N_lt (Kd.nv HO_416000.out)) k_ hk_.2.1), (Kd.fresh' (Kd.N_lt (Kd.nv HO_416001.out)) k_ hk_.2.1), (Kd.freshB (g := gb415) (o := .cells #[.slice Ao9 t409.length co9, .slice Ao11 t412.length co11] 25 (0, 0)) (bv BK415.out) k_ hk_.2.1)⟩)) (below_size (bm HB))); have n6_ := Aside0.mk (blk_below (g := gb415) (o := .cells #[.slice Ao9 t409.length co9, .slice Ao11 t412.length co11] 25 (0, 0)) (bv BK415.out) hb); have n7_ := Aside0.mk (below_step (bm HB) hb); clear HO_4; clear HO_6; clear HO_416000; clear HO_416001; clear BK415; clear HB; have HO_4 := n0_; have HO_6 := n1_; have HO_416000 := n2_; have HO_416001 := n3_; have HO430 := n4_; have HO433 := n5_; have BK415 := n6_; have HB := n7_; clear n0_ n1_ n2_ n3_ n4_ n5_ n6_ n7_; (try clear hb); (try clear hb2); (try clear hk); (try clear hi); (try clear ho0); (try clear ho1)) | ((with_reducible refine gate_dst (N := 9) rfl ?_); (try (refine gate_guard (by rfl) ?_; dsimp only)); refine box_event ?hg (N := 9) ?hd (cs := #[.slice none 0 0, .slice none 0 0]) (t := 25) ?hr ?_; (case hd => rfl); (case hg => rfl); (case hr => first | (go_simp; done) | (go_simp; rfl)); intro gb435 hg w34 hbox hb; have n0_ := Aside0.mk (Kd.N_below (Kd.N_elderB (Kd.nv HO_4.out) gb435 (Nat.le_of_eq hg.symm)) hb); have n1_ := Aside0.mk (Kd.N_below (Kd.N_elderB (Kd.nv HO_6.out) gb435 (Nat.le_of_eq hg.symm)) hb); have n2_ := Aside0.mk (Kd.N_below (Kd.N_elderB (Kd.nv HO_416000.out) gb435 (Nat.le_of_eq hg.symm)) hb); have n3_ := Aside0.mk (Kd.N_below (Kd.N_elderB (Kd.nv HO_416001.out) gb435 (Nat.le_of_eq hg.symm)) hb); have n4_ := Aside0.mk (Kd.N_below (Kd.N_elderB (Kd.nv HO430.out) gb435 (Nat.le_of_eq hg.symm)) hb); have n5_ := Aside0.mk (Kd.N_below (Kd.N_elderB (Kd.nv HO433.out) gb435 (Nat.le_of_eq hg.symm)) hb); have n6_ := Aside0.mk (blk_below (g := gb415) (o := .cells #[.slice Ao9 t409.length co9, .slice Ao11 t412.length co11] 25 (0, 0)) (bv BK415.out) hb); have n7_ := Aside0.mk (below_step (bm HB) hb); have n8_ := Aside0.mk (hbox); have n9_ := Aside0.mk ((by rw [hg]; exact (below_size (bm HB)) : w.heap.size ≤ gb435)); have n10_ := Aside0.mk ((by rw [hg]; exact (below_size (bm HB)) : w.heap.size ≤ gb435)); have n11_ := Aside0.mk ((by rw [hg]; exact Nat.ne_of_lt (blk_lt (g := gb415) (o := .cells #[.slice Ao9 t409.length co9, .slice Ao11 t412.length co11] 25 (0, 0)) (bv BK415.out)) : gb415 ≠ gb435)); have n12_ := Aside0.mk ((by rw [hg]; exact Nat.ne_of_gt (blk_lt (g := gb415) (o := .cells #[.slice Ao9 t409.length co9, .slice Ao11 t412.length co11] 25 (0, 0)) (bv BK415.out)) : gb435 ≠ gb415)); clear HO_4; clear HO_6; clear HO_416000; clear HO_416001; clear HO430; clear HO433; clear BK415; clear HB; have HO_4 := n0_; have HO_6 := n1_; have HO_416000 := n2_; have HO_416001 := n3_; have HO430 := n4_; have HO433 := n5_; have BK415 := n6_; have HB := n7_; have BK435 := n8_; have GW435 := n9_; have GE435 := n10_; have NB415_435 := n11_; have NB435_415 := n12_; clear n0_ n1_ n2_ n3_ n4_ n5_ n6_ n7_ n8_ n9_ n10_ n11_ n12_; clear hb hbox hg; obtain ⟨Ao35, co35, eo35⟩ := Kd.N_slice HO430.out; subst eo35; have hnb36 := NB435_415.out; have hnc36 := NB415_435.out; have hcz37_0 : w34.cell? ⟨gb435, 0, none⟩ = some (.slice none 0 0) := (blk_cell BK435.out 0).trans rfl; have hcz37_1 : w34.cell? ⟨gb435, 1, none⟩ = some (.slice none 0 0) := (blk_cell BK435.out 1).trans rfl; have hfz37_0 := blk_frozen BK435.out 0; have hfz37_1 := blk_frozen BK435.out 1; obtain ⟨Ao38, co38, eo38⟩ := Kd.N_slice HO433.out; subst eo38))
         repeat (go_quiet (first | (go_at_call 30; (with_reducible refine (impl_PictureOf.calls k2 _ _ t416 t428 t431 t434 _ ?side1 ?side2 A31.out).mono ?_); (case side1 => repeat (first | exact (Kd.N_reads' HO_4.out).2.2 | (with_reducible refine Kd.C_drewN ?_ _) | (with_reducible refine Kd.C_drew ?_))); (case side2 => exact (Kd.N_reads' HO_4.out).2.1); rintro e w33 ⟨v429, v432, rfl, ho0, ho1, hb⟩; have n0_ := Aside0.mk (Kd.N_mono (Kd.N_told (Kd.N_told (Kd.N_old (Kd.nv HO_4.out) hb) (by first | exact Kd.N_base ho0 | exact Kd.R_base ho0)) (by first | exact Kd.N_base ho1 | exact Kd.R_base ho1)) (fun _ h_ => h_.1)); have n1_ := Aside0.mk (Kd.N_mono (Kd.N_told (Kd.N_told (Kd.N_old (Kd.nv HO_6.out) hb) (by first | exact Kd.N_base ho0 | exact Kd.R_base ho0)) (by first | exact Kd.N_base ho1 | exact Kd.R_base ho1)) (fun _ h_ => h_.1)); have n2_ := Aside0.mk (Kd.N_mono (Kd.N_told (Kd.N_told (Kd.N_old (Kd.nv HO_416000.out) hb) (by first | exact Kd.N_base ho0 | exact Kd.R_base ho0)) (by first | exact Kd.N_base ho1 | exact Kd.R_base ho1)) (fun _ h_ => h_.1)); have n3_ := Aside0.mk (Kd.N_mono (Kd.N_told (Kd.N_told (Kd.N_old (Kd.nv HO_416001.out) hb) (by first | exact Kd.N_base ho0 | exact Kd.R_base ho0)) (by first | exact Kd.N_base ho1 | exact Kd.R_base ho1)) (fun _ h_ => h_.1)); have n4_ := Aside0.mk (Kd.N_lower (Kd.N_mono (ok' := fun k_ => some k_ ≠ (v432 : Value).ownBlock ∧ some k_ ≠ (.slice Ao32 t416.length co32 : Value).ownBlock ∧ some k_ ≠ (v421 : Value).ownBlock ∧ some k_ ≠ (.slice Ao9 t409.length co9 : Value).ownBlock ∧ some k_ ≠ (.slice Ao11 t412.length co11 : Value).ownBlock ∧ k_ ≠ gb415) (Kd.R_N (Kd.R_bound ho0)) (fun k_ hk_ => ⟨hk_.1, (Kd.fresh' (Kd.N_lt (Kd.nv HO_4.out)) k_ hk_.2.1), (Kd.fresh' (Kd.N_lt (Kd.nv HO_6.out)) k_ hk_.2.1), (Kd.fresh' (Kd.N_lt (Kd.nv HO_416000.out)) k_ hk_.2.1), (Kd.fresh' (Kd.N_lt (Kd.nv HO_416001.out)) k_ hk_.2.1), (Kd.freshB (g := gb415) (o := .cells #[.slice Ao9 t409.length co9, .slice Ao11 t412.length co11] 25 (0, 0)) (bv BK415.out) k_ hk_.2.1)⟩)) (below_size (bm HB))); have n5_ := Aside0.mk (Kd.N_lower (Kd.N_mono (ok' := fun k_ => some k_ ≠ (v429 : Value).ownBlock ∧ some k_ ≠ (.slice Ao32 t416.length co32 : Value).ownBlock ∧ some k_ ≠ (v421 : Value).ownBlock ∧ some k_ ≠ (.slice Ao9 t409.length co9 : Value).ownBlock ∧ some k_ ≠ (.slice Ao11 t412.length co11 : Value).ownBlock ∧ k_ ≠ gb415) (Kd.R_N (Kd.R_bound ho1)) (fun k_ hk_ => ⟨hk_.1, (Kd.fresh' (Kd.N_lt (Kd.nv HO_4.out)) k_ hk_.2.1), (Kd.fresh' (Kd.N_lt (Kd.nv HO_6.out)) k_ hk_.2.1), (Kd.fresh' (Kd.N_lt (Kd.nv HO_416000.out)) k_ hk_.2.1), (Kd.fresh' (Kd.N_lt (Kd.nv HO_416001.out)) k_ hk_.2.1), (Kd.freshB (g := gb415) (o := .cells #[.slice Ao9 t409.length co9, .slice Ao11 t412.length co11] 25 (0, 0)) (bv BK415.out) k_ hk_.2.1)⟩)) (below_size (bm HB))); have n6_ := Aside0.mk (blk_below (g := gb415) (o := .cells #[.slice Ao9 t409.length co9, .slice Ao11 t412.length co11] 25 (0, 0)) (bv BK415.out) hb); have n7_ := Aside0.mk (below_step (bm HB) hb); clear HO_4; clear HO_6; clear HO_416000; clear HO_416001; clear BK415; clear HB; have HO_4 := n0_; have HO_6 := n1_; have HO_416000 := n2_; have HO_416001 := n3_; have HO430 := n4_; have HO433 := n5_; have BK415 := n6_; have HB := n7_; clear n0_ n1_ n2_ n3_ n4_ n5_ n6_ n7_; (try clear hb); (try clear hb2); (try clear hk); (try clear hi); (try clear ho0); (try clear ho1)) | ((with_reducible refine gate_dst (N := 9) rfl ?_); (try (refine gate_guard (by rfl) ?_; dsimp only)); refine box_event ?hg (N := 9) ?hd (cs := #[.slice none 0 0, .slice none 0 0]) (t := 25) ?hr ?_; (case hd => rfl); (case hg => rfl); (case hr => first | (go_simp; done) | (go_simp; rfl)); intro gb435 hg w34 hbox hb; have n0_ := Aside0.mk (Kd.N_below (Kd.N_elderB (Kd.nv HO_4.out) gb435 (Nat.le_of_eq hg.symm)) hb); have n1_ := Aside0.mk (Kd.N_below (Kd.N_elderB (Kd.nv HO_6.out) gb435 (Nat.le_of_eq hg.symm)) hb); have n2_ := Aside0.mk (Kd.N_below (Kd.N_elderB (Kd.nv HO_416000.out) gb435 (Nat.le_of_eq hg.symm)) hb); have n3_ := Aside0.mk (Kd.N_below (Kd.N_elderB (Kd.nv HO_416001.out) gb435 (Nat.le_of_eq hg.symm)) hb); have n4_ := Aside0.mk (Kd.N_below (Kd.N_elderB (Kd.nv HO430.out) gb435 (Nat.le_of_eq hg.symm)) hb); have n5_ := Aside0.mk (Kd.N_below (Kd.N_elderB (Kd.nv HO433.out) gb435 (Nat.le_of_eq hg.symm)) hb); have n6_ := Aside0.mk (blk_below (g := gb415) (o := .cells #[.slice Ao9 t409.length co9, .slice Ao11 t412.length co11] 25 (0, 0)) (bv BK415.out) hb); have n7_ := Aside0.mk (below_step (bm HB) hb); have n8_ := Aside0.mk (hbox); have n9_ := Aside0.mk ((by rw [hg]; exact (below_size (bm HB)) : w.heap.size ≤ gb435)); have n10_ := Aside0.mk ((by rw [hg]; exact (below_size (bm HB)) : w.heap.size ≤ gb435)); have n11_ := Aside0.mk ((by rw [hg]; exact Nat.ne_of_lt (blk_lt (g := gb415) (o := .cells #[.slice Ao9 t409.length co9, .slice Ao11 t412.length co11] 25 (0, 0)) (bv BK415.out)) : gb415 ≠ gb435)); have n12_ := Aside0.mk ((by rw [hg]; exact Nat.ne_of_gt (blk_lt (g := gb415) (o := .cells #[.slice Ao9 t409.length co9, .slice Ao11 t412.length co11] 25 (0, 0)) (bv BK415.out)) : gb435 ≠ gb415)); clear HO_4; clear HO_6; clear HO_416000; clear HO_416001; clear HO430; clear HO433; clear BK415; clear HB; have HO_4 := n0_; have HO_6 := n1_; have HO_416000 := n2_; have HO_416001 := n3_; have HO430 := n4_; have HO433 := n5_; have BK415 := n6_; have HB := n7_; have BK435 := n8_; have GW435 := n9_; have GE435 := n10_; have NB415_435 := n11_; have NB435_415 := n12_; clear n0_ n1_ n2_ n3_ n4_ n5_ n6_ n7_ n8_ n9_ n10_ n11_ n12_; clear hb hbox hg; obtain ⟨Ao35, co35, eo35⟩ := Kd.N_slice HO430.out; subst eo35; have hnb36 := NB435_415.out; have hnc36 := NB415_435.out; have hcz37_0 : w34.cell? ⟨gb435, 0, none⟩ = some (.slice none 0 0) := (blk_cell BK435.out 0).trans rfl; have hcz37_1 : w34.cell? ⟨gb435, 1, none⟩ = some (.slice none 0 0) := (blk_cell BK435.out 1).trans rfl; have hfz37_0 := blk_frozen BK435.out 0; have hfz37_1 := blk_frozen BK435.out 1; obtain ⟨Ao38, co38, eo38⟩ := Kd.N_slice HO433.out; subst eo38)); try go_wp2_with (first | (go_at_call 30; (with_reducible refine (impl_PictureOf.calls k2 _ _ t416 t428 t431 t434 _ ?side1 ?side2 A31.out).mono ?_); (case side1 => repeat (first | exact (Kd.N_reads' HO_4.out).2.2 | (with_reducible refine Kd.C_drewN ?_ _) | (with_reducible refine Kd.C_drew ?_))); (case side2 => exact (Kd.N_reads' HO_4.out).2.1); rintro e w33 ⟨v429, v432, rfl, ho0, ho1, hb⟩; have n0_ := Aside0.mk (Kd.N_mono (Kd.N_told (Kd.N_told (Kd.N_old (Kd.nv HO_4.out) hb) (by first | exact Kd.N_base ho0 | exact Kd.R_base ho0)) (by first | exact Kd.N_base ho1 | exact Kd.R_base ho1)) (fun _ h_ => h_.1)); have n1_ := Aside0.mk (Kd.N_mono (Kd.N_told (Kd.N_told (Kd.N_old (Kd.nv HO_6.out) hb) (by first | exact Kd.N_base ho0 | exact Kd.R_base ho0)) (by first | exact Kd.N_base ho1 | exact Kd.R_base ho1)) (fun _ h_ => h_.1)); have n2_ := Aside0.mk (Kd.N_mono (Kd.N_told (Kd.N_told (Kd.N_old (Kd.nv HO_416000.out) hb) (by first | exact Kd.N_base ho0 | exact Kd.R_base ho0)) (by first | exact Kd.N_base ho1 | exact Kd.R_base ho1)) (fun _ h_ => h_.1)); have n3_ := Aside0.mk (Kd.N_mono (Kd.N_told (Kd.N_told (Kd.N_old (Kd.nv HO_416001.out) hb) (by first | exact Kd.N_base ho0 | exact Kd.R_base ho0)) (by first | exact Kd.N_base ho1 | exact Kd.R_base ho1)) (fun _ h_ => h_.1)); have n4_ := Aside0.mk (Kd.N_lower (Kd.N_mono (ok' := fun k_ => some k_ ≠ (v432 : Value).ownBlock ∧ some k_ ≠ (.slice Ao32 t416.length co32 : Value).ownBlock ∧ some k_ ≠ (v421 : Value).ownBlock ∧ some k_ ≠ (.slice Ao9 t409.length co9 : Value).ownBlock ∧ some k_ ≠ (.slice Ao11 t412.length co11 : Value).ownBlock ∧ k_ ≠ gb415) (Kd.R_N (Kd.R_bound ho0)) (fun k_ hk_ => ⟨hk_.1, (Kd.fresh' (Kd.N_lt (Kd.nv HO_4.out)) k_ hk_.2.1), (Kd.fresh' (Kd.N_lt (Kd.nv HO_6.out)) k_ hk_.2.1), (Kd.fresh' (Kd.N_lt (Kd.nv HO_416000.out)) k_ hk_.2.1), (Kd.fresh' (Kd.N_lt (Kd.nv HO_416001.out)) k_ hk_.2.1), (Kd.freshB (g := gb415) (o := .cells #[.slice Ao9 t409.length co9, .slice Ao11 t412.length co11] 25 (0, 0)) (bv BK415.out) k_ hk_.2.1)⟩)) (below_size (bm HB))); have n5_ := Aside0.mk (Kd.N_lower (Kd.N_mono (ok' := fun k_ => some k_ ≠ (v429 : Value).ownBlock ∧ some k_ ≠ (.slice Ao32 t416.length co32 : Value).ownBlock ∧ some k_ ≠ (v421 : Value).ownBlock ∧ some k_ ≠ (.slice Ao9 t409.length co9 : Value).ownBlock ∧ some k_ ≠ (.slice Ao11 t412.length co11 : Value).ownBlock ∧ k_ ≠ gb415) (Kd.R_N (Kd.R_bound ho1)) (fun k_ hk_ => ⟨hk_.1, (Kd.fresh' (Kd.N_lt (Kd.nv HO_4.out)) k_ hk_.2.1), (Kd.fresh' (Kd.N_lt (Kd.nv HO_6.out)) k_ hk_.2.1), (Kd.fresh' (Kd.N_lt (Kd.nv HO_416000.out)) k_ hk_.2.1), (Kd.fresh' (Kd.N_lt (Kd.nv HO_416001.out)) k_ hk_.2.1), (Kd.freshB (g := gb415) (o := .cells #[.slice Ao9 t409.length co9, .slice Ao11 t412.length co11] 25 (0, 0)) (bv BK415.out) k_ hk_.2.1)⟩)) (below_size (bm HB))); have n6_ := Aside0.mk (blk_below (g := gb415) (o := .cells #[.slice Ao9 t409.length co9, .slice Ao11 t412.length co11] 25 (0, 0)) (bv BK415.out) hb); have n7_ := Aside0.mk (below_step (bm HB) hb); clear HO_4; clear HO_6; clear HO_416000; clear HO_416001; clear BK415; clear HB; have HO_4 := n0_; have HO_6 := n1_; have HO_416000 := n2_; have HO_416001 := n3_; have HO430 := n4_; have HO433 := n5_; have BK415 := n6_; have HB := n7_; clear n0_ n1_ n2_ n3_ n4_ n5_ n6_ n7_; (try clear hb); (try clear hb2); (try clear hk); (try clear hi); (try clear ho0); (try clear ho1)) | ((with_reducible refine gate_dst (N := 9) rfl ?_); (try (refine gate_guard (by rfl) ?_; dsimp only)); refine box_event ?hg (N := 9) ?hd (cs := #[.slice none 0 0, .slice none 0 0]) (t := 25) ?hr ?_; (case hd => rfl); (case hg => rfl); (case hr => first | (go_simp; done) | (go_simp; rfl)); intro gb435 hg w34 hbox hb; have n0_ := Aside0.mk (Kd.N_below (Kd.N_elderB (Kd.nv HO_4.out) gb435 (Nat.le_of_eq hg.symm)) hb); have n1_ := Aside0.mk (Kd.N_below (Kd.N_elderB (Kd.nv HO_6.out) gb435 (Nat.le_of_eq hg.symm)) hb); have n2_ := Aside0.mk (Kd.N_below (Kd.N_elderB (Kd.nv HO_416000.out) gb435 (Nat.le_of_eq hg.symm)) hb); have n3_ := Aside0.mk (Kd.N_below (Kd.N_elderB (Kd.nv HO_416001.out) gb435 (Nat.le_of_eq hg.symm)) hb); have n4_ := Aside0.mk (Kd.N_below (Kd.N_elderB (Kd.nv HO430.out) gb435 (Nat.le_of_eq hg.symm)) hb); have n5_ := Aside0.mk (Kd.N_below (Kd.N_elderB (Kd.nv HO433.out) gb435 (Nat.le_of_eq hg.symm)) hb); have n6_ := Aside0.mk (blk_below (g := gb415) (o := .cells #[.slice Ao9 t409.length co9, .slice Ao11 t412.length co11] 25 (0, 0)) (bv BK415.out) hb); have n7_ := Aside0.mk (below_step (bm HB) hb); have n8_ := Aside0.mk (hbox); have n9_ := Aside0.mk ((by rw [hg]; exact (below_size (bm HB)) : w.heap.size ≤ gb435)); have n10_ := Aside0.mk ((by rw [hg]; exact (below_size (bm HB)) : w.heap.size ≤ gb435)); have n11_ := Aside0.mk ((by rw [hg]; exact Nat.ne_of_lt (blk_lt (g := gb415) (o := .cells #[.slice Ao9 t409.length co9, .slice Ao11 t412.length co11] 25 (0, 0)) (bv BK415.out)) : gb415 ≠ gb435)); have n12_ := Aside0.mk ((by rw [hg]; exact Nat.ne_of_gt (blk_lt (g := gb415) (o := .cells #[.slice Ao9 t409.length co9, .slice Ao11 t412.length co11] 25 (0, 0)) (bv BK415.out)) : gb435 ≠ gb415)); clear HO_4; clear HO_6; clear HO_416000; clear HO_416001; clear HO430; clear HO433; clear BK415; clear HB; have HO_4 := n0_; have HO_6 := n1_; have HO_416000 := n2_; have HO_416001 := n3_; have HO430 := n4_; have HO433 := n5_; have BK415 := n6_; have HB := n7_; have BK435 := n8_; have GW435 := n9_; have GE435 := n10_; have NB415_435 := n11_; have NB435_415 := n12_; clear n0_ n1_ n2_ n3_ n4_ n5_ n6_ n7_ n8_ n9_ n10_ n11_ n12_; clear hb hbox hg; obtain ⟨Ao35, co35, eo35⟩ := Kd.N_slice HO430.out; subst eo35; have hnb36 := NB435_415.out; have hnc36 := NB415_435.out; have hcz37_0 : w34.cell? ⟨gb435, 0, none⟩ = some (.slice none 0 0) := (blk_cell BK435.out 0).trans rfl; have hcz37_1 : w34.cell? ⟨gb435, 1, none⟩ = some (.slice none 0 0) := (blk_cell BK435.out 1).trans rfl; have hfz37_0 := blk_frozen BK435.out 0; have hfz37_1 := blk_frozen BK435.out 1; obtain ⟨Ao38, co38, eo38⟩ := Kd.N_slice HO433.out; subst eo38)))
         go_loopg [11] k2 (fun kq v11 w' => ∃ (x11_3 : Int), v11 = .int .i64 x11_3 ∧ Aside0 (laws_FnPictureFirst.l1 kq t434 x11_3 t409 t412 t428 t431 = some r) ∧ Aside0 (kq ≤ k2) ∧ Aside0 (Kd.N (Kd.slice 3 (Kd.int .i64)) 36 w' w.heap.size (fun k_ => some k_ ≠ ((.slice Ao11 t412.length co11) : Value).ownBlock ∧ some k_ ≠ ((.slice Ao35 t428.length co35) : Value).ownBlock ∧ some k_ ≠ ((.slice Ao38 t431.length co38) : Value).ownBlock ∧ k_ ≠ gb415 ∧ k_ ≠ gb435) (.slice Ao9 t409.length co9) t409) ∧ Aside0 (Kd.N (Kd.slice 3 (Kd.int .i64)) 36 w' w.heap.size (fun k_ => some k_ ≠ ((.slice Ao9 t409.length co9) : Value).ownBlock ∧ some k_ ≠ ((.slice Ao35 t428.length co35) : Value).ownBlock ∧ some k_ ≠ ((.slice Ao38 t431.length co38) : Value).ownBlock ∧ k_ ≠ gb415 ∧ k_ ≠ gb435) (.slice Ao11 t412.length co11) t412) ∧ Aside0 (Kd.N (Kd.slice 3 (Kd.int .i64)) 36 w' w.heap.size (fun k_ => some k_ ≠ ((.slice Ao9 t409.length co9) : Value).ownBlock ∧ some k_ ≠ ((.slice Ao11 t412.length co11) : Value).ownBlock ∧ some k_ ≠ ((.slice Ao38 t431.length co38) : Value).ownBlock ∧ k_ ≠ gb415 ∧ k_ ≠ gb435) (.slice Ao35 t428.length co35) t428) ∧ Aside0 (Kd.N (Kd.slice 3 (Kd.int .i64)) 36 w' w.heap.size (fun k_ => some k_ ≠ ((.slice Ao9 t409.length co9) : Value).ownBlock ∧ some k_ ≠ ((.slice Ao11 t412.length co11) : Value).ownBlock ∧ some k_ ≠ ((.slice Ao35 t428.length co35) : Value).ownBlock ∧ k_ ≠ gb415 ∧ k_ ≠ gb435) (.slice Ao38 t431.length co38) t431) ∧ Aside0 (w'.heap[gb415]? = some (.cells #[(.slice Ao9 t409.length co9), (.slice Ao11 t412.length co11)] 25 (0, 0))) ∧ Aside0 (w'.heap[gb435]? = some (.cells #[(.slice Ao35 t428.length co35), (.slice Ao38 t431.length co38)] 25 (0, 0))) ∧ Aside0 (Below w.heap.size w w'))
         case atStart => exact ⟨(0), (by first | rfl | (simp; done) | (simp [*]; done)), H', ⟨Nat.le_refl _⟩, ⟨by (with_reducible repeat (first | apply Kd.N_alloc | apply Kd.N_drewN | apply Kd.N_drew)); exact Kd.N_mono (Kd.N_far (p := ⟨gb435, 1, none⟩) (Kd.N_far (p := ⟨gb435, 0, none⟩) (Kd.N_mono HO_416000.out (fun k_ hk => (⟨hk, hk.2⟩ : _ ∧ k_ ≠ gb435))) (fun _ hk => hk.2) (.slice Ao35 t428.length co35)) (fun _ hk => hk.2) (.slice Ao38 t431.length co38)) (fun _ hk => ⟨hk.1.1.1.1.2.2.1, ⟨hk.1.1.1.2, ⟨hk.1.1.2, ⟨hk.1.1.1.1.2.2.2, hk.1.2⟩⟩⟩⟩)⟩, ⟨by (with_reducible repeat (first | apply Kd.N_alloc | apply Kd.N_drewN | apply Kd.N_drew)); exact Kd.N_mono (Kd.N_far (p := ⟨gb435, 1, none⟩) (Kd.N_far (p := ⟨gb435, 0, none⟩) (Kd.N_mono HO_416001.out (fun k_ hk => (⟨hk, hk.2⟩ : _ ∧ k_ ≠ gb435))) (fun _ hk => hk.2) (.slice Ao35 t428.length co35)) (fun _ hk => hk.2) (.slice Ao38 t431.length co38)) (fun _ hk => ⟨hk.1.1.1.1.2.2.1, ⟨hk.1.1.1.2, ⟨hk.1.1.2, ⟨hk.1.1.1.1.2.2.2, hk.1.2⟩⟩⟩⟩)⟩, ⟨by (with_reducible repeat (first | apply Kd.N_alloc | apply Kd.N_drewN | apply Kd.N_drew)); exact Kd.N_mono (Kd.N_far (p := ⟨gb435, 1, none⟩) (Kd.N_far (p := ⟨gb435, 0, none⟩) (Kd.N_mono HO430.out (fun k_ hk => (⟨hk, hk.2⟩ : _ ∧ k_ ≠ gb435))) (fun _ hk => hk.2) (.slice Ao35 t428.length co35)) (fun _ hk => hk.2) (.slice Ao38 t431.length co38)) (fun _ hk => ⟨hk.1.1.2.2.2.1, ⟨hk.1.1.2.2.2.2.1, ⟨hk.1.1.1, ⟨hk.1.1.2.2.2.2.2, hk.1.2⟩⟩⟩⟩)⟩, ⟨by (with_reducible repeat (first | apply Kd.N_alloc | apply Kd.N_drewN | apply Kd.N_drew)); exact Kd.N_mono (Kd.N_far (p := ⟨gb435, 1, none⟩) (Kd.N_far (p := ⟨gb435, 0, none⟩) (Kd.N_mono HO433.out (fun k_ hk => (⟨hk, hk.2⟩ : _ ∧ k_ ≠ gb435))) (fun _ hk => hk.2) (.slice Ao35 t428.length co35)) (fun _ hk => hk.2) (.slice Ao38 t431.length co38)) (fun _ hk => ⟨hk.1.1.2.2.2.1, ⟨hk.1.1.2.2.2.2.1, ⟨hk.1.1.1, ⟨hk.1.1.2.2.2.2.2, hk.1.2⟩⟩⟩⟩)⟩, ⟨by (with_reducible repeat (first | refine blk_drewN ?_ _ | refine blk_drew ?_ | refine blk_alloc ?_ _)); refine blk_far ?_ NB415_435.out _; (with_reducible repeat (first | refine blk_drewN ?_ _ | refine blk_drew ?_ | refine blk_alloc ?_ _)); refine blk_far ?_ NB415_435.out _; (with_reducible repeat (first | refine blk_drewN ?_ _ | refine blk_drew ?_ | refine blk_alloc ?_ _)); exact BK415.out⟩, ⟨by (with_reducible repeat (first | refine blk_drewN ?_ _ | refine blk_drew ?_ | refine blk_alloc ?_ _)); refine blk_put (cs := #[.slice Ao35 t428.length co35, .slice none 0 0]) ?_ 1 _ rfl; (with_reducible repeat (first | refine blk_drewN ?_ _ | refine blk_drew ?_ | refine blk_alloc ?_ _)); refine blk_put (cs := #[.slice none 0 0, .slice none 0 0]) ?_ 0 _ rfl; (with_reducible repeat (first | refine blk_drewN ?_ _ | refine blk_drew ?_ | refine blk_alloc ?_ _)); exact BK435.out⟩, ⟨by repeat (first | exact HB.out | refine below_set ?_ GE435.out)⟩⟩
         case round =>
          clear H'
          try clear c1
          try clear c2
          try clear c2b0
          try clear c2b1
          try clear p2
          try clear c3
          try clear c4
          try clear p4
          try clear q4
          try clear hx4
          try clear p6
          try clear c12
          try clear c15
          try clear c15b0
          try clear c15b1
          try clear c15b2
          try clear c20
          try clear c21
          try clear c22
          try clear c22b0
          try clear c23
          try clear c23b0
          try clear c24
          try clear c24b0
          try clear c26
          try clear c36
          try clear hcz10_0
          try clear hcz10_1
          try clear hcz13_0
          try clear hcz13_1
          try clear hcz37_0
          try clear hcz37_1
          try clear hfz10_0
          try clear hfz10_1
          try clear hfz13_0
          try clear hfz13_1
          try clear hfz37_0
          try clear hfz37_1
          try clear hx425_0
          try clear hx426_0
          try clear p2
          try clear p425
          try clear p426
          try clear q425
          try clear q426
          obtain ⟨x11_3, rfl, HA, HK3, HO_416000, HO_416001, HO_436000, HO_436001, BK415, BK435, HB⟩ := hrel
          cases gk with
          | zero => exact absurd HA.out (by simp [laws_FnPictureFirst.l1])
          | succ k3 =>
           have H := HA.out
           clear HA
           simp only [laws_FnPictureFirst.l1] at H
           by_cases c39 : x11_3 < (t409.length : Int)
           ·rw [if_pos c39] at H
            have c39b0 : decide (x11_3 < (t409.length : Int)) = true := decide_eq_true c39
            clear c39
            by_cases c40 : x11_3 ≥ (t428.length : Int)
            ·rw [if_pos c40] at H
             have c40b0 : decide ((t428.length : Int) ≤ x11_3) = true := decide_eq_true c40
             clear c40
             obtain rfl := Option.some.inj H
             have hnb41 := NB415_435.out
             have hnc41 := NB435_415.out
             have hcz42_0 : wr.cell? ⟨gb415, 0, none⟩ = some (.slice Ao9 t409.length co9) := (blk_cell BK415.out 0).trans rfl
             have hcz42_1 : wr.cell? ⟨gb415, 1, none⟩ = some (.slice Ao11 t412.length co11) := (blk_cell BK415.out 1).trans rfl
             have hfz42_0 := blk_frozen BK415.out 0
             have hfz42_1 := blk_frozen BK415.out 1
             have hcz43_0 : wr.cell? ⟨gb435, 0, none⟩ = some (.slice Ao35 t428.length co35) := (blk_cell BK435.out 0).trans rfl
             have hcz43_1 : wr.cell? ⟨gb435, 1, none⟩ = some (.slice Ao38 t431.length co38) := (blk_cell BK435.out 1).trans rfl
             have hfz43_0 := blk_frozen BK435.out 0
             have hfz43_1 := blk_frozen BK435.out 1
             go_wp2
             repeat (go_quiet (fail); try go_wp2)
             go_ret
             exact ⟨by first | rfl | (simp [errW_none, errW_some] <;> rfl) | (simp [*, errW_none, errW_some] <;> rfl), bm HB⟩
            ·rw [if_neg c40] at H
             have c40b0 : decide ((t428.length : Int) ≤ x11_3) = false := decide_eq_false c40
             clear c40
             have q_ := ifs H
             clear H
             obtain ⟨c44, H⟩ := q_
             have c44b0 : decide (0 ≤ x11_3) = true := decide_eq_true c44
             clear c44
             have q_ := ifs H
             clear H
             obtain ⟨c45, H⟩ := q_
             have c45b0 : decide (x11_3 < (t428.length : Int)) = true := decide_eq_true c45
             clear c45
             replace H := Option.bind_eq_some_iff.mp H
             obtain ⟨t438, A460, H⟩ := H
             replace H : (if t438 = true then (laws_FnPictureFirst.l1 k3 t434 (wrap64 (x11_3 + 1)) t409 t412 t428 t431) else (some false)) = some r := H
             have A46 := Aside0.mk A460
             clear A460
             by_cases c47 : t438 = true
             ·subst c47
              have H1 : (laws_FnPictureFirst.l1 k3 t434 (wrap64 (x11_3 + 1)) t409 t412 t428 t431) = some r := by rw [if_pos rfl] at H; exact H
              clear H
              have H := H1
              clear H1
              have H' := Aside0.mk H
              clear H
              have hnb48 := NB415_435.out
              have hnc48 := NB435_415.out
              have hcz49_0 : wr.cell? ⟨gb415, 0, none⟩ = some (.slice Ao9 t409.length co9) := (blk_cell BK415.out 0).trans rfl
              have hcz49_1 : wr.cell? ⟨gb415, 1, none⟩ = some (.slice Ao11 t412.length co11) := (blk_cell BK415.out 1).trans rfl
              have hfz49_0 := blk_frozen BK415.out 0
              have hfz49_1 := blk_frozen BK415.out 1
              have hcz50_0 : wr.cell? ⟨gb435, 0, none⟩ = some (.slice Ao35 t428.length co35) := (blk_cell BK435.out 0).trans rfl
              have hcz50_1 : wr.cell? ⟨gb435, 1, none⟩ = some (.slice Ao38 t431.length co38) := (blk_cell BK435.out 1).trans rfl
              have hfz50_0 := blk_frozen BK435.out 0
              have hfz50_1 := blk_frozen BK435.out 1
              have p436 : 0 ≤ (x11_3 : Int) := of_decide_eq_true (by first | (with_reducible assumption) | assumption)
              have q436 : x11_3 < (t428.length : Int) := of_decide_eq_true (by first | (with_reducible assumption) | assumption)
              obtain ⟨ad436, A436_0, c436_0, e436, hx436_0, hl436_0, hi436_0⟩ := at_L1 (Kd.N_reads' HO_436000.out).2.2 x11_3 p436 q436
              cases e436
              obtain ⟨ce436, hce436, hMe436, hcc436⟩ := Kd.N_get HO_436000.out [] x11_3 p436 (by first | exact q436 | exact of_decide_eq_true (by first | (with_reducible assumption) | assumption) | (have e_ := (Kd.N_reads' HO_436000.out).1; omega))
              obtain ⟨ua436_0, uc436_0, rfl, ul436_0, ge436_0⟩ := Kd.FK_slice_open hMe436
              have hv436_0 := hcc436 0 _ rfl
              rw [Nat.add_zero, show ((Kd.slice 3 (Kd.int .i64))).sz = 1 from rfl, Nat.mul_one] at hv436_0
              replace hv436_0 := Option.some.inj (hv436_0.symm.trans hx436_0)
              injection hv436_0 with hva_ hvn_ hvc_
              rw [hva_] at ge436_0
              rw [hvc_] at ul436_0
              have HL436_0 := Aside0.mk (show Kd.V (Kd.int .i64) 3 _ w.heap.size _ _ (rd_L1 t428 x11_3) from Kd.V_mk ul436_0 ge436_0)
              clear hva_ hvn_ hvc_ ge436_0 ul436_0 hcc436 hce436
              have HR436_0 := Aside0.mk hi436_0
              have HC436_0 := Aside0.mk hl436_0
              clear hi436_0 hl436_0
              replace p436 := eq_true p436
              replace q436 := eq_true q436
              have p437 : 0 ≤ (x11_3 : Int) := of_decide_eq_true (by first | (with_reducible assumption) | assumption)
              have q437 : x11_3 < (t409.length : Int) := of_decide_eq_true (by first | (with_reducible assumption) | assumption)
              obtain ⟨ad437, A437_0, c437_0, e437, hx437_0, hl437_0, hi437_0⟩ := at_L1 (Kd.N_reads' HO_416000.out).2.2 x11_3 p437 q437
              cases e437
              obtain ⟨ce437, hce437, hMe437, hcc437⟩ := Kd.N_get HO_416000.out [] x11_3 p437 (by first | exact q437 | exact of_decide_eq_true (by first | (with_reducible assumption) | assumption) | (have e_ := (Kd.N_reads' HO_416000.out).1; omega))
              obtain ⟨ua437_0, uc437_0, rfl, ul437_0, ge437_0⟩ := Kd.FK_slice_open hMe437
              have hv437_0 := hcc437 0 _ rfl
              rw [Nat.add_zero, show ((Kd.slice 3 (Kd.int .i64))).sz = 1 from rfl, Nat.mul_one] at hv437_0
              replace hv437_0 := Option.some.inj (hv437_0.symm.trans hx437_0)
              injection hv437_0 with hva_ hvn_ hvc_
              rw [hva_] at ge437_0
              rw [hvc_] at ul437_0
              have HL437_0 := Aside0.mk (show Kd.V (Kd.int .i64) 3 _ w.heap.size _ _ (rd_L1 t409 x11_3) from Kd.V_mk ul437_0 ge437_0)
              clear hva_ hvn_ hvc_ ge437_0 ul437_0 hcc437 hce437
              have HR437_0 := Aside0.mk hi437_0
              have HC437_0 := Aside0.mk hl437_0
              clear hi437_0 hl437_0
              replace p437 := eq_true p437
              replace q437 := eq_true q437
              go_wp2_with (first | (go_at_call 21; (with_reducible refine (laws_sameInts.calls k3 _ _ (rd_L1 t428 x11_3) _ _ (rd_L1 t409 x11_3) true _ ?side1 ?side2 ?side3 ?side4 A46.out).mono ?_); (case side1 => repeat (first | exact (by repeat (first | (with_reducible exact HR436_0.out) | (with_reducible refine Kd.C_drewN ?_ _) | (with_reducible refine Kd.C_drew ?_) | exact HR436_0.out)) | (with_reducible refine Kd.C_drewN ?_ _) | (with_reducible refine Kd.C_drew ?_))); (case side2 => exact HC436_0.out); (case side3 => repeat (first | exact (by repeat (first | (with_reducible exact HR437_0.out) | (with_reducible refine Kd.C_drewN ?_ _) | (with_reducible refine Kd.C_drew ?_) | exact HR437_0.out)) | (with_reducible refine Kd.C_drewN ?_ _) | (with_reducible refine Kd.C_drew ?_))); (case side4 => exact HC437_0.out); rintro e w' ⟨rfl, ⟨nd, rfl⟩⟩; (try first | exact ⟨rfl, _, World.drewN_drewN _ _ _⟩ | exact ⟨rfl, _, Eq.trans (World.drewN_drewN _ _ _) (congrArg (World.drewN _) (Nat.add_assoc _ _ _))⟩)))
              repeat (go_quiet (first | (go_at_call 21; (with_reducible refine (laws_sameInts.calls k3 _ _ (rd_L1 t428 x11_3) _ _ (rd_L1 t409 x11_3) true _ ?side1 ?side2 ?side3 ?side4 A46.out).mono ?_); (case side1 => repeat (first | exact (by repeat (first | (with_reducible exact HR436_0.out) | (with_reducible refine Kd.C_drewN ?_ _) | (with_reducible refine Kd.C_drew ?_) | exact HR436_0.out)) | (with_reducible refine Kd.C_drewN ?_ _) | (with_reducible refine Kd.C_drew ?_))); (case side2 => exact HC436_0.out); (case side3 => repeat (first | exact (by repeat (first | (with_reducible exact HR437_0.out) | (with_reducible refine Kd.C_drewN ?_ _) | (with_reducible refine Kd.C_drew ?_) | exact HR437_0.out)) | (with_reducible refine Kd.C_drewN ?_ _) | (with_reducible refine Kd.C_drew ?_))); (case side4 => exact HC437_0.out); rintro e w' ⟨rfl, ⟨nd, rfl⟩⟩; (try first | exact ⟨rfl, _, World.drewN_drewN _ _ _⟩ | exact ⟨rfl, _, Eq.trans (World.drewN_drewN _ _ _) (congrArg (World.drewN _) (Nat.add_assoc _ _ _))⟩))); try go_wp2_with (first | (go_at_call 21; (with_reducible refine (laws_sameInts.calls k3 _ _ (rd_L1 t428 x11_3) _ _ (rd_L1 t409 x11_3) true _ ?side1 ?side2 ?side3 ?side4 A46.out).mono ?_); (case side1 => repeat (first | exact (by repeat (first | (with_reducible exact HR436_0.out) | (with_reducible refine Kd.C_drewN ?_ _) | (with_reducible refine Kd.C_drew ?_) | exact HR436_0.out)) | (with_reducible refine Kd.C_drewN ?_ _) | (with_reducible refine Kd.C_drew ?_))); (case side2 => exact HC436_0.out); (case side3 => repeat (first | exact (by repeat (first | (with_reducible exact HR437_0.out) | (with_reducible refine Kd.C_drewN ?_ _) | (with_reducible refine Kd.C_drew ?_) | exact HR437_0.out)) | (with_reducible refine Kd.C_drewN ?_ _) | (with_reducible refine Kd.C_drew ?_))); (case side4 => exact HC437_0.out); rintro e w' ⟨rfl, ⟨nd, rfl⟩⟩; (try first | exact ⟨rfl, _, World.drewN_drewN _ _ _⟩ | exact ⟨rfl, _, Eq.trans (World.drewN_drewN _ _ _) (congrArg (World.drewN _) (Nat.add_assoc _ _ _))⟩))))
              go_roundg k3
              case measure => have := HJ5.out; have := HK2.out; have := HK3.out; omega
              case rel => exact ⟨(wrap64 (x11_3 + 1)), (by first | rfl | (simp; done) | (simp [*]; done)), H', ⟨by have := HJ5.out; have := HK2.out; have := HK3.out; omega⟩, ⟨Kd.nv HO_416000.out⟩, ⟨Kd.nv HO_416001.out⟩, ⟨Kd.nv HO_436000.out⟩, ⟨Kd.nv HO_436001.out⟩, ⟨bv BK415.out⟩, ⟨bv BK435.out⟩, ⟨bm HB⟩⟩
             ·replace c47 := Bool.eq_false_iff.mpr c47
              subst c47
              have H1 : (some false) = some r := by rw [if_neg (show ¬ (false = true) by decide)] at H; exact H
              clear H
              have H := H1
              clear H1
              obtain rfl := Option.some.inj H
              have hnb51 := NB415_435.out
              have hnc51 := NB435_415.out
              have hcz52_0 : wr.cell? ⟨gb415, 0, none⟩ = some (.slice Ao9 t409.length co9) := (blk_cell BK415.out 0).trans rfl
              have hcz52_1 : wr.cell? ⟨gb415, 1, none⟩ = some (.slice Ao11 t412.length co11) := (blk_cell BK415.out 1).trans rfl
              have hfz52_0 := blk_frozen BK415.out 0
              have hfz52_1 := blk_frozen BK415.out 1
              have hcz53_0 : wr.cell? ⟨gb435, 0, none⟩ = some (.slice Ao35 t428.length co35) := (blk_cell BK435.out 0).trans rfl
              have hcz53_1 : wr.cell? ⟨gb435, 1, none⟩ = some (.slice Ao38 t431.length co38) := (blk_cell BK435.out 1).trans rfl
              have hfz53_0 := blk_frozen BK435.out 0
              have hfz53_1 := blk_frozen BK435.out 1
              have p436 : 0 ≤ (x11_3 : Int) := of_decide_eq_true (by first | (with_reducible assumption) | assumption)
              have q436 : x11_3 < (t428.length : Int) := of_decide_eq_true (by first | (with_reducible assumption) | assumption)
              obtain ⟨ad436, A436_0, c436_0, e436, hx436_0, hl436_0, hi436_0⟩ := at_L1 (Kd.N_reads' HO_436000.out).2.2 x11_3 p436 q436
              cases e436
              obtain ⟨ce436, hce436, hMe436, hcc436⟩ := Kd.N_get HO_436000.out [] x11_3 p436 (by first | exact q436 | exact of_decide_eq_true (by first | (with_reducible assumption) | assumption) | (have e_ := (Kd.N_reads' HO_436000.out).1; omega))
              obtain ⟨ua436_0, uc436_0, rfl, ul436_0, ge436_0⟩ := Kd.FK_slice_open hMe436
              have hv436_0 := hcc436 0 _ rfl
              rw [Nat.add_zero, show ((Kd.slice 3 (Kd.int .i64))).sz = 1 from rfl, Nat.mul_one] at hv436_0
              replace hv436_0 := Option.some.inj (hv436_0.symm.trans hx436_0)
              injection hv436_0 with hva_ hvn_ hvc_
              rw [hva_] at ge436_0
              rw [hvc_] at ul436_0
              have HL436_0 := Aside0.mk (show Kd.V (Kd.int .i64) 3 _ w.heap.size _ _ (rd_L1 t428 x11_3) from Kd.V_mk ul436_0 ge436_0)
              clear hva_ hvn_ hvc_ ge436_0 ul436_0 hcc436 hce436
              have HR436_0 := Aside0.mk hi436_0
              have HC436_0 := Aside0.mk hl436_0
              clear hi436_0 hl436_0
              replace p436 := eq_true p436
              replace q436 := eq_true q436
              have p437 : 0 ≤ (x11_3 : Int) := of_decide_eq_true (by first | (with_reducible assumption) | assumption)
              have q437 : x11_3 < (t409.length : Int) := of_decide_eq_true (by first | (with_reducible assumption) | assumption)
              obtain ⟨ad437, A437_0, c437_0, e437, hx437_0, hl437_0, hi437_0⟩ := at_L1 (Kd.N_reads' HO_416000.out).2.2 x11_3 p437 q437
              cases e437
              obtain ⟨ce437, hce437, hMe437, hcc437⟩ := Kd.N_get HO_416000.out [] x11_3 p437 (by first | exact q437 | exact of_decide_eq_true (by first | (with_reducible assumption) | assumption) | (have e_ := (Kd.N_reads' HO_416000.out).1; omega))
              obtain ⟨ua437_0, uc437_0, rfl, ul437_0, ge437_0⟩ := Kd.FK_slice_open hMe437
              have hv437_0 := hcc437 0 _ rfl
              rw [Nat.add_zero, show ((Kd.slice 3 (Kd.int .i64))).sz = 1 from rfl, Nat.mul_one] at hv437_0
              replace hv437_0 := Option.some.inj (hv437_0.symm.trans hx437_0)
              injection hv437_0 with hva_ hvn_ hvc_
              rw [hva_] at ge437_0
              rw [hvc_] at ul437_0
              have HL437_0 := Aside0.mk (show Kd.V (Kd.int .i64) 3 _ w.heap.size _ _ (rd_L1 t409 x11_3) from Kd.V_mk ul437_0 ge437_0)
              clear hva_ hvn_ hvc_ ge437_0 ul437_0 hcc437 hce437
              have HR437_0 := Aside0.mk hi437_0
              have HC437_0 := Aside0.mk hl437_0
              clear hi437_0 hl437_0
              replace p437 := eq_true p437
              replace q437 := eq_true q437
              go_wp2_with (first | (go_at_call 21; (with_reducible refine (laws_sameInts.calls k3 _ _ (rd_L1 t428 x11_3) _ _ (rd_L1 t409 x11_3) false _ ?side1 ?side2 ?side3 ?side4 A46.out).mono ?_); (case side1 => repeat (first | exact (by repeat (first | (with_reducible exact HR436_0.out) | (with_reducible refine Kd.C_drewN ?_ _) | (with_reducible refine Kd.C_drew ?_) | exact HR436_0.out)) | (with_reducible refine Kd.C_drewN ?_ _) | (with_reducible refine Kd.C_drew ?_))); (case side2 => exact HC436_0.out); (case side3 => repeat (first | exact (by repeat (first | (with_reducible exact HR437_0.out) | (with_reducible refine Kd.C_drewN ?_ _) | (with_reducible refine Kd.C_drew ?_) | exact HR437_0.out)) | (with_reducible refine Kd.C_drewN ?_ _) | (with_reducible refine Kd.C_drew ?_))); (case side4 => exact HC437_0.out); rintro e w' ⟨rfl, ⟨nd, rfl⟩⟩; (try first | exact ⟨rfl, _, World.drewN_drewN _ _ _⟩ | exact ⟨rfl, _, Eq.trans (World.drewN_drewN _ _ _) (congrArg (World.drewN _) (Nat.add_assoc _ _ _))⟩)))
              repeat (go_quiet (first | (go_at_call 21; (with_reducible refine (laws_sameInts.calls k3 _ _ (rd_L1 t428 x11_3) _ _ (rd_L1 t409 x11_3) false _ ?side1 ?side2 ?side3 ?side4 A46.out).mono ?_); (case side1 => repeat (first | exact (by repeat (first | (with_reducible exact HR436_0.out) | (with_reducible refine Kd.C_drewN ?_ _) | (with_reducible refine Kd.C_drew ?_) | exact HR436_0.out)) | (with_reducible refine Kd.C_drewN ?_ _) | (with_reducible refine Kd.C_drew ?_))); (case side2 => exact HC436_0.out); (case side3 => repeat (first | exact (by repeat (first | (with_reducible exact HR437_0.out) | (with_reducible refine Kd.C_drewN ?_ _) | (with_reducible refine Kd.C_drew ?_) | exact HR437_0.out)) | (with_reducible refine Kd.C_drewN ?_ _) | (with_reducible refine Kd.C_drew ?_))); (case side4 => exact HC437_0.out); rintro e w' ⟨rfl, ⟨nd, rfl⟩⟩; (try first | exact ⟨rfl, _, World.drewN_drewN _ _ _⟩ | exact ⟨rfl, _, Eq.trans (World.drewN_drewN _ _ _) (congrArg (World.drewN _) (Nat.add_assoc _ _ _))⟩))); try go_wp2_with (first | (go_at_call 21; (with_reducible refine (laws_sameInts.calls k3 _ _ (rd_L1 t428 x11_3) _ _ (rd_L1 t409 x11_3) false _ ?side1 ?side2 ?side3 ?side4 A46.out).mono ?_); (case side1 => repeat (first | exact (by repeat (first | (with_reducible exact HR436_0.out) | (with_reducible refine Kd.C_drewN ?_ _) | (with_reducible refine Kd.C_drew ?_) | exact HR436_0.out)) | (with_reducible refine Kd.C_drewN ?_ _) | (with_reducible refine Kd.C_drew ?_))); (case side2 => exact HC436_0.out); (case side3 => repeat (first | exact (by repeat (first | (with_reducible exact HR437_0.out) | (with_reducible refine Kd.C_drewN ?_ _) | (with_reducible refine Kd.C_drew ?_) | exact HR437_0.out)) | (with_reducible refine Kd.C_drewN ?_ _) | (with_reducible refine Kd.C_drew ?_))); (case side4 => exact HC437_0.out); rintro e w' ⟨rfl, ⟨nd, rfl⟩⟩; (try first | exact ⟨rfl, _, World.drewN_drewN _ _ _⟩ | exact ⟨rfl, _, Eq.trans (World.drewN_drewN _ _ _) (congrArg (World.drewN _) (Nat.add_assoc _ _ _))⟩))))
              go_ret
              exact ⟨by first | rfl | (simp [errW_none, errW_some] <;> rfl) | (simp [*, errW_none, errW_some] <;> rfl), bm HB⟩
           ·rw [if_neg c39] at H
            have c39b0 : decide (x11_3 < (t409.length : Int)) = false := decide_eq_false c39
            clear c39
            have H' := Aside0.mk H
            clear H
            have hnb54 := NB415_435.out
            have hnc54 := NB435_415.out
            have hcz55_0 : wr.cell? ⟨gb415, 0, none⟩ = some (.slice Ao9 t409.length co9) := (blk_cell BK415.out 0).trans rfl
            have hcz55_1 : wr.cell? ⟨gb415, 1, none⟩ = some (.slice Ao11 t412.length co11) := (blk_cell BK415.out 1).trans rfl
            have hfz55_0 := blk_frozen BK415.out 0
            have hfz55_1 := blk_frozen BK415.out 1
            go_wp2
            repeat (go_quiet (fail); try go_wp2)
            go_loopg [12] k3 (fun kq v12 w' => ∃ (x12_4 : Int), v12 = .int .i64 x12_4 ∧ Aside0 (laws_FnPictureFirst.l2 kq t434 x12_4 t409 t412 t428 t431 = some r) ∧ Aside0 (kq ≤ k3) ∧ Aside0 (Kd.N (Kd.slice 3 (Kd.int .i64)) 36 w' w.heap.size (fun k_ => some k_ ≠ ((.slice Ao11 t412.length co11) : Value).ownBlock ∧ some k_ ≠ ((.slice Ao35 t428.length co35) : Value).ownBlock ∧ some k_ ≠ ((.slice Ao38 t431.length co38) : Value).ownBlock ∧ k_ ≠ gb415 ∧ k_ ≠ gb435) (.slice Ao9 t409.length co9) t409) ∧ Aside0 (Kd.N (Kd.slice 3 (Kd.int .i64)) 36 w' w.heap.size (fun k_ => some k_ ≠ ((.slice Ao9 t409.length co9) : Value).ownBlock ∧ some k_ ≠ ((.slice Ao35 t428.length co35) : Value).ownBlock ∧ some k_ ≠ ((.slice Ao38 t431.length co38) : Value).ownBlock ∧ k_ ≠ gb415 ∧ k_ ≠ gb435) (.slice Ao11 t412.length co11) t412) ∧ Aside0 (Kd.N (Kd.slice 3 (Kd.int .i64)) 36 w' w.heap.size (fun k_ => some k_ ≠ ((.slice Ao9 t409.length co9) : Value).ownBlock ∧ some k_ ≠ ((.slice Ao11 t412.length co11) : Value).ownBlock ∧ some k_ ≠ ((.slice Ao38 t431.length co38) : Value).ownBlock ∧ k_ ≠ gb415 ∧ k_ ≠ gb435) (.slice Ao35 t428.length co35) t428) ∧ Aside0 (Kd.N (Kd.slice 3 (Kd.int .i64)) 36 w' w.heap.size (fun k_ => some k_ ≠ ((.slice Ao9 t409.length co9) : Value).ownBlock ∧ some k_ ≠ ((.slice Ao11 t412.length co11) : Value).ownBlock ∧ some k_ ≠ ((.slice Ao35 t428.length co35) : Value).ownBlock ∧ k_ ≠ gb415 ∧ k_ ≠ gb435) (.slice Ao38 t431.length co38) t431) ∧ Aside0 (w'.heap[gb415]? = some (.cells #[(.slice Ao9 t409.length co9), (.slice Ao11 t412.length co11)] 25 (0, 0))) ∧ Aside0 (w'.heap[gb435]? = some (.cells #[(.slice Ao35 t428.length co35), (.slice Ao38 t431.length co38)] 25 (0, 0))) ∧ Aside0 (Below w.heap.size w w'))
            case atStart => exact ⟨(0), (by first | rfl | (simp; done) | (simp [*]; done)), H', ⟨Nat.le_refl _⟩, ⟨Kd.nv HO_416000.out⟩, ⟨Kd.nv HO_416001.out⟩, ⟨Kd.nv HO_436000.out⟩, ⟨Kd.nv HO_436001.out⟩, ⟨bv BK415.out⟩, ⟨bv BK435.out⟩, ⟨bm HB⟩⟩
            case round =>
             clear H'
             try clear c1
             try clear c2
             try clear c2b0
             try clear c2b1
             try clear p2
             try clear c3
             try clear c4
             try clear p4
             try clear q4
             try clear hx4
             try clear c5
             try clear p6
             try clear c12
             try clear c15
             try clear c15b0
             try clear c15b1
             try clear c15b2
             try clear c20
             try clear c21
             try clear c22
             try clear c22b0
             try clear c23
             try clear c23b0
             try clear c24
             try clear c24b0
             try clear c26
             try clear c36
             try clear c39
             try clear c39b0
             try clear c40
             try clear c40b0
             try clear c41
             try clear c42
             try clear p42
             try clear q42
             try clear hx42
             try clear c43
             try clear p43
             try clear q43
             try clear hx43
             try clear c44
             try clear c44b0
             try clear c45
             try clear c45b0
             try clear c47
             try clear c48
             try clear c51
             try clear c54
             try clear hcz10_0
             try clear hcz10_1
             try clear hcz13_0
             try clear hcz13_1
             try clear hcz37_0
             try clear hcz37_1
             try clear hcz42_0
             try clear hcz42_1
             try clear hcz43_0
             try clear hcz43_1
             try clear hcz49_0
             try clear hcz49_1
             try clear hcz50_0
             try clear hcz50_1
             try clear hcz52_0
             try clear hcz52_1
             try clear hcz53_0
             try clear hcz53_1
             try clear hcz55_0
             try clear hcz55_1
             try clear hfz10_0
             try clear hfz10_1
             try clear hfz13_0
             try clear hfz13_1
             try clear hfz37_0
             try clear hfz37_1
             try clear hfz42_0
             try clear hfz42_1
             try clear hfz43_0
             try clear hfz43_1
             try clear hfz49_0
             try clear hfz49_1
             try clear hfz50_0
             try clear hfz50_1
             try clear hfz52_0
             try clear hfz52_1
             try clear hfz53_0
             try clear hfz53_1
             try clear hfz55_0
             try clear hfz55_1
             try clear hx425_0
             try clear hx426_0
             try clear hx436_0
             try clear hx437_0
             try clear p2
             try clear p4
             try clear p425
             try clear p426
             try clear p436
             try clear p437
             try clear p6
             try clear q4
             try clear q425
             try clear q426
             try clear q436
             try clear q437
             obtain ⟨x12_4, rfl, HA, HK4, HO_416000, HO_416001, HO_436000, HO_436001, BK415, BK435, HB⟩ := hrel
             cases gk with
             | zero => exact absurd HA.out (by simp [laws_FnPictureFirst.l2])
             | succ k4 =>
              have H := HA.out
              clear HA
              simp only [laws_FnPictureFirst.l2] at H
              by_cases c56 : x12_4 < (t412.length : Int)
              ·rw [if_pos c56] at H
               have c56b0 : decide (x12_4 < (t412.length : Int)) = true := decide_eq_true c56
               clear c56
               by_cases c57 : x12_4 ≥ (t431.length : Int)
               ·rw [if_pos c57] at H
                have c57b0 : decide ((t431.length : Int) ≤ x12_4) = true := decide_eq_true c57
                clear c57
                obtain rfl := Option.some.inj H
                have hnb58 := NB415_435.out
                have hnc58 := NB435_415.out
                have hcz59_0 : wr.cell? ⟨gb415, 0, none⟩ = some (.slice Ao9 t409.length co9) := (blk_cell BK415.out 0).trans rfl
                have hcz59_1 : wr.cell? ⟨gb415, 1, none⟩ = some (.slice Ao11 t412.length co11) := (blk_cell BK415.out 1).trans rfl
                have hfz59_0 := blk_frozen BK415.out 0
                have hfz59_1 := blk_frozen BK415.out 1
                have hcz60_0 : wr.cell? ⟨gb435, 0, none⟩ = some (.slice Ao35 t428.length co35) := (blk_cell BK435.out 0).trans rfl
                have hcz60_1 : wr.cell? ⟨gb435, 1, none⟩ = some (.slice Ao38 t431.length co38) := (blk_cell BK435.out 1).trans rfl
                have hfz60_0 := blk_frozen BK435.out 0
                have hfz60_1 := blk_frozen BK435.out 1
                go_wp2
                repeat (go_quiet (fail); try go_wp2)
                go_ret
                exact ⟨by first | rfl | (simp [errW_none, errW_some] <;> rfl) | (simp [*, errW_none, errW_some] <;> rfl), bm HB⟩
               ·rw [if_neg c57] at H
                have c57b0 : decide ((t431.length : Int) ≤ x12_4) = false := decide_eq_false c57
                clear c57
                have q_ := ifs H
                clear H
                obtain ⟨c61, H⟩ := q_
                have c61b0 : decide (0 ≤ x12_4) = true := decide_eq_true c61
                clear c61
                have q_ := ifs H
                clear H
                obtain ⟨c62, H⟩ := q_
                have c62b0 : decide (x12_4 < (t431.length : Int)) = true := decide_eq_true c62
                clear c62
                replace H := Option.bind_eq_some_iff.mp H
                obtain ⟨t441, A630, H⟩ := H
                replace H : (if t441 = true then (laws_FnPictureFirst.l2 k4 t434 (wrap64 (x12_4 + 1)) t409 t412 t428 t431) else (some false)) = some r := H
                have A63 := Aside0.mk A630
                clear A630
                by_cases c64 : t441 = true
                ·subst c64
                 have H1 : (laws_FnPictureFirst.l2 k4 t434 (wrap64 (x12_4 + 1)) t409 t412 t428 t431) = some r := by rw [if_pos rfl] at H; exact H
                 clear H
                 have H := H1
                 clear H1
                 have H' := Aside0.mk H
                 clear H
                 have hnb65 := NB415_435.out
                 have hnc65 := NB435_415.out
                 have hcz66_0 : wr.cell? ⟨gb415, 0, none⟩ = some (.slice Ao9 t409.length co9) := (blk_cell BK415.out 0).trans rfl
                 have hcz66_1 : wr.cell? ⟨gb415, 1, none⟩ = some (.slice Ao11 t412.length co11) := (blk_cell BK415.out 1).trans rfl
                 have hfz66_0 := blk_frozen BK415.out 0
                 have hfz66_1 := blk_frozen BK415.out 1
                 have hcz67_0 : wr.cell? ⟨gb435, 0, none⟩ = some (.slice Ao35 t428.length co35) := (blk_cell BK435.out 0).trans rfl
                 have hcz67_1 : wr.cell? ⟨gb435, 1, none⟩ = some (.slice Ao38 t431.length co38) := (blk_cell BK435.out 1).trans rfl
                 have hfz67_0 := blk_frozen BK435.out 0
                 have hfz67_1 := blk_frozen BK435.out 1
                 have p439 : 0 ≤ (x12_4 : Int) := of_decide_eq_true (by first | (with_reducible assumption) | assumption)
                 have q439 : x12_4 < (t431.length : Int) := of_decide_eq_true (by first | (with_reducible assumption) | assumption)
                 obtain ⟨ad439, A439_0, c439_0, e439, hx439_0, hl439_0, hi439_0⟩ := at_L1 (Kd.N_reads' HO_436001.out).2.2 x12_4 p439 q439
                 cases e439
                 obtain ⟨ce439, hce439, hMe439, hcc439⟩ := Kd.N_get HO_436001.out [] x12_4 p439 (by first | exact q439 | exact of_decide_eq_true (by first | (with_reducible assumption) | assumption) | (have e_ := (Kd.N_reads' HO_436001.out).1; omega))
                 obtain ⟨ua439_0, uc439_0, rfl, ul439_0, ge439_0⟩ := Kd.FK_slice_open hMe439
                 have hv439_0 := hcc439 0 _ rfl
                 rw [Nat.add_zero, show ((Kd.slice 3 (Kd.int .i64))).sz = 1 from rfl, Nat.mul_one] at hv439_0
                 replace hv439_0 := Option.some.inj (hv439_0.symm.trans hx439_0)
                 injection hv439_0 with hva_ hvn_ hvc_
                 rw [hva_] at ge439_0
                 rw [hvc_] at ul439_0
                 have HL439_0 := Aside0.mk (show Kd.V (Kd.int .i64) 3 _ w.heap.size _ _ (rd_L1 t431 x12_4) from Kd.V_mk ul439_0 ge439_0)
                 clear hva_ hvn_ hvc_ ge439_0 ul439_0 hcc439 hce439
                 have HR439_0 := Aside0.mk hi439_0
                 have HC439_0 := Aside0.mk hl439_0
                 clear hi439_0 hl439_0
                 replace p439 := eq_true p439
                 replace q439 := eq_true q439
                 have p440 : 0 ≤ (x12_4 : Int) := of_decide_eq_true (by first | (with_reducible assumption) | assumption)
                 have q440 : x12_4 < (t412.length : Int) := of_decide_eq_true (by first | (with_reducible assumption) | assumption)
                 obtain ⟨ad440, A440_0, c440_0, e440, hx440_0, hl440_0, hi440_0⟩ := at_L1 (Kd.N_reads' HO_416001.out).2.2 x12_4 p440 q440
                 cases e440
                 obtain ⟨ce440, hce440, hMe440, hcc440⟩ := Kd.N_get HO_416001.out [] x12_4 p440 (by first | exact q440 | exact of_decide_eq_true (by first | (with_reducible assumption) | assumption) | (have e_ := (Kd.N_reads' HO_416001.out).1; omega))
                 obtain ⟨ua440_0, uc440_0, rfl, ul440_0, ge440_0⟩ := Kd.FK_slice_open hMe440
                 have hv440_0 := hcc440 0 _ rfl
                 rw [Nat.add_zero, show ((Kd.slice 3 (Kd.int .i64))).sz = 1 from rfl, Nat.mul_one] at hv440_0
                 replace hv440_0 := Option.some.inj (hv440_0.symm.trans hx440_0)
                 injection hv440_0 with hva_ hvn_ hvc_
                 rw [hva_] at ge440_0
                 rw [hvc_] at ul440_0
                 have HL440_0 := Aside0.mk (show Kd.V (Kd.int .i64) 3 _ w.heap.size _ _ (rd_L1 t412 x12_4) from Kd.V_mk ul440_0 ge440_0)
                 clear hva_ hvn_ hvc_ ge440_0 ul440_0 hcc440 hce440
                 have HR440_0 := Aside0.mk hi440_0
                 have HC440_0 := Aside0.mk hl440_0
                 clear hi440_0 hl440_0
                 replace p440 := eq_true p440
                 replace q440 := eq_true q440
                 go_wp2_with (first | (go_at_call 21; (with_reducible refine (laws_sameInts.calls k4 _ _ (rd_L1 t431 x12_4) _ _ (rd_L1 t412 x12_4) true _ ?side1 ?side2 ?side3 ?side4 A63.out).mono ?_); (case side1 => repeat (first | exact (by repeat (first | (with_reducible exact HR439_0.out) | (with_reducible refine Kd.C_drewN ?_ _) | (with_reducible refine Kd.C_drew ?_) | exact HR439_0.out)) | (with_reducible refine Kd.C_drewN ?_ _) | (with_reducible refine Kd.C_drew ?_))); (case side2 => exact HC439_0.out); (case side3 => repeat (first | exact (by repeat (first | (with_reducible exact HR440_0.out) | (with_reducible refine Kd.C_drewN ?_ _) | (with_reducible refine Kd.C_drew ?_) | exact HR440_0.out)) | (with_reducible refine Kd.C_drewN ?_ _) | (with_reducible refine Kd.C_drew ?_))); (case side4 => exact HC440_0.out); rintro e w' ⟨rfl, ⟨nd, rfl⟩⟩; (try first | exact ⟨rfl, _, World.drewN_drewN _ _ _⟩ | exact ⟨rfl, _, Eq.trans (World.drewN_drewN _ _ _) (congrArg (World.drewN _) (Nat.add_assoc _ _ _))⟩)))
                 repeat (go_quiet (first | (go_at_call 21; (with_reducible refine (laws_sameInts.calls k4 _ _ (rd_L1 t431 x12_4) _ _ (rd_L1 t412 x12_4) true _ ?side1 ?side2 ?side3 ?side4 A63.out).mono ?_); (case side1 => repeat (first | exact (by repeat (first | (with_reducible exact HR439_0.out) | (with_reducible refine Kd.C_drewN ?_ _) | (with_reducible refine Kd.C_drew ?_) | exact HR439_0.out)) | (with_reducible refine Kd.C_drewN ?_ _) | (with_reducible refine Kd.C_drew ?_))); (case side2 => exact HC439_0.out); (case side3 => repeat (first | exact (by repeat (first | (with_reducible exact HR440_0.out) | (with_reducible refine Kd.C_drewN ?_ _) | (with_reducible refine Kd.C_drew ?_) | exact HR440_0.out)) | (with_reducible refine Kd.C_drewN ?_ _) | (with_reducible refine Kd.C_drew ?_))); (case side4 => exact HC440_0.out); rintro e w' ⟨rfl, ⟨nd, rfl⟩⟩; (try first | exact ⟨rfl, _, World.drewN_drewN _ _ _⟩ | exact ⟨rfl, _, Eq.trans (World.drewN_drewN _ _ _) (congrArg (World.drewN _) (Nat.add_assoc _ _ _))⟩))); try go_wp2_with (first | (go_at_call 21; (with_reducible refine (laws_sameInts.calls k4 _ _ (rd_L1 t431 x12_4) _ _ (rd_L1 t412 x12_4) true _ ?side1 ?side2 ?side3 ?side4 A63.out).mono ?_); (case side1 => repeat (first | exact (by repeat (first | (with_reducible exact HR439_0.out) | (with_reducible refine Kd.C_drewN ?_ _) | (with_reducible refine Kd.C_drew ?_) | exact HR439_0.out)) | (with_reducible refine Kd.C_drewN ?_ _) | (with_reducible refine Kd.C_drew ?_))); (case side2 => exact HC439_0.out); (case side3 => repeat (first | exact (by repeat (first | (with_reducible exact HR440_0.out) | (with_reducible refine Kd.C_drewN ?_ _) | (with_reducible refine Kd.C_drew ?_) | exact HR440_0.out)) | (with_reducible refine Kd.C_drewN ?_ _) | (with_reducible refine Kd.C_drew ?_))); (case side4 => exact HC440_0.out); rintro e w' ⟨rfl, ⟨nd, rfl⟩⟩; (try first | exact ⟨rfl, _, World.drewN_drewN _ _ _⟩ | exact ⟨rfl, _, Eq.trans (World.drewN_drewN _ _ _) (congrArg (World.drewN _) (Nat.add_assoc _ _ _))⟩))))
                 go_roundg k4
                 case measure => have := HJ5.out; have := HK2.out; have := HK3.out; have := HK4.out; omega
                 case rel => exact ⟨(wrap64 (x12_4 + 1)), (by first | rfl | (simp; done) | (simp [*]; done)), H', ⟨by have := HJ5.out; have := HK2.out; have := HK3.out; have := HK4.out; omega⟩, ⟨Kd.nv HO_416000.out⟩, ⟨Kd.nv HO_416001.out⟩, ⟨Kd.nv HO_436000.out⟩, ⟨Kd.nv HO_436001.out⟩, ⟨bv BK415.out⟩, ⟨bv BK435.out⟩, ⟨bm HB⟩⟩
                ·replace c64 := Bool.eq_false_iff.mpr c64
                 subst c64
                 have H1 : (some false) = some r := by rw [if_neg (show ¬ (false = true) by decide)] at H; exact H
                 clear H
                 have H := H1
                 clear H1
                 obtain rfl := Option.some.inj H
                 have hnb68 := NB415_435.out
                 have hnc68 := NB435_415.out
                 have hcz69_0 : wr.cell? ⟨gb415, 0, none⟩ = some (.slice Ao9 t409.length co9) := (blk_cell BK415.out 0).trans rfl
                 have hcz69_1 : wr.cell? ⟨gb415, 1, none⟩ = some (.slice Ao11 t412.length co11) := (blk_cell BK415.out 1).trans rfl
                 have hfz69_0 := blk_frozen BK415.out 0
                 have hfz69_1 := blk_frozen BK415.out 1
                 have hcz70_0 : wr.cell? ⟨gb435, 0, none⟩ = some (.slice Ao35 t428.length co35) := (blk_cell BK435.out 0).trans rfl
                 have hcz70_1 : wr.cell? ⟨gb435, 1, none⟩ = some (.slice Ao38 t431.length co38) := (blk_cell BK435.out 1).trans rfl
                 have hfz70_0 := blk_frozen BK435.out 0
                 have hfz70_1 := blk_frozen BK435.out 1
                 have p439 : 0 ≤ (x12_4 : Int) := of_decide_eq_true (by first | (with_reducible assumption) | assumption)
                 have q439 : x12_4 < (t431.length : Int) := of_decide_eq_true (by first | (with_reducible assumption) | assumption)
                 obtain ⟨ad439, A439_0, c439_0, e439, hx439_0, hl439_0, hi439_0⟩ := at_L1 (Kd.N_reads' HO_436001.out).2.2 x12_4 p439 q439
                 cases e439
                 obtain ⟨ce439, hce439, hMe439, hcc439⟩ := Kd.N_get HO_436001.out [] x12_4 p439 (by first | exact q439 | exact of_decide_eq_true (by first | (with_reducible assumption) | assumption) | (have e_ := (Kd.N_reads' HO_436001.out).1; omega))
                 obtain ⟨ua439_0, uc439_0, rfl, ul439_0, ge439_0⟩ := Kd.FK_slice_open hMe439
                 have hv439_0 := hcc439 0 _ rfl
                 rw [Nat.add_zero, show ((Kd.slice 3 (Kd.int .i64))).sz = 1 from rfl, Nat.mul_one] at hv439_0
                 replace hv439_0 := Option.some.inj (hv439_0.symm.trans hx439_0)
                 injection hv439_0 with hva_ hvn_ hvc_
                 rw [hva_] at ge439_0
                 rw [hvc_] at ul439_0
                 have HL439_0 := Aside0.mk (show Kd.V (Kd.int .i64) 3 _ w.heap.size _ _ (rd_L1 t431 x12_4) from Kd.V_mk ul439_0 ge439_0)
                 clear hva_ hvn_ hvc_ ge439_0 ul439_0 hcc439 hce439
                 have HR439_0 := Aside0.mk hi439_0
                 have HC439_0 := Aside0.mk hl439_0
                 clear hi439_0 hl439_0
                 replace p439 := eq_true p439
                 replace q439 := eq_true q439
                 have p440 : 0 ≤ (x12_4 : Int) := of_decide_eq_true (by first | (with_reducible assumption) | assumption)
                 have q440 : x12_4 < (t412.length : Int) := of_decide_eq_true (by first | (with_reducible assumption) | assumption)
                 obtain ⟨ad440, A440_0, c440_0, e440, hx440_0, hl440_0, hi440_0⟩ := at_L1 (Kd.N_reads' HO_416001.out).2.2 x12_4 p440 q440
                 cases e440
                 obtain ⟨ce440, hce440, hMe440, hcc440⟩ := Kd.N_get HO_416001.out [] x12_4 p440 (by first | exact q440 | exact of_decide_eq_true (by first | (with_reducible assumption) | assumption) | (have e_ := (Kd.N_reads' HO_416001.out).1; omega))
                 obtain ⟨ua440_0, uc440_0, rfl, ul440_0, ge440_0⟩ := Kd.FK_slice_open hMe440
                 have hv440_0 := hcc440 0 _ rfl
                 rw [Nat.add_zero, show ((Kd.slice 3 (Kd.int .i64))).sz = 1 from rfl, Nat.mul_one] at hv440_0
                 replace hv440_0 := Option.some.inj (hv440_0.symm.trans hx440_0)
                 injection hv440_0 with hva_ hvn_ hvc_
                 rw [hva_] at ge440_0
                 rw [hvc_] at ul440_0
                 have HL440_0 := Aside0.mk (show Kd.V (Kd.int .i64) 3 _ w.heap.size _ _ (rd_L1 t412 x12_4) from Kd.V_mk ul440_0 ge440_0)
                 clear hva_ hvn_ hvc_ ge440_0 ul440_0 hcc440 hce440
                 have HR440_0 := Aside0.mk hi440_0
                 have HC440_0 := Aside0.mk hl440_0
                 clear hi440_0 hl440_0
                 replace p440 := eq_true p440
                 replace q440 := eq_true q440
                 go_wp2_with (first | (go_at_call 21; (with_reducible refine (laws_sameInts.calls k4 _ _ (rd_L1 t431 x12_4) _ _ (rd_L1 t412 x12_4) false _ ?side1 ?side2 ?side3 ?side4 A63.out).mono ?_); (case side1 => repeat (first | exact (by repeat (first | (with_reducible exact HR439_0.out) | (with_reducible refine Kd.C_drewN ?_ _) | (with_reducible refine Kd.C_drew ?_) | exact HR439_0.out)) | (with_reducible refine Kd.C_drewN ?_ _) | (with_reducible refine Kd.C_drew ?_))); (case side2 => exact HC439_0.out); (case side3 => repeat (first | exact (by repeat (first | (with_reducible exact HR440_0.out) | (with_reducible refine Kd.C_drewN ?_ _) | (with_reducible refine Kd.C_drew ?_) | exact HR440_0.out)) | (with_reducible refine Kd.C_drewN ?_ _) | (with_reducible refine Kd.C_drew ?_))); (case side4 => exact HC440_0.out); rintro e w' ⟨rfl, ⟨nd, rfl⟩⟩; (try first | exact ⟨rfl, _, World.drewN_drewN _ _ _⟩ | exact ⟨rfl, _, Eq.trans (World.drewN_drewN _ _ _) (congrArg (World.drewN _) (Nat.add_assoc _ _ _))⟩)))
                 repeat (go_quiet (first | (go_at_call 21; (with_reducible refine (laws_sameInts.calls k4 _ _ (rd_L1 t431 x12_4) _ _ (rd_L1 t412 x12_4) false _ ?side1 ?side2 ?side3 ?side4 A63.out).mono ?_); (case side1 => repeat (first | exact (by repeat (first | (with_reducible exact HR439_0.out) | (with_reducible refine Kd.C_drewN ?_ _) | (with_reducible refine Kd.C_drew ?_) | exact HR439_0.out)) | (with_reducible refine Kd.C_drewN ?_ _) | (with_reducible refine Kd.C_drew ?_))); (case side2 => exact HC439_0.out); (case side3 => repeat (first | exact (by repeat (first | (with_reducible exact HR440_0.out) | (with_reducible refine Kd.C_drewN ?_ _) | (with_reducible refine Kd.C_drew ?_) | exact HR440_0.out)) | (with_reducible refine Kd.C_drewN ?_ _) | (with_reducible refine Kd.C_drew ?_))); (case side4 => exact HC440_0.out); rintro e w' ⟨rfl, ⟨nd, rfl⟩⟩; (try first | exact ⟨rfl, _, World.drewN_drewN _ _ _⟩ | exact ⟨rfl, _, Eq.trans (World.drewN_drewN _ _ _) (congrArg (World.drewN _) (Nat.add_assoc _ _ _))⟩))); try go_wp2_with (first | (go_at_call 21; (with_reducible refine (laws_sameInts.calls k4 _ _ (rd_L1 t431 x12_4) _ _ (rd_L1 t412 x12_4) false _ ?side1 ?side2 ?side3 ?side4 A63.out).mono ?_); (case side1 => repeat (first | exact (by repeat (first | (with_reducible exact HR439_0.out) | (with_reducible refine Kd.C_drewN ?_ _) | (with_reducible refine Kd.C_drew ?_) | exact HR439_0.out)) | (with_reducible refine Kd.C_drewN ?_ _) | (with_reducible refine Kd.C_drew ?_))); (case side2 => exact HC439_0.out); (case side3 => repeat (first | exact (by repeat (first | (with_reducible exact HR440_0.out) | (with_reducible refine Kd.C_drewN ?_ _) | (with_reducible refine Kd.C_drew ?_) | exact HR440_0.out)) | (with_reducible refine Kd.C_drewN ?_ _) | (with_reducible refine Kd.C_drew ?_))); (case side4 => exact HC440_0.out); rintro e w' ⟨rfl, ⟨nd, rfl⟩⟩; (try first | exact ⟨rfl, _, World.drewN_drewN _ _ _⟩ | exact ⟨rfl, _, Eq.trans (World.drewN_drewN _ _ _) (congrArg (World.drewN _) (Nat.add_assoc _ _ _))⟩))))
                 go_ret
                 exact ⟨by first | rfl | (simp [errW_none, errW_some] <;> rfl) | (simp [*, errW_none, errW_some] <;> rfl), bm HB⟩
              ·rw [if_neg c56] at H
               have c56b0 : decide (x12_4 < (t412.length : Int)) = false := decide_eq_false c56
               clear c56
               by_cases c71 : t434 = true
               ·subst c71
                have H1 : (if (t428.length : Int) = (t409.length : Int) then (some ((t431.length : Int) == (t412.length : Int))) else (some false)) = some r := by rw [if_pos rfl] at H; exact H
                clear H
                have H := H1
                clear H1
                by_cases c72 : (t428.length : Int) = (t409.length : Int)
                ·rw [if_pos c72] at H
                 have c72b0 : ((t428.length : Int) == (t409.length : Int)) = true := beq_iff_eq.mpr c72
                 have c72b1 : ((t428.length : Int) != (t409.length : Int)) = false := bne_eq_false_iff_eq.mpr c72
                 have c72b2 : (t428.length == t409.length) = true := by first | simpa using c72 | (simp at c72 ⊢; omega)
                 clear c72
                 obtain rfl := Option.some.inj H
                 have hnb73 := NB415_435.out
                 have hnc73 := NB435_415.out
                 have hcz74_0 : wr.cell? ⟨gb415, 0, none⟩ = some (.slice Ao9 t409.length co9) := (blk_cell BK415.out 0).trans rfl
                 have hcz74_1 : wr.cell? ⟨gb415, 1, none⟩ = some (.slice Ao11 t412.length co11) := (blk_cell BK415.out 1).trans rfl
                 have hfz74_0 := blk_frozen BK415.out 0
                 have hfz74_1 := blk_frozen BK415.out 1
                 have hcz75_0 : wr.cell? ⟨gb435, 0, none⟩ = some (.slice Ao35 t428.length co35) := (blk_cell BK435.out 0).trans rfl
                 have hcz75_1 : wr.cell? ⟨gb435, 1, none⟩ = some (.slice Ao38 t431.length co38) := (blk_cell BK435.out 1).trans rfl
                 have hfz75_0 := blk_frozen BK435.out 0
                 have hfz75_1 := blk_frozen BK435.out 1
                 go_wp2
                 repeat (go_quiet (fail); try go_wp2)
                 go_ret
                 exact ⟨by first | rfl | (simp [errW_none, errW_some] <;> rfl) | (simp [*, errW_none, errW_some] <;> rfl), bm HB⟩
                ·rw [if_neg c72] at H
                 have c72b0 : ((t428.length : Int) == (t409.length : Int)) = false := beq_eq_false_iff_ne.mpr c72
                 have c72b1 : ((t428.length : Int) != (t409.length : Int)) = true := bne_iff_ne.mpr c72
                 have c72b2 : (t428.length == t409.length) = false := by first | simpa using c72 | (simp at c72 ⊢; omega)
                 obtain rfl := Option.some.inj H
                 have hnb76 := NB415_435.out
                 have hnc76 := NB435_415.out
                 have hcz77_0 : wr.cell? ⟨gb415, 0, none⟩ = some (.slice Ao9 t409.length co9) := (blk_cell BK415.out 0).trans rfl
                 have hcz77_1 : wr.cell? ⟨gb415, 1, none⟩ = some (.slice Ao11 t412.length co11) := (blk_cell BK415.out 1).trans rfl
                 have hfz77_0 := blk_frozen BK415.out 0
                 have hfz77_1 := blk_frozen BK415.out 1
                 have hcz78_0 : wr.cell? ⟨gb435, 0, none⟩ = some (.slice Ao35 t428.length co35) := (blk_cell BK435.out 0).trans rfl
                 have hcz78_1 : wr.cell? ⟨gb435, 1, none⟩ = some (.slice Ao38 t431.length co38) := (blk_cell BK435.out 1).trans rfl
                 have hfz78_0 := blk_frozen BK435.out 0
                 have hfz78_1 := blk_frozen BK435.out 1
                 go_wp2
                 repeat (go_quiet (fail); try go_wp2)
                 go_ret
                 exact ⟨by first | rfl | (simp [errW_none, errW_some] <;> rfl) | (simp [*, errW_none, errW_some] <;> rfl), bm HB⟩
               ·replace c71 := Bool.eq_false_iff.mpr c71
                subst c71
                have H1 : (some false) = some r := by rw [if_neg (show ¬ (false = true) by decide)] at H; exact H
                clear H
                have H := H1
                clear H1
                obtain rfl := Option.some.inj H
                have hnb79 := NB415_435.out
                have hnc79 := NB435_415.out
                have hcz80_0 : wr.cell? ⟨gb415, 0, none⟩ = some (.slice Ao9 t409.length co9) := (blk_cell BK415.out 0).trans rfl
                have hcz80_1 : wr.cell? ⟨gb415, 1, none⟩ = some (.slice Ao11 t412.length co11) := (blk_cell BK415.out 1).trans rfl
                have hfz80_0 := blk_frozen BK415.out 0
                have hfz80_1 := blk_frozen BK415.out 1
                go_wp2
                repeat (go_quiet (fail); try go_wp2)
                go_ret
                exact ⟨by first | rfl | (simp [errW_none, errW_some] <;> rfl) | (simp [*, errW_none, errW_some] <;> rfl), bm HB⟩
     ·replace c21 := Bool.eq_false_iff.mpr c21
      subst c21
      have H1 : (if (t416.length : Int) = 0 then ((laws_alive.f kj5).bind fun t424 => (some t424)) else (some false)) = some r := by rw [if_neg (show ¬ (false = true) by decide)] at H; exact H
      clear H
      have H := H1
      clear H1
      by_cases c81 : (t416.length : Int) = 0
      ·rw [if_pos c81] at H
       have c81b0 : ((t416.length : Int) == 0) = true := beq_iff_eq.mpr c81
       have c81b1 : ((t416.length : Int) != 0) = false := bne_eq_false_iff_eq.mpr c81
       clear c81
       replace H := Option.bind_eq_some_iff.mp H
       obtain ⟨t424, A820, H⟩ := H
       replace H : (some t424) = some r := H
       have A82 := Aside0.mk A820
       clear A820
       obtain rfl := Option.some.inj H
       obtain ⟨Ao83, co83, eo83⟩ := Kd.N_slice HO_4.out
       subst eo83
       go_wp2_with (first | (go_at_call 19; (with_reducible refine (laws_alive.calls kj5  t424 _ A82.out).mono ?_); rintro e w84 ⟨rfl, hb⟩; have n0_ := Aside0.mk (Kd.N_below (Kd.nv HO_4.out) hb); have n1_ := Aside0.mk (Kd.N_below (Kd.nv HO_6.out) hb); have n2_ := Aside0.mk (Kd.N_below (Kd.nv HO_416000.out) hb); have n3_ := Aside0.mk (Kd.N_below (Kd.nv HO_416001.out) hb); have n4_ := Aside0.mk (blk_below (g := gb415) (o := .cells #[.slice Ao9 t409.length co9, .slice Ao11 t412.length co11] 25 (0, 0)) (bv BK415.out) hb); have n5_ := Aside0.mk (below_step (bm HB) hb); clear HO_4; clear HO_6; clear HO_416000; clear HO_416001; clear BK415; clear HB; have HO_4 := n0_; have HO_6 := n1_; have HO_416000 := n2_; have HO_416001 := n3_; have BK415 := n4_; have HB := n5_; clear n0_ n1_ n2_ n3_ n4_ n5_; (try clear hb); (try clear hb2); (try clear hk); (try clear hi)))
       repeat (go_quiet (first | (go_at_call 19; (with_reducible refine (laws_alive.calls kj5  t424 _ A82.out).mono ?_); rintro e w84 ⟨rfl, hb⟩; have n0_ := Aside0.mk (Kd.N_below (Kd.nv HO_4.out) hb); have n1_ := Aside0.mk (Kd.N_below (Kd.nv HO_6.out) hb); have n2_ := Aside0.mk (Kd.N_below (Kd.nv HO_416000.out) hb); have n3_ := Aside0.mk (Kd.N_below (Kd.nv HO_416001.out) hb); have n4_ := Aside0.mk (blk_below (g := gb415) (o := .cells #[.slice Ao9 t409.length co9, .slice Ao11 t412.length co11] 25 (0, 0)) (bv BK415.out) hb); have n5_ := Aside0.mk (below_step (bm HB) hb); clear HO_4; clear HO_6; clear HO_416000; clear HO_416001; clear BK415; clear HB; have HO_4 := n0_; have HO_6 := n1_; have HO_416000 := n2_; have HO_416001 := n3_; have BK415 := n4_; have HB := n5_; clear n0_ n1_ n2_ n3_ n4_ n5_; (try clear hb); (try clear hb2); (try clear hk); (try clear hi))); try go_wp2_with (first | (go_at_call 19; (with_reducible refine (laws_alive.calls kj5  t424 _ A82.out).mono ?_); rintro e w84 ⟨rfl, hb⟩; have n0_ := Aside0.mk (Kd.N_below (Kd.nv HO_4.out) hb); have n1_ := Aside0.mk (Kd.N_below (Kd.nv HO_6.out) hb); have n2_ := Aside0.mk (Kd.N_below (Kd.nv HO_416000.out) hb); have n3_ := Aside0.mk (Kd.N_below (Kd.nv HO_416001.out) hb); have n4_ := Aside0.mk (blk_below (g := gb415) (o := .cells #[.slice Ao9 t409.length co9, .slice Ao11 t412.length co11] 25 (0, 0)) (bv BK415.out) hb); have n5_ := Aside0.mk (below_step (bm HB) hb); clear HO_4; clear HO_6; clear HO_416000; clear HO_416001; clear BK415; clear HB; have HO_4 := n0_; have HO_6 := n1_; have HO_416000 := n2_; have HO_416001 := n3_; have BK415 := n4_; have HB := n5_; clear n0_ n1_ n2_ n3_ n4_ n5_; (try clear hb); (try clear hb2); (try clear hk); (try clear hi))))
       go_ret
       exact ⟨by first | rfl | (simp [errW_none, errW_some] <;> rfl) | (simp [*, errW_none, errW_some] <;> rfl), bm HB⟩
      ·rw [if_neg c81] at H
       have c81b0 : ((t416.length : Int) == 0) = false := beq_eq_false_iff_ne.mpr c81
       have c81b1 : ((t416.length : Int) != 0) = true := bne_iff_ne.mpr c81
       have c81b2 : ¬ (t416 = []) := fun h_ => c81 (by rw [h_]; rfl)
       obtain rfl := Option.some.inj H
       obtain ⟨Ao85, co85, eo85⟩ := Kd.N_slice HO_4.out
       subst eo85
       go_wp2
       repeat (go_quiet (fail); try go_wp2)
       go_ret
       exact ⟨by first | rfl | (simp [errW_none, errW_some] <;> rfl) | (simp [*, errW_none, errW_some] <;> rfl), bm HB⟩

/-- THE ONE PURE STATEMENT of laws_FnPictureFirst: yours. -/
def laws_FnPictureFirst.Pure : Prop := ∀ (l0 : List Int), l0.length ≤ maxLen → l0.length * 1 ≤ 140737488351232 → (∀ x ∈ l0, (Lit.int .u8 x).wf = true) → ∃ k, laws_FnPictureFirst.f k l0 = some true
theorem laws_FnPictureFirst.walk (P : laws_FnPictureFirst.Pure) (a0 : Option Addr) (len0 cap0 : Nat) (z0 : List Int) (w : World) (w0 : (a0 = none ∧ len0 = 0 ∧ cap0 = 0 ∧ z0 = []) ∨ ∃ x, a0 = some x ∧ len0 ≤ cap0 ∧ cap0 ≤ maxLen ∧ z0.length = cap0 ∧ (∀ i, i < z0.length → w.cell? (x.add i) = some (.int .u8 (z0.getD i 0))) ∧ ∀ n ∈ z0, (Lit.int .u8 n).wf = true) (y0 : len0 * 1 ≤ 140737488351232) :
  Calls Try.prog 12 #[.slice a0 len0 cap0] w fun e w' => e = .returned (.bool true) ∧ Below w.heap.size w w' := by
 obtain ⟨l0, rfl, hr0, hm0, hw0, hc0⟩ := ReadsInt.ofRowC w0
 obtain ⟨k, h⟩ := P l0 hm0 y0 hw0
 refine (laws_FnPictureFirst.calls k _ _ l0 true w (Kd.C_of_reads (d := (0 : Int)) (h1 := fun _ => rfl) hr0) hc0 h).mono ?_
 rintro e w' ⟨rfl, hd⟩
 exact ⟨rfl, hd⟩

end Go.Proofs.Ytapnohcfnclleaa.PFnPictureFirst
