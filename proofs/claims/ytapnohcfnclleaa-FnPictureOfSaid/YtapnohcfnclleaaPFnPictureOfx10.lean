-- Made by a program of this session (a changed copy of the kit print): the kit print itself does not give this text
import Derived.Test.YtapnohcfnclleaaPFnPictureOfx0
import Derived.Test.YtapnohcfnclleaaPFnPictureOfx1
import Derived.Test.YtapnohcfnclleaaPFnPictureOfx5
import Derived.Test.YtapnohcfnclleaaPFnPictureOfx7
import Derived.Test.YtapnohcfnclleaaPFnPictureOfx8
import Derived.Test.YtapnohcfnclleaaPFnPictureOfx9
namespace Go.Proofs.Ytapnohcfnclleaa.PFnPictureOf
open Go.RowKit Go.Proofs.YtapnohcfnclleaaW.PrintWords Go.Proofs.YtapnohcfnclleaaW.PrintLast Go.Proofs.YtapnohcfnclleaaW.PrintMore
attribute [local go_sem] max2_int min2_int max_two min_two max_three min_three max_four min_four   -- for this text's walks alone
set_option linter.unusedVariables false
set_option linter.unusedSimpArgs false

/-! ### laws_FnPictureOf: function 7 -/
mutual
def laws_FnPictureOf.j0 : Nat → Bool → Bool → List (List Int) → List (List Int) → List (List Int) → List (List Int) → Option (Bool)
  | 0, _, _, _, _, _, _ => none
  | k + 1, x5, x45, x312000, x312001, x320000, x320001 => if x45 = true then (some false) else (laws_FnPictureOf.l0 k x5 0 x312000 x312001 x320000 x320001)
def laws_FnPictureOf.l0 : Nat → Bool → Int → List (List Int) → List (List Int) → List (List Int) → List (List Int) → Option (Bool)
  | 0, _, _, _, _, _, _ => none
  | k + 1, x5, x8, x312000, x312001, x320000, x320001 => if x8 < (x312000.length : Int) then (if 0 ≤ x8 then (if x8 < (x320000.length : Int) then ((laws_sameInts.f k (rd_L1 x312000 x8) (rd_L1 x320000 x8)).bind fun t322 => (if t322 = true then (laws_FnPictureOf.l0 k x5 (wrap64 (x8 + 1)) x312000 x312001 x320000 x320001) else (some false))) else (none)) else (none)) else (laws_FnPictureOf.l1 k x5 0 x312000 x312001 x320000 x320001)
def laws_FnPictureOf.l1 : Nat → Bool → Int → List (List Int) → List (List Int) → List (List Int) → List (List Int) → Option (Bool)
  | 0, _, _, _, _, _, _ => none
  | k + 1, x5, x9, x312000, x312001, x320000, x320001 => if x9 < (x312001.length : Int) then (if 0 ≤ x9 then (if x9 < (x320001.length : Int) then ((laws_sameInts.f k (rd_L1 x312001 x9) (rd_L1 x320001 x9)).bind fun t325 => (if t325 = true then (laws_FnPictureOf.l1 k x5 (wrap64 (x9 + 1)) x312000 x312001 x320000 x320001) else (some false))) else (none)) else (none)) else (if x5 = true then ((impl_PictureValid.f k x312000 x312001).bind fun t326 => (if t326 = true then ((impl_PictureCount.f k x312000 x312001 1).bind fun t327 => (some (t327 == 1))) else (some false))) else (if (x312000.length : Int) = 0 then ((laws_alive.f k).bind fun t328 => (some t328)) else (some false)))
end
def laws_FnPictureOf.f (k : Nat) (l0 : List Int) : Option (Bool) := if (l0.length : Int) > 1048576 then (some true) else ((spec_DrawPictureOf.f k l0).bind fun t301 => ((impl_PictureOf.f k t301).bind fun bt304 => ((spec_PictureOf.f k t301).bind fun bt312 => (if (bt304.1.length : Int) = (bt312.1.length : Int) then (if (bt304.2.1.length : Int) = (bt312.2.1.length : Int) then (laws_FnPictureOf.j0 k bt304.2.2 (bt304.2.2 != bt312.2.2) bt304.1 bt304.2.1 bt312.1 bt312.2.1) else (laws_FnPictureOf.j0 k bt304.2.2 true bt304.1 bt304.2.1 bt312.1 bt312.2.1)) else (laws_FnPictureOf.j0 k bt304.2.2 true bt304.1 bt304.2.1 bt312.1 bt312.2.1)))))
theorem laws_FnPictureOf.mono_l : ∀ k, (∀ y0 y1 y2 y3 y4 y5, LeO (laws_FnPictureOf.j0 k y0 y1 y2 y3 y4 y5) (laws_FnPictureOf.j0 (k + 1) y0 y1 y2 y3 y4 y5)) ∧ (∀ y0 y1 y2 y3 y4 y5, LeO (laws_FnPictureOf.l0 k y0 y1 y2 y3 y4 y5) (laws_FnPictureOf.l0 (k + 1) y0 y1 y2 y3 y4 y5)) ∧ (∀ y0 y1 y2 y3 y4 y5, LeO (laws_FnPictureOf.l1 k y0 y1 y2 y3 y4 y5) (laws_FnPictureOf.l1 (k + 1) y0 y1 y2 y3 y4 y5))
  | 0 => ⟨fun _ _ _ _ _ _ r h => by simp [laws_FnPictureOf.j0] at h, fun _ _ _ _ _ _ r h => by simp [laws_FnPictureOf.l0] at h, fun _ _ _ _ _ _ r h => by simp [laws_FnPictureOf.l1] at h⟩
  | k + 1 => by
    obtain ⟨ih0, ih1, ih2⟩ := laws_FnPictureOf.mono_l k
    refine ⟨?_, ?_, ?_⟩
    · intro y0 y1 y2 y3 y4 y5
      unfold laws_FnPictureOf.j0
      repeat' first
      | (with_reducible exact ih0 _ _ _ _ _ _)
      | (with_reducible exact ih1 _ _ _ _ _ _)
      | (with_reducible exact ih2 _ _ _ _ _ _)
      | (with_reducible exact impl_PictureCount.mono _ _ _ _)
      | (with_reducible exact impl_PictureOf.mono _ _)
      | (with_reducible exact impl_PictureValid.mono _ _ _)
      | (with_reducible exact laws_alive.mono _)
      | (with_reducible exact laws_sameInts.mono _ _ _)
      | (with_reducible exact spec_DrawPictureOf.mono _ _)
      | (with_reducible exact spec_PictureOf.mono _ _)
      | (with_reducible exact LeO.refl _)
      | (with_reducible exact LeO.none _)
      | (with_reducible refine LeO.ite ?_ ?_)
      | (with_reducible refine LeO.bind ?_ (fun _ => ?_))
      | exact ih0 _ _ _ _ _ _
      | exact ih1 _ _ _ _ _ _
      | exact ih2 _ _ _ _ _ _
      | exact impl_PictureCount.mono _ _ _ _
      | exact impl_PictureOf.mono _ _
      | exact impl_PictureValid.mono _ _ _
      | exact laws_alive.mono _
      | exact laws_sameInts.mono _ _ _
      | exact spec_DrawPictureOf.mono _ _
      | exact spec_PictureOf.mono _ _
      | exact LeO.none _
      | refine LeO.ite ?_ ?_
      | refine LeO.bind ?_ (fun _ => ?_)
    · intro y0 y1 y2 y3 y4 y5
      unfold laws_FnPictureOf.l0
      repeat' first
      | (with_reducible exact ih0 _ _ _ _ _ _)
      | (with_reducible exact ih1 _ _ _ _ _ _)
      | (with_reducible exact ih2 _ _ _ _ _ _)
      | (with_reducible exact impl_PictureCount.mono _ _ _ _)
      | (with_reducible exact impl_PictureOf.mono _ _)
      | (with_reducible exact impl_PictureValid.mono _ _ _)
      | (with_reducible exact laws_alive.mono _)
      | (with_reducible exact laws_sameInts.mono _ _ _)
      | (with_reducible exact spec_DrawPictureOf.mono _ _)
      | (with_reducible exact spec_PictureOf.mono _ _)
      | (with_reducible exact LeO.refl _)
      | (with_reducible exact LeO.none _)
      | (with_reducible refine LeO.ite ?_ ?_)
      | (with_reducible refine LeO.bind ?_ (fun _ => ?_))
      | exact ih0 _ _ _ _ _ _
      | exact ih1 _ _ _ _ _ _
      | exact ih2 _ _ _ _ _ _
      | exact impl_PictureCount.mono _ _ _ _
      | exact impl_PictureOf.mono _ _
      | exact impl_PictureValid.mono _ _ _
      | exact laws_alive.mono _
      | exact laws_sameInts.mono _ _ _
      | exact spec_DrawPictureOf.mono _ _
      | exact spec_PictureOf.mono _ _
      | exact LeO.none _
      | refine LeO.ite ?_ ?_
      | refine LeO.bind ?_ (fun _ => ?_)
    · intro y0 y1 y2 y3 y4 y5
      unfold laws_FnPictureOf.l1
      repeat' first
      | (with_reducible exact ih0 _ _ _ _ _ _)
      | (with_reducible exact ih1 _ _ _ _ _ _)
      | (with_reducible exact ih2 _ _ _ _ _ _)
      | (with_reducible exact impl_PictureCount.mono _ _ _ _)
      | (with_reducible exact impl_PictureOf.mono _ _)
      | (with_reducible exact impl_PictureValid.mono _ _ _)
      | (with_reducible exact laws_alive.mono _)
      | (with_reducible exact laws_sameInts.mono _ _ _)
      | (with_reducible exact spec_DrawPictureOf.mono _ _)
      | (with_reducible exact spec_PictureOf.mono _ _)
      | (with_reducible exact LeO.refl _)
      | (with_reducible exact LeO.none _)
      | (with_reducible refine LeO.ite ?_ ?_)
      | (with_reducible refine LeO.bind ?_ (fun _ => ?_))
      | exact ih0 _ _ _ _ _ _
      | exact ih1 _ _ _ _ _ _
      | exact ih2 _ _ _ _ _ _
      | exact impl_PictureCount.mono _ _ _ _
      | exact impl_PictureOf.mono _ _
      | exact impl_PictureValid.mono _ _ _
      | exact laws_alive.mono _
      | exact laws_sameInts.mono _ _ _
      | exact spec_DrawPictureOf.mono _ _
      | exact spec_PictureOf.mono _ _
      | exact LeO.none _
      | refine LeO.ite ?_ ?_
      | refine LeO.bind ?_ (fun _ => ?_)
theorem laws_FnPictureOf.mono : ∀ a0 k, LeO (laws_FnPictureOf.f k a0) (laws_FnPictureOf.f (k + 1) a0) := by
  intro a0 k
  obtain ⟨ih0, ih1, ih2⟩ := laws_FnPictureOf.mono_l k
  unfold laws_FnPictureOf.f
  repeat' first
      | (with_reducible exact ih0 _ _ _ _ _ _)
      | (with_reducible exact ih1 _ _ _ _ _ _)
      | (with_reducible exact ih2 _ _ _ _ _ _)
      | (with_reducible exact impl_PictureCount.mono _ _ _ _)
      | (with_reducible exact impl_PictureOf.mono _ _)
      | (with_reducible exact impl_PictureValid.mono _ _ _)
      | (with_reducible exact laws_alive.mono _)
      | (with_reducible exact laws_sameInts.mono _ _ _)
      | (with_reducible exact spec_DrawPictureOf.mono _ _)
      | (with_reducible exact spec_PictureOf.mono _ _)
      | (with_reducible exact LeO.refl _)
      | (with_reducible exact LeO.none _)
      | (with_reducible refine LeO.ite ?_ ?_)
      | (with_reducible refine LeO.bind ?_ (fun _ => ?_))
      | exact ih0 _ _ _ _ _ _
      | exact ih1 _ _ _ _ _ _
      | exact ih2 _ _ _ _ _ _
      | exact impl_PictureCount.mono _ _ _ _
      | exact impl_PictureOf.mono _ _
      | exact impl_PictureValid.mono _ _ _
      | exact laws_alive.mono _
      | exact laws_sameInts.mono _ _ _
      | exact spec_DrawPictureOf.mono _ _
      | exact spec_PictureOf.mono _ _
      | exact LeO.none _
      | refine LeO.ite ?_ ?_
      | refine LeO.bind ?_ (fun _ => ?_)
set_option maxHeartbeats 8000000 in
set_option maxRecDepth 100000 in
theorem laws_FnPictureOf.calls (k : Nat) (A0 : Option Addr) (c0 : Nat) (l0 : List Int) (r : Bool) (w : World) (hr0 : Kd.C (Kd.int .u8) w A0 l0.length l0) (hc0 : l0.length ≤ c0) (h : laws_FnPictureOf.f k l0 = some r) :
    Calls Try.prog 7 #[.slice A0 l0.length c0] w fun e w' => e = .returned (.bool r) ∧ Below w.heap.size w w' := by
  have hu25 := Try.underlying25
  have HR0 := Aside0.mk hr0
  have HC0 := Aside0.mk hc0
  clear hr0 hc0
  have HB := Aside0.mk (Below.refl w.heap.size w)
  have H : (if (l0.length : Int) > 1048576 then (some true) else ((spec_DrawPictureOf.f k l0).bind fun t301 => ((impl_PictureOf.f k t301).bind fun bt304 => ((spec_PictureOf.f k t301).bind fun bt312 => (if (bt304.1.length : Int) = (bt312.1.length : Int) then (if (bt304.2.1.length : Int) = (bt312.2.1.length : Int) then (laws_FnPictureOf.j0 k bt304.2.2 (bt304.2.2 != bt312.2.2) bt304.1 bt304.2.1 bt312.1 bt312.2.1) else (laws_FnPictureOf.j0 k bt304.2.2 true bt304.1 bt304.2.1 bt312.1 bt312.2.1)) else (laws_FnPictureOf.j0 k bt304.2.2 true bt304.1 bt304.2.1 bt312.1 bt312.2.1)))))) = some r := h
  clear h
  by_cases c2 : (l0.length : Int) > 1048576
  · rw [if_pos c2] at H
    have c2b0 : decide (1048576 < (l0.length : Int)) = true := decide_eq_true c2
    have c2b1 : decide (1048576 < l0.length) = true := decide_eq_true (by omega)
    clear c2
    obtain rfl := Option.some.inj H
    go_enter Try.func7, Try.ntmps7
    go_wp2
    repeat (go_quiet (fail); try go_wp2)
    go_ret
    exact ⟨by first | rfl | (simp [errW_none, errW_some] <;> rfl) | (simp [*, errW_none, errW_some] <;> rfl), by repeat (first | (with_reducible first | exact HB.out | apply below_alloc | apply pw_below_drewN | apply below_drew1) | exact HB.out)⟩
  · rw [if_neg c2] at H
    have c2b0 : decide (1048576 < (l0.length : Int)) = false := decide_eq_false c2
    have c2b1 : decide (1048576 < l0.length) = false := decide_eq_false (by omega)
    clear c2
    replace H := Option.bind_eq_some_iff.mp H
    obtain ⟨t301, A30, H⟩ := H
    replace H : ((impl_PictureOf.f k t301).bind fun bt304 => ((spec_PictureOf.f k t301).bind fun bt312 => (if (bt304.1.length : Int) = (bt312.1.length : Int) then (if (bt304.2.1.length : Int) = (bt312.2.1.length : Int) then (laws_FnPictureOf.j0 k bt304.2.2 (bt304.2.2 != bt312.2.2) bt304.1 bt304.2.1 bt312.1 bt312.2.1) else (laws_FnPictureOf.j0 k bt304.2.2 true bt304.1 bt304.2.1 bt312.1 bt312.2.1)) else (laws_FnPictureOf.j0 k bt304.2.2 true bt304.1 bt304.2.1 bt312.1 bt312.2.1)))) = some r := H
    have A3 := Aside0.mk A30
    clear A30
    replace H := Option.bind_eq_some_iff.mp H
    obtain ⟨⟨t304, t307, t310⟩, A40, H⟩ := H
    replace H : ((spec_PictureOf.f k t301).bind fun bt312 => (if (t304.length : Int) = (bt312.1.length : Int) then (if (t307.length : Int) = (bt312.2.1.length : Int) then (laws_FnPictureOf.j0 k t310 (t310 != bt312.2.2) t304 t307 bt312.1 bt312.2.1) else (laws_FnPictureOf.j0 k t310 true t304 t307 bt312.1 bt312.2.1)) else (laws_FnPictureOf.j0 k t310 true t304 t307 bt312.1 bt312.2.1))) = some r := H
    have A4 := Aside0.mk A40
    clear A40
    replace H := Option.bind_eq_some_iff.mp H
    obtain ⟨⟨t312, t315, t318⟩, A50, H⟩ := H
    replace H : (if (t304.length : Int) = (t312.length : Int) then (if (t307.length : Int) = (t315.length : Int) then (laws_FnPictureOf.j0 k t310 (t310 != t318) t304 t307 t312 t315) else (laws_FnPictureOf.j0 k t310 true t304 t307 t312 t315)) else (laws_FnPictureOf.j0 k t310 true t304 t307 t312 t315)) = some r := H
    have A5 := Aside0.mk A50
    clear A50
    have HC6 := Aside0.mk H
    clear H
    go_enter Try.func7, Try.ntmps7
    go_upto_region 6 with (first | (go_at_call 35; (with_reducible refine (spec_DrawPictureOf.calls k _ _ l0 t301 _ ?side1 ?side2 A3.out).mono ?_); (case side1 => repeat (first | exact HR0.out | (with_reducible refine Kd.C_alloc ?_ _) | (with_reducible refine Kd.C_drewN ?_ _) | (with_reducible refine Kd.C_drew ?_))); (case side2 => exact HC0.out); rintro e w7 ⟨v302, rfl, ho0, hb⟩; have n0_ := Aside0.mk (Kd.R_lower ho0 (below_size (by repeat (first | (with_reducible first | exact HB.out | apply below_alloc | apply pw_below_drewN | apply below_drew1) | exact HB.out)))); have n1_ := Aside0.mk (below_step (by repeat (first | (with_reducible first | exact HB.out | apply below_alloc | apply pw_below_drewN | apply below_drew1) | exact HB.out)) hb); clear HB; have HO303 := n0_; have HB := n1_; clear n0_ n1_; (try clear hb); (try clear hb2); (try clear hk); (try clear hi); (try clear ho0); obtain ⟨Ao8, co8, eo8⟩ := Kd.R_slice HO303.out; subst eo8) | (go_at_call 30; (with_reducible refine (impl_PictureOf.calls k _ _ t301 t304 t307 t310 _ ?side1 ?side2 A4.out).mono ?_); (case side1 => repeat (first | exact (Kd.R_reads' HO303.out).2.2 | (with_reducible refine Kd.C_alloc ?_ _) | (with_reducible refine Kd.C_drewN ?_ _) | (with_reducible refine Kd.C_drew ?_))); (case side2 => exact (Kd.R_reads' HO303.out).2.1); rintro e w9 ⟨v305, v308, rfl, ho0, ho1, hb⟩; have n0_ := Aside0.mk (Kd.R_below (by (with_reducible repeat (first | apply Kd.R_alloc | apply Kd.R_drewN | apply Kd.R_drew)); exact HO303.out) hb); have n1_ := Aside0.mk (Kd.R_lower ho0 (below_size (by repeat (first | (with_reducible first | exact HB.out | apply below_alloc | apply pw_below_drewN | apply below_drew1) | exact HB.out)))); have n2_ := Aside0.mk (Kd.R_lower ho1 (below_size (by repeat (first | (with_reducible first | exact HB.out | apply below_alloc | apply pw_below_drewN | apply below_drew1) | exact HB.out)))); have n3_ := Aside0.mk (below_step (by repeat (first | (with_reducible first | exact HB.out | apply below_alloc | apply pw_below_drewN | apply below_drew1) | exact HB.out)) hb); clear HO303; clear HB; have HO303 := n0_; have HO306 := n1_; have HO309 := n2_; have HB := n3_; clear n0_ n1_ n2_ n3_; (try clear hb); (try clear hb2); (try clear hk); (try clear hi); (try clear ho0); (try clear ho1)) | ((with_reducible refine gate_dst (N := 4) rfl ?_); (try (refine gate_guard (by rfl) ?_; dsimp only)); refine box_event ?hg (N := 4) ?hd (cs := #[.slice none 0 0, .slice none 0 0]) (t := 25) ?hr ?_; (case hd => rfl); (case hg => rfl); (case hr => first | (go_simp; done) | (go_simp; rfl)); intro gb311 hg w10 hbox hb; have n0_ := Aside0.mk (Kd.R_below (by (with_reducible repeat (first | apply Kd.R_alloc | apply Kd.R_drewN | apply Kd.R_drew)); exact HO303.out) hb); have n1_ := Aside0.mk (Kd.R_below (by (with_reducible repeat (first | apply Kd.R_alloc | apply Kd.R_drewN | apply Kd.R_drew)); exact HO306.out) hb); have n2_ := Aside0.mk (Kd.R_below (by (with_reducible repeat (first | apply Kd.R_alloc | apply Kd.R_drewN | apply Kd.R_drew)); exact HO309.out) hb); have n3_ := Aside0.mk (below_step (by repeat (first | (with_reducible first | exact HB.out | apply below_alloc | apply pw_below_drewN | apply below_drew1) | exact HB.out)) hb); have n4_ := Aside0.mk (hbox); have n5_ := Aside0.mk ((by rw [hg]; exact (below_size (by repeat (first | (with_reducible first | exact HB.out | apply below_alloc | apply pw_below_drewN | apply below_drew1) | exact HB.out))) : w.heap.size ≤ gb311)); have n6_ := Aside0.mk ((by rw [hg]; exact (below_size (by repeat (first | (with_reducible first | exact HB.out | apply below_alloc | apply pw_below_drewN | apply below_drew1) | exact HB.out))) : w.heap.size ≤ gb311)); clear HO303; clear HO306; clear HO309; clear HB; have HO303 := n0_; have HO306 := n1_; have HO309 := n2_; have HB := n3_; have BK311 := n4_; have GW311 := n5_; have GE311 := n6_; clear n0_ n1_ n2_ n3_ n4_ n5_ n6_; clear hb hbox hg; obtain ⟨Ao11, co11, eo11⟩ := Kd.R_slice HO306.out; subst eo11; have hcz12_0 : w10.cell? ⟨gb311, 0, none⟩ = some (.slice none 0 0) := (blk_cell BK311.out 0).trans rfl; have hcz12_1 : w10.cell? ⟨gb311, 1, none⟩ = some (.slice none 0 0) := (blk_cell BK311.out 1).trans rfl; have hfz12_0 := blk_frozen BK311.out 0; have hfz12_1 := blk_frozen BK311.out 1; obtain ⟨Ao13, co13, eo13⟩ := Kd.R_slice HO309.out; subst eo13) | (go_at_call 28; (with_reducible refine (spec_PictureOf.calls k _ _ t301 t312 t315 t318 _ ?side1 ?side2 A5.out).mono ?_); (case side1 => refine (Kd.R_reads' (e := 37) (base := w.heap.size) (ok := fun k_ => True) (n := t301.length) (c := co8) ?_).2.2; exact (by (with_reducible repeat (first | apply Kd.R_alloc | apply Kd.R_drewN | apply Kd.R_drew)); exact (Kd.R_mono (Kd.R_far (p := ⟨gb311, 1, none⟩) (Kd.R_far (p := ⟨gb311, 0, none⟩) (Kd.R_types HO303.out BK311.out (by decide)) (fun _ hk => hk.2) (.slice Ao11 t304.length co11)) (fun _ hk => hk.2) (.slice Ao13 t307.length co13)) (fun _ h_ => h_.1)))); (case side2 => exact (Kd.R_reads' HO303.out).2.1); rintro e w14 ⟨v313, v316, rfl, ho0, ho1, hb⟩; have n0_ := Aside0.mk (Kd.R_below (by (with_reducible repeat (first | apply Kd.R_alloc | apply Kd.R_drewN | apply Kd.R_drew)); exact (Kd.R_mono (Kd.R_far (p := ⟨gb311, 1, none⟩) (Kd.R_far (p := ⟨gb311, 0, none⟩) (Kd.R_types HO303.out BK311.out (by decide)) (fun _ hk => hk.2) (.slice Ao11 t304.length co11)) (fun _ hk => hk.2) (.slice Ao13 t307.length co13)) (fun _ h_ => h_.1))) hb); have n1_ := Aside0.mk (Kd.R_mono (Kd.R_told (Kd.R_told (Kd.R_old (by (with_reducible repeat (first | apply Kd.R_alloc | apply Kd.R_drewN | apply Kd.R_drew)); exact (Kd.R_mono (Kd.R_far (p := ⟨gb311, 1, none⟩) (Kd.R_far (p := ⟨gb311, 0, none⟩) (Kd.R_types HO306.out BK311.out (by decide)) (fun _ hk => hk.2) (.slice Ao11 t304.length co11)) (fun _ hk => hk.2) (.slice Ao13 t307.length co13)) (fun _ h_ => h_.1))) hb) (Kd.R_base ho0)) (Kd.R_base ho1)) (fun _ h_ => h_.1)); have n2_ := Aside0.mk (Kd.R_mono (Kd.R_told (Kd.R_told (Kd.R_old (by (with_reducible repeat (first | apply Kd.R_alloc | apply Kd.R_drewN | apply Kd.R_drew)); exact (Kd.R_mono (Kd.R_far (p := ⟨gb311, 1, none⟩) (Kd.R_far (p := ⟨gb311, 0, none⟩) (Kd.R_types HO309.out BK311.out (by decide)) (fun _ hk => hk.2) (.slice Ao11 t304.length co11)) (fun _ hk => hk.2) (.slice Ao13 t307.length co13)) (fun _ h_ => h_.1))) hb) (Kd.R_base ho0)) (Kd.R_base ho1)) (fun _ h_ => h_.1)); have n3_ := Aside0.mk (Kd.R_lower (Kd.R_new' (Kd.R_new' ho0 (Kd.R_lt (by (with_reducible repeat (first | apply Kd.R_alloc | apply Kd.R_drewN | apply Kd.R_drew)); exact (Kd.R_mono (Kd.R_far (p := ⟨gb311, 1, none⟩) (Kd.R_far (p := ⟨gb311, 0, none⟩) (Kd.R_types HO306.out BK311.out (by decide)) (fun _ hk => hk.2) (.slice Ao11 t304.length co11)) (fun _ hk => hk.2) (.slice Ao13 t307.length co13)) (fun _ h_ => h_.1))))) (Kd.R_lt (by (with_reducible repeat (first | apply Kd.R_alloc | apply Kd.R_drewN | apply Kd.R_drew)); exact (Kd.R_mono (Kd.R_far (p := ⟨gb311, 1, none⟩) (Kd.R_far (p := ⟨gb311, 0, none⟩) (Kd.R_types HO309.out BK311.out (by decide)) (fun _ hk => hk.2) (.slice Ao11 t304.length co11)) (fun _ hk => hk.2) (.slice Ao13 t307.length co13)) (fun _ h_ => h_.1))))) (below_size (by repeat (first | (with_reducible first | exact HB.out | apply below_alloc | apply pw_below_drewN | apply below_drew1 | refine below_set ?_ GE311.out) | exact HB.out)))); have n4_ := Aside0.mk (Kd.R_lower (Kd.R_new' (Kd.R_new' ho1 (Kd.R_lt (by (with_reducible repeat (first | apply Kd.R_alloc | apply Kd.R_drewN | apply Kd.R_drew)); exact (Kd.R_mono (Kd.R_far (p := ⟨gb311, 1, none⟩) (Kd.R_far (p := ⟨gb311, 0, none⟩) (Kd.R_types HO306.out BK311.out (by decide)) (fun _ hk => hk.2) (.slice Ao11 t304.length co11)) (fun _ hk => hk.2) (.slice Ao13 t307.length co13)) (fun _ h_ => h_.1))))) (Kd.R_lt (by (with_reducible repeat (first | apply Kd.R_alloc | apply Kd.R_drewN | apply Kd.R_drew)); exact (Kd.R_mono (Kd.R_far (p := ⟨gb311, 1, none⟩) (Kd.R_far (p := ⟨gb311, 0, none⟩) (Kd.R_types HO309.out BK311.out (by decide)) (fun _ hk => hk.2) (.slice Ao11 t304.length co11)) (fun _ hk => hk.2) (.slice Ao13 t307.length co13)) (fun _ h_ => h_.1))))) (below_size (by repeat (first | (with_reducible first | exact HB.out | apply below_alloc | apply pw_below_drewN | apply below_drew1 | refine below_set ?_ GE311.out) | exact HB.out)))); have n5_ := Aside0.mk (blk_below (g := gb311) (o := .cells #[.slice Ao11 t304.length co11, .slice Ao13 t307.length co13] 25 (0, 0)) (by (with_reducible repeat (first | refine blk_drewN ?_ _ | refine blk_drew ?_ | refine blk_alloc ?_ _)); refine blk_put (cs := #[.slice Ao11 t304.length co11, .slice none 0 0]) ?_ 1 _ rfl; (with_reducible repeat (first | refine blk_drewN ?_ _ | refine blk_drew ?_ | refine blk_alloc ?_ _)); refine blk_put (cs := #[.slice none 0 0, .slice none 0 0]) ?_ 0 _ rfl; (with_reducible repeat (first | refine blk_drewN ?_ _ | refine blk_drew ?_ | refine blk_alloc ?_ _)); exact BK311.out) hb); have n6_ := Aside0.mk (below_step (by repeat (first | (with_reducible first | exact HB.out | apply below_alloc | apply pw_below_drewN | apply below_drew1 | refine below_set ?_ GE311.out) | exact HB.out)) hb); clear HO303; clear HO306; clear HO309; clear BK311; clear HB; have HO303 := n0_; have HO306 := n1_; have HO309 := n2_; have HO314 := n3_; have HO317 := n4_; have BK311 := n5_; have HB := n6_; clear n0_ n1_ n2_ n3_ n4_ n5_ n6_; (try clear hb); (try clear hb2); (try clear hk); (try clear hi); (try clear ho0); (try clear ho1)) | ((with_reducible refine gate_dst (N := 6) rfl ?_); (try (refine gate_guard (by rfl) ?_; dsimp only)); refine box_event ?hg (N := 6) ?hd (cs := #[.slice none 0 0, .slice none 0 0]) (t := 25) ?hr ?_; (case hd => rfl); (case hg => rfl); (case hr => first | (go_simp; done) | (go_simp; rfl)); intro gb319 hg w15 hbox hb; have n0_ := Aside0.mk (Kd.R_below (by (with_reducible repeat (first | apply Kd.R_alloc | apply Kd.R_drewN | apply Kd.R_drew)); exact HO303.out) hb); have n1_ := Aside0.mk (Kd.R_below (by (with_reducible repeat (first | apply Kd.R_alloc | apply Kd.R_drewN | apply Kd.R_drew)); exact HO306.out) hb); have n2_ := Aside0.mk (Kd.R_below (by (with_reducible repeat (first | apply Kd.R_alloc | apply Kd.R_drewN | apply Kd.R_drew)); exact HO309.out) hb); have n3_ := Aside0.mk (Kd.R_below (by (with_reducible repeat (first | apply Kd.R_alloc | apply Kd.R_drewN | apply Kd.R_drew)); exact HO314.out) hb); have n4_ := Aside0.mk (Kd.R_below (by (with_reducible repeat (first | apply Kd.R_alloc | apply Kd.R_drewN | apply Kd.R_drew)); exact HO317.out) hb); have n5_ := Aside0.mk (blk_below (g := gb311) (o := .cells #[.slice Ao11 t304.length co11, .slice Ao13 t307.length co13] 25 (0, 0)) (by (with_reducible repeat (first | refine blk_drewN ?_ _ | refine blk_drew ?_ | refine blk_alloc ?_ _)); exact BK311.out) hb); have n6_ := Aside0.mk (below_step (by repeat (first | (with_reducible first | exact HB.out | apply below_alloc | apply pw_below_drewN | apply below_drew1 | refine below_set ?_ GE311.out) | exact HB.out)) hb); have n7_ := Aside0.mk (hbox); have n8_ := Aside0.mk ((by rw [hg]; exact (below_size (by repeat (first | (with_reducible first | exact HB.out | apply below_alloc | apply pw_below_drewN | apply below_drew1 | refine below_set ?_ GE311.out) | exact HB.out))) : w.heap.size ≤ gb319)); have n9_ := Aside0.mk ((by rw [hg]; exact (below_size (by repeat (first | (with_reducible first | exact HB.out | apply below_alloc | apply pw_below_drewN | apply below_drew1 | refine below_set ?_ GE311.out) | exact HB.out))) : w.heap.size ≤ gb319)); have n10_ := Aside0.mk ((by rw [hg]; exact Nat.ne_of_lt (blk_lt (g := gb311) (o := .cells #[.slice Ao11 t304.length co11, .slice Ao13 t307.length co13] 25 (0, 0)) (by (with_reducible repeat (first | refine blk_drewN ?_ _ | refine blk_drew ?_ | refine blk_alloc ?_ _)); exact BK311.out)) : gb311 ≠ gb319)); have n11_ := Aside0.mk ((by rw [hg]; exact Nat.ne_of_gt (blk_lt (g := gb311) (o := .cells #[.slice Ao11 t304.length co11, .slice Ao13 t307.length co13] 25 (0, 0)) (by (with_reducible repeat (first | refine blk_drewN ?_ _ | refine blk_drew ?_ | refine blk_alloc ?_ _)); exact BK311.out)) : gb319 ≠ gb311)); clear HO303; clear HO306; clear HO309; clear HO314; clear HO317; clear BK311; clear HB; have HO303 := n0_; have HO306 := n1_; have HO309 := n2_; have HO314 := n3_; have HO317 := n4_; have BK311 := n5_; have HB := n6_; have BK319 := n7_; have GW319 := n8_; have GE319 := n9_; have NB311_319 := n10_; have NB319_311 := n11_; clear n0_ n1_ n2_ n3_ n4_ n5_ n6_ n7_ n8_ n9_ n10_ n11_; clear hb hbox hg; obtain ⟨Ao16, co16, eo16⟩ := Kd.R_slice HO314.out; subst eo16; have hnb17 := NB319_311.out; have hnc17 := NB311_319.out; have hcz18_0 : w15.cell? ⟨gb319, 0, none⟩ = some (.slice none 0 0) := (blk_cell BK319.out 0).trans rfl; have hcz18_1 : w15.cell? ⟨gb319, 1, none⟩ = some (.slice none 0 0) := (blk_cell BK319.out 1).trans rfl; have hfz18_0 := blk_frozen BK319.out 0; have hfz18_1 := blk_frozen BK319.out 1; obtain ⟨Ao19, co19, eo19⟩ := Kd.R_slice HO317.out; subst eo19))
    repeat (go_quiet (first | (go_at_call 35; (with_reducible refine (spec_DrawPictureOf.calls k _ _ l0 t301 _ ?side1 ?side2 A3.out).mono ?_); (case side1 => repeat (first | exact HR0.out | (with_reducible refine Kd.C_alloc ?_ _) | (with_reducible refine Kd.C_drewN ?_ _) | (with_reducible refine Kd.C_drew ?_))); (case side2 => exact HC0.out); rintro e w7 ⟨v302, rfl, ho0, hb⟩; have n0_ := Aside0.mk (Kd.R_lower ho0 (below_size (by repeat (first | (with_reducible first | exact HB.out | apply below_alloc | apply pw_below_drewN | apply below_drew1) | exact HB.out)))); have n1_ := Aside0.mk (below_step (by repeat (first | (with_reducible first | exact HB.out | apply below_alloc | apply pw_below_drewN | apply below_drew1) | exact HB.out)) hb); clear HB; have HO303 := n0_; have HB := n1_; clear n0_ n1_; (try clear hb); (try clear hb2); (try clear hk); (try clear hi); (try clear ho0); obtain ⟨Ao8, co8, eo8⟩ := Kd.R_slice HO303.out; subst eo8) | (go_at_call 30; (with_reducible refine (impl_PictureOf.calls k _ _ t301 t304 t307 t310 _ ?side1 ?side2 A4.out).mono ?_); (case side1 => repeat (first | exact (Kd.R_reads' HO303.out).2.2 | (with_reducible refine Kd.C_alloc ?_ _) | (with_reducible refine Kd.C_drewN ?_ _) | (with_reducible refine Kd.C_drew ?_))); (case side2 => exact (Kd.R_reads' HO303.out).2.1); rintro e w9 ⟨v305, v308, rfl, ho0, ho1, hb⟩; have n0_ := Aside0.mk (Kd.R_below (by (with_reducible repeat (first | apply Kd.R_alloc | apply Kd.R_drewN | apply Kd.R_drew)); exact HO303.out) hb); have n1_ := Aside0.mk (Kd.R_lower ho0 (below_size (by repeat (first | (with_reducible first | exact HB.out | apply below_alloc | apply pw_below_drewN | apply below_drew1) | exact HB.out)))); have n2_ := Aside0.mk (Kd.R_lower ho1 (below_size (by repeat (first | (with_reducible first | exact HB.out | apply below_alloc | apply pw_below_drewN | apply below_drew1) | exact HB.out)))); have n3_ := Aside0.mk (below_step (by repeat (first | (with_reducible first | exact HB.out | apply below_alloc | apply pw_below_drewN | apply below_drew1) | exact HB.out)) hb); clear HO303; clear HB; have HO303 := n0_; have HO306 := n1_; have HO309 := n2_; have HB := n3_; clear n0_ n1_ n2_ n3_; (try clear hb); (try clear hb2); (try clear hk); (try clear hi); (try clear ho0); (try clear ho1)) | ((with_reducible refine gate_dst (N := 4) rfl ?_); (try (refine gate_guard (by rfl) ?_; dsimp only)); refine box_event ?hg (N := 4) ?hd (cs := #[.slice none 0 0, .slice none 0 0]) (t := 25) ?hr ?_; (case hd => rfl); (case hg => rfl); (case hr => first | (go_simp; done) | (go_simp; rfl)); intro gb311 hg w10 hbox hb; have n0_ := Aside0.mk (Kd.R_below (by (with_reducible repeat (first | apply Kd.R_alloc | apply Kd.R_drewN | apply Kd.R_drew)); exact HO303.out) hb); have n1_ := Aside0.mk (Kd.R_below (by (with_reducible repeat (first | apply Kd.R_alloc | apply Kd.R_drewN | apply Kd.R_drew)); exact HO306.out) hb); have n2_ := Aside0.mk (Kd.R_below (by (with_reducible repeat (first | apply Kd.R_alloc | apply Kd.R_drewN | apply Kd.R_drew)); exact HO309.out) hb); have n3_ := Aside0.mk (below_step (by repeat (first | (with_reducible first | exact HB.out | apply below_alloc | apply pw_below_drewN | apply below_drew1) | exact HB.out)) hb); have n4_ := Aside0.mk (hbox); have n5_ := Aside0.mk ((by rw [hg]; exact (below_size (by repeat (first | (with_reducible first | exact HB.out | apply below_alloc | apply pw_below_drewN | apply below_drew1) | exact HB.out))) : w.heap.size ≤ gb311)); have n6_ := Aside0.mk ((by rw [hg]; exact (below_size (by repeat (first | (with_reducible first | exact HB.out | apply below_alloc | apply pw_below_drewN | apply below_drew1) | exact HB.out))) : w.heap.size ≤ gb311)); clear HO303; clear HO306; clear HO309; clear HB; have HO303 := n0_; have HO306 := n1_; have HO309 := n2_; have HB := n3_; have BK311 := n4_; have GW311 := n5_; have GE311 := n6_; clear n0_ n1_ n2_ n3_ n4_ n5_ n6_; clear hb hbox hg; obtain ⟨Ao11, co11, eo11⟩ := Kd.R_slice HO306.out; subst eo11; have hcz12_0 : w10.cell? ⟨gb311, 0, none⟩ = some (.slice none 0 0) := (blk_cell BK311.out 0).trans rfl; have hcz12_1 : w10.cell? ⟨gb311, 1, none⟩ = some (.slice none 0 0) := (blk_cell BK311.out 1).trans rfl; have hfz12_0 := blk_frozen BK311.out 0; have hfz12_1 := blk_frozen BK311.out 1; obtain ⟨Ao13, co13, eo13⟩ := Kd.R_slice HO309.out; subst eo13) | (go_at_call 28; (with_reducible refine (spec_PictureOf.calls k _ _ t301 t312 t315 t318 _ ?side1 ?side2 A5.out).mono ?_); (case side1 => refine (Kd.R_reads' (e := 37) (base := w.heap.size) (ok := fun k_ => True) (n := t301.length) (c := co8) ?_).2.2; exact (by (with_reducible repeat (first | apply Kd.R_alloc | apply Kd.R_drewN | apply Kd.R_drew)); exact (Kd.R_mono (Kd.R_far (p := ⟨gb311, 1, none⟩) (Kd.R_far (p := ⟨gb311, 0, none⟩) (Kd.R_types HO303.out BK311.out (by decide)) (fun _ hk => hk.2) (.slice Ao11 t304.length co11)) (fun _ hk => hk.2) (.slice Ao13 t307.length co13)) (fun _ h_ => h_.1)))); (case side2 => exact (Kd.R_reads' HO303.out).2.1); rintro e w14 ⟨v313, v316, rfl, ho0, ho1, hb⟩; have n0_ := Aside0.mk (Kd.R_below (by (with_reducible repeat (first | apply Kd.R_alloc | apply Kd.R_drewN | apply Kd.R_drew)); exact (Kd.R_mono (Kd.R_far (p := ⟨gb311, 1, none⟩) (Kd.R_far (p := ⟨gb311, 0, none⟩) (Kd.R_types HO303.out BK311.out (by decide)) (fun _ hk => hk.2) (.slice Ao11 t304.length co11)) (fun _ hk => hk.2) (.slice Ao13 t307.length co13)) (fun _ h_ => h_.1))) hb); have n1_ := Aside0.mk (Kd.R_mono (Kd.R_told (Kd.R_told (Kd.R_old (by (with_reducible repeat (first | apply Kd.R_alloc | apply Kd.R_drewN | apply Kd.R_drew)); exact (Kd.R_mono (Kd.R_far (p := ⟨gb311, 1, none⟩) (Kd.R_far (p := ⟨gb311, 0, none⟩) (Kd.R_types HO306.out BK311.out (by decide)) (fun _ hk => hk.2) (.slice Ao11 t304.length co11)) (fun _ hk => hk.2) (.slice Ao13 t307.length co13)) (fun _ h_ => h_.1))) hb) (Kd.R_base ho0)) (Kd.R_base ho1)) (fun _ h_ => h_.1)); have n2_ := Aside0.mk (Kd.R_mono (Kd.R_told (Kd.R_told (Kd.R_old (by (with_reducible repeat (first | apply Kd.R_alloc | apply Kd.R_drewN | apply Kd.R_drew)); exact (Kd.R_mono (Kd.R_far (p := ⟨gb311, 1, none⟩) (Kd.R_far (p := ⟨gb311, 0, none⟩) (Kd.R_types HO309.out BK311.out (by decide)) (fun _ hk => hk.2) (.slice Ao11 t304.length co11)) (fun _ hk => hk.2) (.slice Ao13 t307.length co13)) (fun _ h_ => h_.1))) hb) (Kd.R_base ho0)) (Kd.R_base ho1)) (fun _ h_ => h_.1)); have n3_ := Aside0.mk (Kd.R_lower (Kd.R_new' (Kd.R_new' ho0 (Kd.R_lt (by (with_reducible repeat (first | apply Kd.R_alloc | apply Kd.R_drewN | apply Kd.R_drew)); exact (Kd.R_mono (Kd.R_far (p := ⟨gb311, 1, none⟩) (Kd.R_far (p := ⟨gb311, 0, none⟩) (Kd.R_types HO306.out BK311.out (by decide)) (fun _ hk => hk.2) (.slice Ao11 t304.length co11)) (fun _ hk => hk.2) (.slice Ao13 t307.length co13)) (fun _ h_ => h_.1))))) (Kd.R_lt (by (with_reducible repeat (first | apply Kd.R_alloc | apply Kd.R_drewN | apply Kd.R_drew)); exact (Kd.R_mono (Kd.R_far (p := ⟨gb311, 1, none⟩) (Kd.R_far (p := ⟨gb311, 0, none⟩) (Kd.R_types HO309.out BK311.out (by decide)) (fun _ hk => hk.2) (.slice Ao11 t304.length co11)) (fun _ hk => hk.2) (.slice Ao13 t307.length co13)) (fun _ h_ => h_.1))))) (below_size (by repeat (first | (with_reducible first | exact HB.out | apply below_alloc | apply pw_below_drewN | apply below_drew1 | refine below_set ?_ GE311.out) | exact HB.out)))); have n4_ := Aside0.mk (Kd.R_lower (Kd.R_new' (Kd.R_new' ho1 (Kd.R_lt (by (with_reducible repeat (first | apply Kd.R_alloc | apply Kd.R_drewN | apply Kd.R_drew)); exact (Kd.R_mono (Kd.R_far (p := ⟨gb311, 1, none⟩) (Kd.R_far (p := ⟨gb311, 0, none⟩) (Kd.R_types HO306.out BK311.out (by decide)) (fun _ hk => hk.2) (.slice Ao11 t304.length co11)) (fun _ hk => hk.2) (.slice Ao13 t307.length co13)) (fun _ h_ => h_.1))))) (Kd.R_lt (by (with_reducible repeat (first | apply Kd.R_alloc | apply Kd.R_drewN | apply Kd.R_drew)); exact (Kd.R_mono (Kd.R_far (p := ⟨gb311, 1, none⟩) (Kd.R_far (p := ⟨gb311, 0, none⟩) (Kd.R_types HO309.out BK311.out (by decide)) (fun _ hk => hk.2) (.slice Ao11 t304.length co11)) (fun _ hk => hk.2) (.slice Ao13 t307.length co13)) (fun _ h_ => h_.1))))) (below_size (by repeat (first | (with_reducible first | exact HB.out | apply below_alloc | apply pw_below_drewN | apply below_drew1 | refine below_set ?_ GE311.out) | exact HB.out)))); have n5_ := Aside0.mk (blk_below (g := gb311) (o := .cells #[.slice Ao11 t304.length co11, .slice Ao13 t307.length co13] 25 (0, 0)) (by (with_reducible repeat (first | refine blk_drewN ?_ _ | refine blk_drew ?_ | refine blk_alloc ?_ _)); refine blk_put (cs := #[.slice Ao11 t304.length co11, .slice none 0 0]) ?_ 1 _ rfl; (with_reducible repeat (first | refine blk_drewN ?_ _ | refine blk_drew ?_ | refine blk_alloc ?_ _)); refine blk_put (cs := #[.slice none 0 0, .slice none 0 0]) ?_ 0 _ rfl; (with_reducible repeat (first | refine blk_drewN ?_ _ | refine blk_drew ?_ | refine blk_alloc ?_ _)); exact BK311.out) hb); have n6_ := Aside0.mk (below_step (by repeat (first | (with_reducible first | exact HB.out | apply below_alloc | apply pw_below_drewN | apply below_drew1 | refine below_set ?_ GE311.out) | exact HB.out)) hb); clear HO303; clear HO306; clear HO309; clear BK311; clear HB; have HO303 := n0_; have HO306 := n1_; have HO309 := n2_; have HO314 := n3_; have HO317 := n4_; have BK311 := n5_; have HB := n6_; clear n0_ n1_ n2_ n3_ n4_ n5_ n6_; (try clear hb); (try clear hb2); (try clear hk); (try clear hi); (try clear ho0); (try clear ho1)) | ((with_reducible refine gate_dst (N := 6) rfl ?_); (try (refine gate_guard (by rfl) ?_; dsimp only)); refine box_event ?hg (N := 6) ?hd (cs := #[.slice none 0 0, .slice none 0 0]) (t := 25) ?hr ?_; (case hd => rfl); (case hg => rfl); (case hr => first | (go_simp; done) | (go_simp; rfl)); intro gb319 hg w15 hbox hb; have n0_ := Aside0.mk (Kd.R_below (by (with_reducible repeat (first | apply Kd.R_alloc | apply Kd.R_drewN | apply Kd.R_drew)); exact HO303.out) hb); have n1_ := Aside0.mk (Kd.R_below (by (with_reducible repeat (first | apply Kd.R_alloc | apply Kd.R_drewN | apply Kd.R_drew)); exact HO306.out) hb); have n2_ := Aside0.mk (Kd.R_below (by (with_reducible repeat (first | apply Kd.R_alloc | apply Kd.R_drewN | apply Kd.R_drew)); exact HO309.out) hb); have n3_ := Aside0.mk (Kd.R_below (by (with_reducible repeat (first | apply Kd.R_alloc | apply Kd.R_drewN | apply Kd.R_drew)); exact HO314.out) hb); have n4_ := Aside0.mk (Kd.R_below (by (with_reducible repeat (first | apply Kd.R_alloc | apply Kd.R_drewN | apply Kd.R_drew)); exact HO317.out) hb); have n5_ := Aside0.mk (blk_below (g := gb311) (o := .cells #[.slice Ao11 t304.length co11, .slice Ao13 t307.length co13] 25 (0, 0)) (by (with_reducible repeat (first | refine blk_drewN ?_ _ | refine blk_drew ?_ | refine blk_alloc ?_ _)); exact BK311.out) hb); have n6_ := Aside0.mk (below_step (by repeat (first | (with_reducible first | exact HB.out | apply below_alloc | apply pw_below_drewN | apply below_drew1 | refine below_set ?_ GE311.out) | exact HB.out)) hb); have n7_ := Aside0.mk (hbox); have n8_ := Aside0.mk ((by rw [hg]; exact (below_size (by repeat (first | (with_reducible first | exact HB.out | apply below_alloc | apply pw_below_drewN | apply below_drew1 | refine below_set ?_ GE311.out) | exact HB.out))) : w.heap.size ≤ gb319)); have n9_ := Aside0.mk ((by rw [hg]; exact (below_size (by repeat (first | (with_reducible first | exact HB.out | apply below_alloc | apply pw_below_drewN | apply below_drew1 | refine below_set ?_ GE311.out) | exact HB.out))) : w.heap.size ≤ gb319)); have n10_ := Aside0.mk ((by rw [hg]; exact Nat.ne_of_lt (blk_lt (g := gb311) (o := .cells #[.slice Ao11 t304.length co11, .slice Ao13 t307.length co13] 25 (0, 0)) (by (with_reducible repeat (first | refine blk_drewN ?_ _ | refine blk_drew ?_ | refine blk_alloc ?_ _)); exact BK311.out)) : gb311 ≠ gb319)); have n11_ := Aside0.mk ((by rw [hg]; exact Nat.ne_of_gt (blk_lt (g := gb311) (o := .cells #[.slice Ao11 t304.length co11, .slice Ao13 t307.length co13] 25 (0, 0)) (by (with_reducible repeat (first | refine blk_drewN ?_ _ | refine blk_drew ?_ | refine blk_alloc ?_ _)); exact BK311.out)) : gb319 ≠ gb311)); clear HO303; clear HO306; clear HO309; clear HO314; clear HO317; clear BK311; clear HB; have HO303 := n0_; have HO306 := n1_; have HO309 := n2_; have HO314 := n3_; have HO317 := n4_; have BK311 := n5_; have HB := n6_; have BK319 := n7_; have GW319 := n8_; have GE319 := n9_; have NB311_319 := n10_; have NB319_311 := n11_; clear n0_ n1_ n2_ n3_ n4_ n5_ n6_ n7_ n8_ n9_ n10_ n11_; clear hb hbox hg; obtain ⟨Ao16, co16, eo16⟩ := Kd.R_slice HO314.out; subst eo16; have hnb17 := NB319_311.out; have hnc17 := NB311_319.out; have hcz18_0 : w15.cell? ⟨gb319, 0, none⟩ = some (.slice none 0 0) := (blk_cell BK319.out 0).trans rfl; have hcz18_1 : w15.cell? ⟨gb319, 1, none⟩ = some (.slice none 0 0) := (blk_cell BK319.out 1).trans rfl; have hfz18_0 := blk_frozen BK319.out 0; have hfz18_1 := blk_frozen BK319.out 1; obtain ⟨Ao19, co19, eo19⟩ := Kd.R_slice HO317.out; subst eo19)); go_upto_region 6 with (first | (go_at_call 35; (with_reducible refine (spec_DrawPictureOf.calls k _ _ l0 t301 _ ?side1 ?side2 A3.out).mono ?_); (case side1 => repeat (first | exact HR0.out | (with_reducible refine Kd.C_alloc ?_ _) | (with_reducible refine Kd.C_drewN ?_ _) | (with_reducible refine Kd.C_drew ?_))); (case side2 => exact HC0.out); rintro e w7 ⟨v302, rfl, ho0, hb⟩; have n0_ := Aside0.mk (Kd.R_lower ho0 (below_size (by repeat (first | (with_reducible first | exact HB.out | apply below_alloc | apply pw_below_drewN | apply below_drew1) | exact HB.out)))); have n1_ := Aside0.mk (below_step (by repeat (first | (with_reducible first | exact HB.out | apply below_alloc | apply pw_below_drewN | apply below_drew1) | exact HB.out)) hb); clear HB; have HO303 := n0_; have HB := n1_; clear n0_ n1_; (try clear hb); (try clear hb2); (try clear hk); (try clear hi); (try clear ho0); obtain ⟨Ao8, co8, eo8⟩ := Kd.R_slice HO303.out; subst eo8) | (go_at_call 30; (with_reducible refine (impl_PictureOf.calls k _ _ t301 t304 t307 t310 _ ?side1 ?side2 A4.out).mono ?_); (case side1 => repeat (first | exact (Kd.R_reads' HO303.out).2.2 | (with_reducible refine Kd.C_alloc ?_ _) | (with_reducible refine Kd.C_drewN ?_ _) | (with_reducible refine Kd.C_drew ?_))); (case side2 => exact (Kd.R_reads' HO303.out).2.1); rintro e w9 ⟨v305, v308, rfl, ho0, ho1, hb⟩; have n0_ := Aside0.mk (Kd.R_below (by (with_reducible repeat (first | apply Kd.R_alloc | apply Kd.R_drewN | apply Kd.R_drew)); exact HO303.out) hb); have n1_ := Aside0.mk (Kd.R_lower ho0 (below_size (by repeat (first | (with_reducible first | exact HB.out | apply below_alloc | apply pw_below_drewN | apply below_drew1) | exact HB.out)))); have n2_ := Aside0.mk (Kd.R_lower ho1 (below_size (by repeat (first | (with_reducible first | exact HB.out | apply below_alloc | apply pw_below_drewN | apply below_drew1) | exact HB.out)))); have n3_ := Aside0.mk (below_step (by repeat (first | (with_reducible first | exact HB.out | apply below_alloc | apply pw_below_drewN | apply below_drew1) | exact HB.out)) hb); clear HO303; clear HB; have HO303 := n0_; have HO306 := n1_; have HO309 := n2_; have HB := n3_; clear n0_ n1_ n2_ n3_; (try clear hb); (try clear hb2); (try clear hk); (try clear hi); (try clear ho0); (try clear ho1)) | ((with_reducible refine gate_dst (N := 4) rfl ?_); (try (refine gate_guard (by rfl) ?_; dsimp only)); refine box_event ?hg (N := 4) ?hd (cs := #[.slice none 0 0, .slice none 0 0]) (t := 25) ?hr ?_; (case hd => rfl); (case hg => rfl); (case hr => first | (go_simp; done) | (go_simp; rfl)); intro gb311 hg w10 hbox hb; have n0_ := Aside0.mk (Kd.R_below (by (with_reducible repeat (first | apply Kd.R_alloc | apply Kd.R_drewN | apply Kd.R_drew)); exact HO303.out) hb); have n1_ := Aside0.mk (Kd.R_below (by (with_reducible repeat (first | apply Kd.R_alloc | apply Kd.R_drewN | apply Kd.R_drew)); exact HO306.out) hb); have n2_ := Aside0.mk (Kd.R_below (by (with_reducible repeat (first | apply Kd.R_alloc | apply Kd.R_drewN | apply Kd.R_drew)); exact HO309.out) hb); have n3_ := Aside0.mk (below_step (by repeat (first | (with_reducible first | exact HB.out | apply below_alloc | apply pw_below_drewN | apply below_drew1) | exact HB.out)) hb); have n4_ := Aside0.mk (hbox); have n5_ := Aside0.mk ((by rw [hg]; exact (below_size (by repeat (first | (with_reducible first | exact HB.out | apply below_alloc | apply pw_below_drewN | apply below_drew1) | exact HB.out))) : w.heap.size ≤ gb311)); have n6_ := Aside0.mk ((by rw [hg]; exact (below_size (by repeat (first | (with_reducible first | exact HB.out | apply below_alloc | apply pw_below_drewN | apply below_drew1) | exact HB.out))) : w.heap.size ≤ gb311)); clear HO303; clear HO306; clear HO309; clear HB; have HO303 := n0_; have HO306 := n1_; have HO309 := n2_; have HB := n3_; have BK311 := n4_; have GW311 := n5_; have GE311 := n6_; clear n0_ n1_ n2_ n3_ n4_ n5_ n6_; clear hb hbox hg; obtain ⟨Ao11, co11, eo11⟩ := Kd.R_slice HO306.out; subst eo11; have hcz12_0 : w10.cell? ⟨gb311, 0, none⟩ = some (.slice none 0 0) := (blk_cell BK311.out 0).trans rfl; have hcz12_1 : w10.cell? ⟨gb311, 1, none⟩ = some (.slice none 0 0) := (blk_cell BK311.out 1).trans rfl; have hfz12_0 := blk_frozen BK311.out 0; have hfz12_1 := blk_frozen BK311.out 1; obtain ⟨Ao13, co13, eo13⟩ := Kd.R_slice HO309.out; subst eo13) | (go_at_call 28; (with_reducible refine (spec_PictureOf.calls k _ _ t301 t312 t315 t318 _ ?side1 ?side2 A5.out).mono ?_); (case side1 => refine (Kd.R_reads' (e := 37) (base := w.heap.size) (ok := fun k_ => True) (n := t301.length) (c := co8) ?_).2.2; exact (by (with_reducible repeat (first | apply Kd.R_alloc | apply Kd.R_drewN | apply Kd.R_drew)); exact (Kd.R_mono (Kd.R_far (p := ⟨gb311, 1, none⟩) (Kd.R_far (p := ⟨gb311, 0, none⟩) (Kd.R_types HO303.out BK311.out (by decide)) (fun _ hk => hk.2) (.slice Ao11 t304.length co11)) (fun _ hk => hk.2) (.slice Ao13 t307.length co13)) (fun _ h_ => h_.1)))); (case side2 => exact (Kd.R_reads' HO303.out).2.1); rintro e w14 ⟨v313, v316, rfl, ho0, ho1, hb⟩; have n0_ := Aside0.mk (Kd.R_below (by (with_reducible repeat (first | apply Kd.R_alloc | apply Kd.R_drewN | apply Kd.R_drew)); exact (Kd.R_mono (Kd.R_far (p := ⟨gb311, 1, none⟩) (Kd.R_far (p := ⟨gb311, 0, none⟩) (Kd.R_types HO303.out BK311.out (by decide)) (fun _ hk => hk.2) (.slice Ao11 t304.length co11)) (fun _ hk => hk.2) (.slice Ao13 t307.length co13)) (fun _ h_ => h_.1))) hb); have n1_ := Aside0.mk (Kd.R_mono (Kd.R_told (Kd.R_told (Kd.R_old (by (with_reducible repeat (first | apply Kd.R_alloc | apply Kd.R_drewN | apply Kd.R_drew)); exact (Kd.R_mono (Kd.R_far (p := ⟨gb311, 1, none⟩) (Kd.R_far (p := ⟨gb311, 0, none⟩) (Kd.R_types HO306.out BK311.out (by decide)) (fun _ hk => hk.2) (.slice Ao11 t304.length co11)) (fun _ hk => hk.2) (.slice Ao13 t307.length co13)) (fun _ h_ => h_.1))) hb) (Kd.R_base ho0)) (Kd.R_base ho1)) (fun _ h_ => h_.1)); have n2_ := Aside0.mk (Kd.R_mono (Kd.R_told (Kd.R_told (Kd.R_old (by (with_reducible repeat (first | apply Kd.R_alloc | apply Kd.R_drewN | apply Kd.R_drew)); exact (Kd.R_mono (Kd.R_far (p := ⟨gb311, 1, none⟩) (Kd.R_far (p := ⟨gb311, 0, none⟩) (Kd.R_types HO309.out BK311.out (by decide)) (fun _ hk => hk.2) (.slice Ao11 t304.length co11)) (fun _ hk => hk.2) (.slice Ao13 t307.length co13)) (fun _ h_ => h_.1))) hb) (Kd.R_base ho0)) (Kd.R_base ho1)) (fun _ h_ => h_.1)); have n3_ := Aside0.mk (Kd.R_lower (Kd.R_new' (Kd.R_new' ho0 (Kd.R_lt (by (with_reducible repeat (first | apply Kd.R_alloc | apply Kd.R_drewN | apply Kd.R_drew)); exact (Kd.R_mono (Kd.R_far (p := ⟨gb311, 1, none⟩) (Kd.R_far (p := ⟨gb311, 0, none⟩) (Kd.R_types HO306.out BK311.out (by decide)) (fun _ hk => hk.2) (.slice Ao11 t304.length co11)) (fun _ hk => hk.2) (.slice Ao13 t307.length co13)) (fun _ h_ => h_.1))))) (Kd.R_lt (by (with_reducible repeat (first | apply Kd.R_alloc | apply Kd.R_drewN | apply Kd.R_drew)); exact (Kd.R_mono (Kd.R_far (p := ⟨gb311, 1, none⟩) (Kd.R_far (p := ⟨gb311, 0, none⟩) (Kd.R_types HO309.out BK311.out (by decide)) (fun _ hk => hk.2) (.slice Ao11 t304.length co11)) (fun _ hk => hk.2) (.slice Ao13 t307.length co13)) (fun _ h_ => h_.1))))) (below_size (by repeat (first | (with_reducible first | exact HB.out | apply below_alloc | apply pw_below_drewN | apply below_drew1 | refine below_set ?_ GE311.out) | exact HB.out)))); have n4_ := Aside0.mk (Kd.R_lower (Kd.R_new' (Kd.R_new' ho1 (Kd.R_lt (by (with_reducible repeat (first | apply Kd.R_alloc | apply Kd.R_drewN | apply Kd.R_drew)); exact (Kd.R_mono (Kd.R_far (p := ⟨gb311, 1, none⟩) (Kd.R_far (p := ⟨gb311, 0, none⟩) (Kd.R_types HO306.out BK311.out (by decide)) (fun _ hk => hk.2) (.slice Ao11 t304.length co11)) (fun _ hk => hk.2) (.slice Ao13 t307.length co13)) (fun _ h_ => h_.1))))) (Kd.R_lt (by (with_reducible repeat (first | apply Kd.R_alloc | apply Kd.R_drewN | apply Kd.R_drew)); exact (Kd.R_mono (Kd.R_far (p := ⟨gb311, 1, none⟩) (Kd.R_far (p := ⟨gb311, 0, none⟩) (Kd.R_types HO309.out BK311.out (by decide)) (fun _ hk => hk.2) (.slice Ao11 t304.length co11)) (fun _ hk => hk.2) (.slice Ao13 t307.length co13)) (fun _ h_ => h_.1))))) (below_size (by repeat (first | (with_reducible first | exact HB.out | apply below_alloc | apply pw_below_drewN | apply below_drew1 | refine below_set ?_ GE311.out) | exact HB.out)))); have n5_ := Aside0.mk (blk_below (g := gb311) (o := .cells #[.slice Ao11 t304.length co11, .slice Ao13 t307.length co13] 25 (0, 0)) (by (with_reducible repeat (first | refine blk_drewN ?_ _ | refine blk_drew ?_ | refine blk_alloc ?_ _)); refine blk_put (cs := #[.slice Ao11 t304.length co11, .slice none 0 0]) ?_ 1 _ rfl; (with_reducible repeat (first | refine blk_drewN ?_ _ | refine blk_drew ?_ | refine blk_alloc ?_ _)); refine blk_put (cs := #[.slice none 0 0, .slice none 0 0]) ?_ 0 _ rfl; (with_reducible repeat (first | refine blk_drewN ?_ _ | refine blk_drew ?_ | refine blk_alloc ?_ _)); exact BK311.out) hb); have n6_ := Aside0.mk (below_step (by repeat (first | (with_reducible first | exact HB.out | apply below_alloc | apply pw_below_drewN | apply below_drew1 | refine below_set ?_ GE311.out) | exact HB.out)) hb); clear HO303; clear HO306; clear HO309; clear BK311; clear HB; have HO303 := n0_; have HO306 := n1_; have HO309 := n2_; have HO314 := n3_; have HO317 := n4_; have BK311 := n5_; have HB := n6_; clear n0_ n1_ n2_ n3_ n4_ n5_ n6_; (try clear hb); (try clear hb2); (try clear hk); (try clear hi); (try clear ho0); (try clear ho1)) | ((with_reducible refine gate_dst (N := 6) rfl ?_); (try (refine gate_guard (by rfl) ?_; dsimp only)); refine box_event ?hg (N := 6) ?hd (cs := #[.slice none 0 0, .slice none 0 0]) (t := 25) ?hr ?_; (case hd => rfl); (case hg => rfl); (case hr => first | (go_simp; done) | (go_simp; rfl)); intro gb319 hg w15 hbox hb; have n0_ := Aside0.mk (Kd.R_below (by (with_reducible repeat (first | apply Kd.R_alloc | apply Kd.R_drewN | apply Kd.R_drew)); exact HO303.out) hb); have n1_ := Aside0.mk (Kd.R_below (by (with_reducible repeat (first | apply Kd.R_alloc | apply Kd.R_drewN | apply Kd.R_drew)); exact HO306.out) hb); have n2_ := Aside0.mk (Kd.R_below (by (with_reducible repeat (first | apply Kd.R_alloc | apply Kd.R_drewN | apply Kd.R_drew)); exact HO309.out) hb); have n3_ := Aside0.mk (Kd.R_below (by (with_reducible repeat (first | apply Kd.R_alloc | apply Kd.R_drewN | apply Kd.R_drew)); exact HO314.out) hb); have n4_ := Aside0.mk (Kd.R_below (by (with_reducible repeat (first | apply Kd.R_alloc | apply Kd.R_drewN | apply Kd.R_drew)); exact HO317.out) hb); have n5_ := Aside0.mk (blk_below (g := gb311) (o := .cells #[.slice Ao11 t304.length co11, .slice Ao13 t307.length co13] 25 (0, 0)) (by (with_reducible repeat (first | refine blk_drewN ?_ _ | refine blk_drew ?_ | refine blk_alloc ?_ _)); exact BK311.out) hb); have n6_ := Aside0.mk (below_step (by repeat (first | (with_reducible first | exact HB.out | apply below_alloc | apply pw_below_drewN | apply below_drew1 | refine below_set ?_ GE311.out) | exact HB.out)) hb); have n7_ := Aside0.mk (hbox); have n8_ := Aside0.mk ((by rw [hg]; exact (below_size (by repeat (first | (with_reducible first | exact HB.out | apply below_alloc | apply pw_below_drewN | apply below_drew1 | refine below_set ?_ GE311.out) | exact HB.out))) : w.heap.size ≤ gb319)); have n9_ := Aside0.mk ((by rw [hg]; exact (below_size (by repeat (first | (with_reducible first | exact HB.out | apply below_alloc | apply pw_below_drewN | apply below_drew1 | refine below_set ?_ GE311.out) | exact HB.out))) : w.heap.size ≤ gb319)); have n10_ := Aside0.mk ((by rw [hg]; exact Nat.ne_of_lt (blk_lt (g := gb311) (o := .cells #[.slice Ao11 t304.length co11, .slice Ao13 t307.length co13] 25 (0, 0)) (by (with_reducible repeat (first | refine blk_drewN ?_ _ | refine blk_drew ?_ | refine blk_alloc ?_ _)); exact BK311.out)) : gb311 ≠ gb319)); have n11_ := Aside0.mk ((by rw [hg]; exact Nat.ne_of_gt (blk_lt (g := gb311) (o := .cells #[.slice Ao11 t304.length co11, .slice Ao13 t307.length co13] 25 (0, 0)) (by (with_reducible repeat (first | refine blk_drewN ?_ _ | refine blk_drew ?_ | refine blk_alloc ?_ _)); exact BK311.out)) : gb319 ≠ gb311)); clear HO303; clear HO306; clear HO309; clear HO314; clear HO317; clear BK311; clear HB; have HO303 := n0_; have HO306 := n1_; have HO309 := n2_; have HO314 := n3_; have HO317 := n4_; have BK311 := n5_; have HB := n6_; have BK319 := n7_; have GW319 := n8_; have GE319 := n9_; have NB311_319 := n10_; have NB319_311 := n11_; clear n0_ n1_ n2_ n3_ n4_ n5_ n6_ n7_ n8_ n9_ n10_ n11_; clear hb hbox hg; obtain ⟨Ao16, co16, eo16⟩ := Kd.R_slice HO314.out; subst eo16; have hnb17 := NB319_311.out; have hnc17 := NB311_319.out; have hcz18_0 : w15.cell? ⟨gb319, 0, none⟩ = some (.slice none 0 0) := (blk_cell BK319.out 0).trans rfl; have hcz18_1 : w15.cell? ⟨gb319, 1, none⟩ = some (.slice none 0 0) := (blk_cell BK319.out 1).trans rfl; have hfz18_0 := blk_frozen BK319.out 0; have hfz18_1 := blk_frozen BK319.out 1; obtain ⟨Ao19, co19, eo19⟩ := Kd.R_slice HO317.out; subst eo19)))
    (try simp only [Act.put, List.setIfInBounds_toArray, List.set_cons_zero, List.set_cons_succ])
    go_cut [45] (fun v45 wc => ∃ (kq : Nat) (x45_5 : Bool), v45 = .bool x45_5 ∧ Aside0 (laws_FnPictureOf.j0 kq t310 x45_5 t304 t307 t312 t315 = some r) ∧ Aside0 (kq ≤ k) ∧ Aside0 (Kd.R (Kd.slice 3 (Kd.int .i64)) 36 wc w.heap.size (fun k_ => some k_ ≠ ((.slice Ao13 t307.length co13) : Value).ownBlock ∧ some k_ ≠ ((.slice Ao16 t312.length co16) : Value).ownBlock ∧ some k_ ≠ ((.slice Ao19 t315.length co19) : Value).ownBlock) (.slice Ao11 t304.length co11) t304) ∧ Aside0 (Kd.R (Kd.slice 3 (Kd.int .i64)) 36 wc w.heap.size (fun k_ => some k_ ≠ ((.slice Ao11 t304.length co11) : Value).ownBlock ∧ some k_ ≠ ((.slice Ao16 t312.length co16) : Value).ownBlock ∧ some k_ ≠ ((.slice Ao19 t315.length co19) : Value).ownBlock) (.slice Ao13 t307.length co13) t307) ∧ Aside0 (Kd.R (Kd.slice 3 (Kd.int .i64)) 36 wc w.heap.size (fun k_ => some k_ ≠ ((.slice Ao11 t304.length co11) : Value).ownBlock ∧ some k_ ≠ ((.slice Ao13 t307.length co13) : Value).ownBlock ∧ some k_ ≠ ((.slice Ao19 t315.length co19) : Value).ownBlock) (.slice Ao16 t312.length co16) t312) ∧ Aside0 (Kd.R (Kd.slice 3 (Kd.int .i64)) 36 wc w.heap.size (fun k_ => some k_ ≠ ((.slice Ao11 t304.length co11) : Value).ownBlock ∧ some k_ ≠ ((.slice Ao13 t307.length co13) : Value).ownBlock ∧ some k_ ≠ ((.slice Ao16 t312.length co16) : Value).ownBlock) (.slice Ao19 t315.length co19) t315) ∧ Aside0 (wc.heap[gb311]? = some (.cells #[(.slice Ao11 t304.length co11), (.slice Ao13 t307.length co13)] 25 (0, 0))) ∧ Aside0 (wc.heap[gb319]? = some (.cells #[(.slice Ao16 t312.length co16), (.slice Ao19 t315.length co19)] 25 (0, 0))) ∧ Aside0 (Below w.heap.size w wc))
    case first =>
      have H := HC6.out
      clear HC6
      by_cases c20 : (t304.length : Int) = (t312.length : Int)
      · rw [if_pos c20] at H
        have c20b0 : ((t304.length : Int) == (t312.length : Int)) = true := beq_iff_eq.mpr c20
        have c20b1 : ((t304.length : Int) != (t312.length : Int)) = false := bne_eq_false_iff_eq.mpr c20
        have c20b2 : (t304.length == t312.length) = true := by first | simpa using c20 | (simp at c20 ⊢; omega)
        clear c20
        (first | rw [c20b0] | (simp only [i64_w, i32_w]; rw [c20b0]) | skip)
        by_cases c21 : (t307.length : Int) = (t315.length : Int)
        · rw [if_pos c21] at H
          have c21b0 : ((t307.length : Int) == (t315.length : Int)) = true := beq_iff_eq.mpr c21
          have c21b1 : ((t307.length : Int) != (t315.length : Int)) = false := bne_eq_false_iff_eq.mpr c21
          have c21b2 : (t307.length == t315.length) = true := by first | simpa using c21 | (simp at c21 ⊢; omega)
          clear c21
          have H' := Aside0.mk H
          clear H
          have hnb22 := NB311_319.out
          have hnc22 := NB319_311.out
          have hcz23_0 : w15.cell? ⟨gb311, 0, none⟩ = some (.slice Ao11 t304.length co11) := (blk_cell BK311.out 0).trans rfl
          have hcz23_1 : w15.cell? ⟨gb311, 1, none⟩ = some (.slice Ao13 t307.length co13) := (blk_cell BK311.out 1).trans rfl
          have hfz23_0 := blk_frozen BK311.out 0
          have hfz23_1 := blk_frozen BK311.out 1
          have hcz24_0 : w15.cell? ⟨gb319, 0, none⟩ = some (.slice none 0 0) := (blk_cell BK319.out 0).trans rfl
          have hcz24_1 : w15.cell? ⟨gb319, 1, none⟩ = some (.slice none 0 0) := (blk_cell BK319.out 1).trans rfl
          have hfz24_0 := blk_frozen BK319.out 0
          have hfz24_1 := blk_frozen BK319.out 1
          go_wp2
          repeat (go_quiet (fail); try go_wp2)
          go_meet
          case rel => exact ⟨_, ((t310 != t318)), (by first | rfl | (simp; done) | (simp [*]; done)), H', ⟨by first | omega | exact Nat.le_refl _⟩, ⟨by (with_reducible repeat (first | apply Kd.R_alloc | apply Kd.R_drewN | apply Kd.R_drew)); exact Kd.R_mono (Kd.R_far (p := ⟨gb319, 1, none⟩) (Kd.R_far (p := ⟨gb319, 0, none⟩) (Kd.R_types HO306.out BK319.out (by decide)) (fun _ hk => hk.2) (.slice Ao16 t312.length co16)) (fun _ hk => hk.2) (.slice Ao19 t315.length co19)) (fun _ hk => ⟨hk.1.1.1, ⟨hk.1.1.2, hk.1.2⟩⟩)⟩, ⟨by (with_reducible repeat (first | apply Kd.R_alloc | apply Kd.R_drewN | apply Kd.R_drew)); exact Kd.R_mono (Kd.R_far (p := ⟨gb319, 1, none⟩) (Kd.R_far (p := ⟨gb319, 0, none⟩) (Kd.R_types HO309.out BK319.out (by decide)) (fun _ hk => hk.2) (.slice Ao16 t312.length co16)) (fun _ hk => hk.2) (.slice Ao19 t315.length co19)) (fun _ hk => ⟨hk.1.1.1, ⟨hk.1.1.2, hk.1.2⟩⟩)⟩, ⟨by (with_reducible repeat (first | apply Kd.R_alloc | apply Kd.R_drewN | apply Kd.R_drew)); exact Kd.R_mono (Kd.R_far (p := ⟨gb319, 1, none⟩) (Kd.R_far (p := ⟨gb319, 0, none⟩) (Kd.R_types HO314.out BK319.out (by decide)) (fun _ hk => hk.2) (.slice Ao16 t312.length co16)) (fun _ hk => hk.2) (.slice Ao19 t315.length co19)) (fun _ hk => ⟨hk.1.1.2, ⟨hk.1.2, hk.1.1.1⟩⟩)⟩, ⟨by (with_reducible repeat (first | apply Kd.R_alloc | apply Kd.R_drewN | apply Kd.R_drew)); exact Kd.R_mono (Kd.R_far (p := ⟨gb319, 1, none⟩) (Kd.R_far (p := ⟨gb319, 0, none⟩) (Kd.R_types HO317.out BK319.out (by decide)) (fun _ hk => hk.2) (.slice Ao16 t312.length co16)) (fun _ hk => hk.2) (.slice Ao19 t315.length co19)) (fun _ hk => ⟨hk.1.1.2, ⟨hk.1.2, hk.1.1.1⟩⟩)⟩, ⟨by (with_reducible repeat (first | refine blk_drewN ?_ _ | refine blk_drew ?_ | refine blk_alloc ?_ _)); refine blk_far ?_ NB311_319.out _; (with_reducible repeat (first | refine blk_drewN ?_ _ | refine blk_drew ?_ | refine blk_alloc ?_ _)); refine blk_far ?_ NB311_319.out _; (with_reducible repeat (first | refine blk_drewN ?_ _ | refine blk_drew ?_ | refine blk_alloc ?_ _)); exact BK311.out⟩, ⟨by (with_reducible repeat (first | refine blk_drewN ?_ _ | refine blk_drew ?_ | refine blk_alloc ?_ _)); refine blk_put (cs := #[.slice Ao16 t312.length co16, .slice none 0 0]) ?_ 1 _ rfl; (with_reducible repeat (first | refine blk_drewN ?_ _ | refine blk_drew ?_ | refine blk_alloc ?_ _)); refine blk_put (cs := #[.slice none 0 0, .slice none 0 0]) ?_ 0 _ rfl; (with_reducible repeat (first | refine blk_drewN ?_ _ | refine blk_drew ?_ | refine blk_alloc ?_ _)); exact BK319.out⟩, ⟨by repeat (first | (with_reducible first | exact HB.out | apply below_alloc | apply pw_below_drewN | apply below_drew1 | refine below_set ?_ GE311.out | refine below_set ?_ GE319.out) | exact HB.out)⟩⟩
        · rw [if_neg c21] at H
          have c21b0 : ((t307.length : Int) == (t315.length : Int)) = false := beq_eq_false_iff_ne.mpr c21
          have c21b1 : ((t307.length : Int) != (t315.length : Int)) = true := bne_iff_ne.mpr c21
          have c21b2 : (t307.length == t315.length) = false := by first | simpa using c21 | (simp at c21 ⊢; omega)
          have H' := Aside0.mk H
          clear H
          have hnb25 := NB311_319.out
          have hnc25 := NB319_311.out
          have hcz26_0 : w15.cell? ⟨gb311, 0, none⟩ = some (.slice Ao11 t304.length co11) := (blk_cell BK311.out 0).trans rfl
          have hcz26_1 : w15.cell? ⟨gb311, 1, none⟩ = some (.slice Ao13 t307.length co13) := (blk_cell BK311.out 1).trans rfl
          have hfz26_0 := blk_frozen BK311.out 0
          have hfz26_1 := blk_frozen BK311.out 1
          have hcz27_0 : w15.cell? ⟨gb319, 0, none⟩ = some (.slice none 0 0) := (blk_cell BK319.out 0).trans rfl
          have hcz27_1 : w15.cell? ⟨gb319, 1, none⟩ = some (.slice none 0 0) := (blk_cell BK319.out 1).trans rfl
          have hfz27_0 := blk_frozen BK319.out 0
          have hfz27_1 := blk_frozen BK319.out 1
          go_wp2
          repeat (go_quiet (fail); try go_wp2)
          go_meet
          case rel => exact ⟨_, (true), (by first | rfl | (simp; done) | (simp [*]; done)), H', ⟨by first | omega | exact Nat.le_refl _⟩, ⟨by (with_reducible repeat (first | apply Kd.R_alloc | apply Kd.R_drewN | apply Kd.R_drew)); exact Kd.R_mono (Kd.R_far (p := ⟨gb319, 1, none⟩) (Kd.R_far (p := ⟨gb319, 0, none⟩) (Kd.R_types HO306.out BK319.out (by decide)) (fun _ hk => hk.2) (.slice Ao16 t312.length co16)) (fun _ hk => hk.2) (.slice Ao19 t315.length co19)) (fun _ hk => ⟨hk.1.1.1, ⟨hk.1.1.2, hk.1.2⟩⟩)⟩, ⟨by (with_reducible repeat (first | apply Kd.R_alloc | apply Kd.R_drewN | apply Kd.R_drew)); exact Kd.R_mono (Kd.R_far (p := ⟨gb319, 1, none⟩) (Kd.R_far (p := ⟨gb319, 0, none⟩) (Kd.R_types HO309.out BK319.out (by decide)) (fun _ hk => hk.2) (.slice Ao16 t312.length co16)) (fun _ hk => hk.2) (.slice Ao19 t315.length co19)) (fun _ hk => ⟨hk.1.1.1, ⟨hk.1.1.2, hk.1.2⟩⟩)⟩, ⟨by (with_reducible repeat (first | apply Kd.R_alloc | apply Kd.R_drewN | apply Kd.R_drew)); exact Kd.R_mono (Kd.R_far (p := ⟨gb319, 1, none⟩) (Kd.R_far (p := ⟨gb319, 0, none⟩) (Kd.R_types HO314.out BK319.out (by decide)) (fun _ hk => hk.2) (.slice Ao16 t312.length co16)) (fun _ hk => hk.2) (.slice Ao19 t315.length co19)) (fun _ hk => ⟨hk.1.1.2, ⟨hk.1.2, hk.1.1.1⟩⟩)⟩, ⟨by (with_reducible repeat (first | apply Kd.R_alloc | apply Kd.R_drewN | apply Kd.R_drew)); exact Kd.R_mono (Kd.R_far (p := ⟨gb319, 1, none⟩) (Kd.R_far (p := ⟨gb319, 0, none⟩) (Kd.R_types HO317.out BK319.out (by decide)) (fun _ hk => hk.2) (.slice Ao16 t312.length co16)) (fun _ hk => hk.2) (.slice Ao19 t315.length co19)) (fun _ hk => ⟨hk.1.1.2, ⟨hk.1.2, hk.1.1.1⟩⟩)⟩, ⟨by (with_reducible repeat (first | refine blk_drewN ?_ _ | refine blk_drew ?_ | refine blk_alloc ?_ _)); refine blk_far ?_ NB311_319.out _; (with_reducible repeat (first | refine blk_drewN ?_ _ | refine blk_drew ?_ | refine blk_alloc ?_ _)); refine blk_far ?_ NB311_319.out _; (with_reducible repeat (first | refine blk_drewN ?_ _ | refine blk_drew ?_ | refine blk_alloc ?_ _)); exact BK311.out⟩, ⟨by (with_reducible repeat (first | refine blk_drewN ?_ _ | refine blk_drew ?_ | refine blk_alloc ?_ _)); refine blk_put (cs := #[.slice Ao16 t312.length co16, .slice none 0 0]) ?_ 1 _ rfl; (with_reducible repeat (first | refine blk_drewN ?_ _ | refine blk_drew ?_ | refine blk_alloc ?_ _)); refine blk_put (cs := #[.slice none 0 0, .slice none 0 0]) ?_ 0 _ rfl; (with_reducible repeat (first | refine blk_drewN ?_ _ | refine blk_drew ?_ | refine blk_alloc ?_ _)); exact BK319.out⟩, ⟨by repeat (first | (with_reducible first | exact HB.out | apply below_alloc | apply pw_below_drewN | apply below_drew1 | refine below_set ?_ GE311.out | refine below_set ?_ GE319.out) | exact HB.out)⟩⟩
      · rw [if_neg c20] at H
        have c20b0 : ((t304.length : Int) == (t312.length : Int)) = false := beq_eq_false_iff_ne.mpr c20
        have c20b1 : ((t304.length : Int) != (t312.length : Int)) = true := bne_iff_ne.mpr c20
        have c20b2 : (t304.length == t312.length) = false := by first | simpa using c20 | (simp at c20 ⊢; omega)
        (first | rw [c20b0] | (simp only [i64_w, i32_w]; rw [c20b0]) | skip)
        have H' := Aside0.mk H
        clear H
        have hnb28 := NB311_319.out
        have hnc28 := NB319_311.out
        have hcz29_0 : w15.cell? ⟨gb311, 0, none⟩ = some (.slice Ao11 t304.length co11) := (blk_cell BK311.out 0).trans rfl
        have hcz29_1 : w15.cell? ⟨gb311, 1, none⟩ = some (.slice Ao13 t307.length co13) := (blk_cell BK311.out 1).trans rfl
        have hfz29_0 := blk_frozen BK311.out 0
        have hfz29_1 := blk_frozen BK311.out 1
        have hcz30_0 : w15.cell? ⟨gb319, 0, none⟩ = some (.slice none 0 0) := (blk_cell BK319.out 0).trans rfl
        have hcz30_1 : w15.cell? ⟨gb319, 1, none⟩ = some (.slice none 0 0) := (blk_cell BK319.out 1).trans rfl
        have hfz30_0 := blk_frozen BK319.out 0
        have hfz30_1 := blk_frozen BK319.out 1
        go_wp2
        repeat (go_quiet (fail); try go_wp2)
        go_meet
        case rel => exact ⟨_, (true), (by first | rfl | (simp; done) | (simp [*]; done)), H', ⟨by first | omega | exact Nat.le_refl _⟩, ⟨by (with_reducible repeat (first | apply Kd.R_alloc | apply Kd.R_drewN | apply Kd.R_drew)); exact Kd.R_mono (Kd.R_far (p := ⟨gb319, 1, none⟩) (Kd.R_far (p := ⟨gb319, 0, none⟩) (Kd.R_types HO306.out BK319.out (by decide)) (fun _ hk => hk.2) (.slice Ao16 t312.length co16)) (fun _ hk => hk.2) (.slice Ao19 t315.length co19)) (fun _ hk => ⟨hk.1.1.1, ⟨hk.1.1.2, hk.1.2⟩⟩)⟩, ⟨by (with_reducible repeat (first | apply Kd.R_alloc | apply Kd.R_drewN | apply Kd.R_drew)); exact Kd.R_mono (Kd.R_far (p := ⟨gb319, 1, none⟩) (Kd.R_far (p := ⟨gb319, 0, none⟩) (Kd.R_types HO309.out BK319.out (by decide)) (fun _ hk => hk.2) (.slice Ao16 t312.length co16)) (fun _ hk => hk.2) (.slice Ao19 t315.length co19)) (fun _ hk => ⟨hk.1.1.1, ⟨hk.1.1.2, hk.1.2⟩⟩)⟩, ⟨by (with_reducible repeat (first | apply Kd.R_alloc | apply Kd.R_drewN | apply Kd.R_drew)); exact Kd.R_mono (Kd.R_far (p := ⟨gb319, 1, none⟩) (Kd.R_far (p := ⟨gb319, 0, none⟩) (Kd.R_types HO314.out BK319.out (by decide)) (fun _ hk => hk.2) (.slice Ao16 t312.length co16)) (fun _ hk => hk.2) (.slice Ao19 t315.length co19)) (fun _ hk => ⟨hk.1.1.2, ⟨hk.1.2, hk.1.1.1⟩⟩)⟩, ⟨by (with_reducible repeat (first | apply Kd.R_alloc | apply Kd.R_drewN | apply Kd.R_drew)); exact Kd.R_mono (Kd.R_far (p := ⟨gb319, 1, none⟩) (Kd.R_far (p := ⟨gb319, 0, none⟩) (Kd.R_types HO317.out BK319.out (by decide)) (fun _ hk => hk.2) (.slice Ao16 t312.length co16)) (fun _ hk => hk.2) (.slice Ao19 t315.length co19)) (fun _ hk => ⟨hk.1.1.2, ⟨hk.1.2, hk.1.1.1⟩⟩)⟩, ⟨by (with_reducible repeat (first | refine blk_drewN ?_ _ | refine blk_drew ?_ | refine blk_alloc ?_ _)); refine blk_far ?_ NB311_319.out _; (with_reducible repeat (first | refine blk_drewN ?_ _ | refine blk_drew ?_ | refine blk_alloc ?_ _)); refine blk_far ?_ NB311_319.out _; (with_reducible repeat (first | refine blk_drewN ?_ _ | refine blk_drew ?_ | refine blk_alloc ?_ _)); exact BK311.out⟩, ⟨by (with_reducible repeat (first | refine blk_drewN ?_ _ | refine blk_drew ?_ | refine blk_alloc ?_ _)); refine blk_put (cs := #[.slice Ao16 t312.length co16, .slice none 0 0]) ?_ 1 _ rfl; (with_reducible repeat (first | refine blk_drewN ?_ _ | refine blk_drew ?_ | refine blk_alloc ?_ _)); refine blk_put (cs := #[.slice none 0 0, .slice none 0 0]) ?_ 0 _ rfl; (with_reducible repeat (first | refine blk_drewN ?_ _ | refine blk_drew ?_ | refine blk_alloc ?_ _)); exact BK319.out⟩, ⟨by repeat (first | (with_reducible first | exact HB.out | apply below_alloc | apply pw_below_drewN | apply below_drew1 | refine below_set ?_ GE311.out | refine below_set ?_ GE319.out) | exact HB.out)⟩⟩
    case rest =>
      clear HC6
      try clear c1
      try clear c2
      try clear c2b0
      try clear c2b1
      try clear p2
      try clear c7
      try clear c17
      try clear c20
      try clear c20b0
      try clear c20b1
      try clear c20b2
      try clear c21
      try clear c21b0
      try clear c21b1
      try clear c21b2
      try clear c22
      try clear c25
      try clear c28
      try clear hcz12_0
      try clear hcz12_1
      try clear hcz18_0
      try clear hcz18_1
      try clear hcz23_0
      try clear hcz23_1
      try clear hcz24_0
      try clear hcz24_1
      try clear hcz26_0
      try clear hcz26_1
      try clear hcz27_0
      try clear hcz27_1
      try clear hcz29_0
      try clear hcz29_1
      try clear hcz30_0
      try clear hcz30_1
      try clear hfz12_0
      try clear hfz12_1
      try clear hfz18_0
      try clear hfz18_1
      try clear hfz23_0
      try clear hfz23_1
      try clear hfz24_0
      try clear hfz24_1
      try clear hfz26_0
      try clear hfz26_1
      try clear hfz27_0
      try clear hfz27_1
      try clear hfz29_0
      try clear hfz29_1
      try clear hfz30_0
      try clear hfz30_1
      obtain ⟨kq, x45_5, rfl, HA, HJ5, HO_312000, HO_312001, HO_320000, HO_320001, BK311, BK319, HB⟩ := hcut
      cases kq with
      | zero => exact absurd HA.out (by simp [laws_FnPictureOf.j0])
      | succ kj5 =>
        have H := HA.out
        clear HA
        simp only [laws_FnPictureOf.j0] at H
        by_cases c31 : x45_5 = true
        · subst c31
          have H1 : (some false) = some r := by rw [if_pos rfl] at H; exact H
          clear H
          have H := H1
          clear H1
          obtain rfl := Option.some.inj H
          go_wp2
          repeat (go_quiet (fail); try go_wp2)
          go_ret
          exact ⟨by first | rfl | (simp [errW_none, errW_some] <;> rfl) | (simp [*, errW_none, errW_some] <;> rfl), by repeat (first | (with_reducible first | exact HB.out | apply below_alloc | apply pw_below_drewN | apply below_drew1 | refine below_set ?_ GE311.out | refine below_set ?_ GE319.out) | exact HB.out)⟩
        · replace c31 := Bool.eq_false_iff.mpr c31
          subst c31
          have H1 : (laws_FnPictureOf.l0 kj5 t310 0 t304 t307 t312 t315) = some r := by rw [if_neg (show ¬ (false = true) by decide)] at H; exact H
          clear H
          have H := H1
          clear H1
          have H' := Aside0.mk H
          clear H
          go_wp2
          repeat (go_quiet (fail); try go_wp2)
          go_loopg [8] kj5 (fun kq v8 w' => ∃ (x8_2 : Int), v8 = .int .i64 x8_2 ∧ Aside0 (laws_FnPictureOf.l0 kq t310 x8_2 t304 t307 t312 t315 = some r) ∧ Aside0 (kq ≤ kj5) ∧ Aside0 (Kd.R (Kd.slice 3 (Kd.int .i64)) 36 w' w.heap.size (fun k_ => some k_ ≠ ((.slice Ao13 t307.length co13) : Value).ownBlock ∧ some k_ ≠ ((.slice Ao16 t312.length co16) : Value).ownBlock ∧ some k_ ≠ ((.slice Ao19 t315.length co19) : Value).ownBlock) (.slice Ao11 t304.length co11) t304) ∧ Aside0 (Kd.R (Kd.slice 3 (Kd.int .i64)) 36 w' w.heap.size (fun k_ => some k_ ≠ ((.slice Ao11 t304.length co11) : Value).ownBlock ∧ some k_ ≠ ((.slice Ao16 t312.length co16) : Value).ownBlock ∧ some k_ ≠ ((.slice Ao19 t315.length co19) : Value).ownBlock) (.slice Ao13 t307.length co13) t307) ∧ Aside0 (Kd.R (Kd.slice 3 (Kd.int .i64)) 36 w' w.heap.size (fun k_ => some k_ ≠ ((.slice Ao11 t304.length co11) : Value).ownBlock ∧ some k_ ≠ ((.slice Ao13 t307.length co13) : Value).ownBlock ∧ some k_ ≠ ((.slice Ao19 t315.length co19) : Value).ownBlock) (.slice Ao16 t312.length co16) t312) ∧ Aside0 (Kd.R (Kd.slice 3 (Kd.int .i64)) 36 w' w.heap.size (fun k_ => some k_ ≠ ((.slice Ao11 t304.length co11) : Value).ownBlock ∧ some k_ ≠ ((.slice Ao13 t307.length co13) : Value).ownBlock ∧ some k_ ≠ ((.slice Ao16 t312.length co16) : Value).ownBlock) (.slice Ao19 t315.length co19) t315) ∧ Aside0 (w'.heap[gb311]? = some (.cells #[(.slice Ao11 t304.length co11), (.slice Ao13 t307.length co13)] 25 (0, 0))) ∧ Aside0 (w'.heap[gb319]? = some (.cells #[(.slice Ao16 t312.length co16), (.slice Ao19 t315.length co19)] 25 (0, 0))) ∧ Aside0 (Below w.heap.size w w'))
          case atStart => exact ⟨(0), (by first | rfl | (simp; done) | (simp [*]; done)), H', ⟨Nat.le_refl _⟩, ⟨by (with_reducible repeat (first | apply Kd.R_alloc | apply Kd.R_drewN | apply Kd.R_drew)); exact HO_312000.out⟩, ⟨by (with_reducible repeat (first | apply Kd.R_alloc | apply Kd.R_drewN | apply Kd.R_drew)); exact HO_312001.out⟩, ⟨by (with_reducible repeat (first | apply Kd.R_alloc | apply Kd.R_drewN | apply Kd.R_drew)); exact HO_320000.out⟩, ⟨by (with_reducible repeat (first | apply Kd.R_alloc | apply Kd.R_drewN | apply Kd.R_drew)); exact HO_320001.out⟩, ⟨by (with_reducible repeat (first | refine blk_drewN ?_ _ | refine blk_drew ?_ | refine blk_alloc ?_ _)); exact BK311.out⟩, ⟨by (with_reducible repeat (first | refine blk_drewN ?_ _ | refine blk_drew ?_ | refine blk_alloc ?_ _)); exact BK319.out⟩, ⟨by repeat (first | (with_reducible first | exact HB.out | apply below_alloc | apply pw_below_drewN | apply below_drew1 | refine below_set ?_ GE311.out | refine below_set ?_ GE319.out) | exact HB.out)⟩⟩
          case round =>
            clear H'
            try clear c1
            try clear c2
            try clear c2b0
            try clear c2b1
            try clear p2
            try clear c3
            try clear c7
            try clear c17
            try clear c20
            try clear c20b0
            try clear c20b1
            try clear c20b2
            try clear c21
            try clear c21b0
            try clear c21b1
            try clear c21b2
            try clear c22
            try clear c25
            try clear c28
            try clear c31
            try clear hcz12_0
            try clear hcz12_1
            try clear hcz18_0
            try clear hcz18_1
            try clear hcz23_0
            try clear hcz23_1
            try clear hcz24_0
            try clear hcz24_1
            try clear hcz26_0
            try clear hcz26_1
            try clear hcz27_0
            try clear hcz27_1
            try clear hcz29_0
            try clear hcz29_1
            try clear hcz30_0
            try clear hcz30_1
            try clear hfz12_0
            try clear hfz12_1
            try clear hfz18_0
            try clear hfz18_1
            try clear hfz23_0
            try clear hfz23_1
            try clear hfz24_0
            try clear hfz24_1
            try clear hfz26_0
            try clear hfz26_1
            try clear hfz27_0
            try clear hfz27_1
            try clear hfz29_0
            try clear hfz29_1
            try clear hfz30_0
            try clear hfz30_1
            try clear p2
            obtain ⟨x8_2, rfl, HA, HK2, HO_312000, HO_312001, HO_320000, HO_320001, BK311, BK319, HB⟩ := hrel
            cases gk with
            | zero => exact absurd HA.out (by simp [laws_FnPictureOf.l0])
            | succ k2 =>
              have H := HA.out
              clear HA
              simp only [laws_FnPictureOf.l0] at H
              by_cases c32 : x8_2 < (t304.length : Int)
              · rw [if_pos c32] at H
                have c32b0 : decide (x8_2 < (t304.length : Int)) = true := decide_eq_true c32
                clear c32
                by_cases c33 : 0 ≤ x8_2
                · rw [if_pos c33] at H
                  have c33b0 : decide (0 ≤ x8_2) = true := decide_eq_true c33
                  clear c33
                  by_cases c34 : x8_2 < (t312.length : Int)
                  · rw [if_pos c34] at H
                    have c34b0 : decide (x8_2 < (t312.length : Int)) = true := decide_eq_true c34
                    clear c34
                    replace H := Option.bind_eq_some_iff.mp H
                    obtain ⟨t322, A350, H⟩ := H
                    replace H : (if t322 = true then (laws_FnPictureOf.l0 k2 t310 (wrap64 (x8_2 + 1)) t304 t307 t312 t315) else (some false)) = some r := H
                    have A35 := Aside0.mk A350
                    clear A350
                    by_cases c36 : t322 = true
                    · subst c36
                      have H1 : (laws_FnPictureOf.l0 k2 t310 (wrap64 (x8_2 + 1)) t304 t307 t312 t315) = some r := by rw [if_pos rfl] at H; exact H
                      clear H
                      have H := H1
                      clear H1
                      have H' := Aside0.mk H
                      clear H
                      have hnb37 := NB311_319.out
                      have hnc37 := NB319_311.out
                      have hcz38_0 : wr.cell? ⟨gb311, 0, none⟩ = some (.slice Ao11 t304.length co11) := (blk_cell BK311.out 0).trans rfl
                      have hcz38_1 : wr.cell? ⟨gb311, 1, none⟩ = some (.slice Ao13 t307.length co13) := (blk_cell BK311.out 1).trans rfl
                      have hfz38_0 := blk_frozen BK311.out 0
                      have hfz38_1 := blk_frozen BK311.out 1
                      have p320 : 0 ≤ (x8_2 : Int) := of_decide_eq_true (by first | (with_reducible assumption) | assumption)
                      have q320 : x8_2 < (t304.length : Int) := of_decide_eq_true (by first | (with_reducible assumption) | assumption)
                      obtain ⟨ad320, A320_0, c320_0, e320, hx320_0, hl320_0, hi320_0⟩ := at_L1 (Kd.R_reads' HO_312000.out).2.2 x8_2 p320 q320
                      cases e320
                      obtain ⟨ce320, hce320, hMe320, hcc320⟩ := Kd.R_get HO_312000.out [] x8_2 p320 (by first | exact q320 | exact of_decide_eq_true (by first | (with_reducible assumption) | assumption) | (have e_ := (Kd.R_reads' HO_312000.out).1; omega))
                      obtain ⟨ve320_0, rfl, ge320_0⟩ := hMe320
                      have hv320_0 := hcc320 0 _ rfl
                      rw [Nat.add_zero, show ((Kd.slice 3 (Kd.int .i64))).sz = 1 from rfl, Nat.mul_one] at hv320_0
                      replace hv320_0 := Option.some.inj (hv320_0.symm.trans hx320_0)
                      rw [hv320_0] at ge320_0
                      have HL320_0 := Aside0.mk (show Kd.R (Kd.int .i64) 3 _ _ _ _ (rd_L1 t304 x8_2) from ge320_0)
                      clear hv320_0 ge320_0
                      clear hcc320 hce320
                      have HR320_0 := Aside0.mk hi320_0
                      have HC320_0 := Aside0.mk hl320_0
                      clear hi320_0 hl320_0
                      replace p320 := eq_true p320
                      replace q320 := eq_true q320
                      have hcz39_0 : wr.cell? ⟨gb319, 0, none⟩ = some (.slice Ao16 t312.length co16) := (blk_cell BK319.out 0).trans rfl
                      have hcz39_1 : wr.cell? ⟨gb319, 1, none⟩ = some (.slice Ao19 t315.length co19) := (blk_cell BK319.out 1).trans rfl
                      have hfz39_0 := blk_frozen BK319.out 0
                      have hfz39_1 := blk_frozen BK319.out 1
                      have p321 : 0 ≤ (x8_2 : Int) := of_decide_eq_true (by first | (with_reducible assumption) | assumption)
                      have q321 : x8_2 < (t312.length : Int) := of_decide_eq_true (by first | (with_reducible assumption) | assumption)
                      obtain ⟨ad321, A321_0, c321_0, e321, hx321_0, hl321_0, hi321_0⟩ := at_L1 (Kd.R_reads' HO_320000.out).2.2 x8_2 p321 q321
                      cases e321
                      obtain ⟨ce321, hce321, hMe321, hcc321⟩ := Kd.R_get HO_320000.out [] x8_2 p321 (by first | exact q321 | exact of_decide_eq_true (by first | (with_reducible assumption) | assumption) | (have e_ := (Kd.R_reads' HO_320000.out).1; omega))
                      obtain ⟨ve321_0, rfl, ge321_0⟩ := hMe321
                      have hv321_0 := hcc321 0 _ rfl
                      rw [Nat.add_zero, show ((Kd.slice 3 (Kd.int .i64))).sz = 1 from rfl, Nat.mul_one] at hv321_0
                      replace hv321_0 := Option.some.inj (hv321_0.symm.trans hx321_0)
                      rw [hv321_0] at ge321_0
                      have HL321_0 := Aside0.mk (show Kd.R (Kd.int .i64) 3 _ _ _ _ (rd_L1 t312 x8_2) from ge321_0)
                      clear hv321_0 ge321_0
                      clear hcc321 hce321
                      have HR321_0 := Aside0.mk hi321_0
                      have HC321_0 := Aside0.mk hl321_0
                      clear hi321_0 hl321_0
                      replace p321 := eq_true p321
                      replace q321 := eq_true q321
                      go_wp2_with (first | (go_at_call 21; (with_reducible refine (laws_sameInts.calls k2 _ _ (rd_L1 t304 x8_2) _ _ (rd_L1 t312 x8_2) true _ ?side1 ?side2 ?side3 ?side4 A35.out).mono ?_); (case side1 => repeat (first | exact (by repeat (first | (with_reducible exact HR320_0.out) | (with_reducible refine Kd.C_alloc ?_ _) | (with_reducible refine Kd.C_drewN ?_ _) | (with_reducible refine Kd.C_drew ?_) | exact HR320_0.out)) | (with_reducible refine Kd.C_alloc ?_ _) | (with_reducible refine Kd.C_drewN ?_ _) | (with_reducible refine Kd.C_drew ?_))); (case side2 => exact HC320_0.out); (case side3 => repeat (first | exact (by repeat (first | (with_reducible exact HR321_0.out) | (with_reducible refine Kd.C_alloc ?_ _) | (with_reducible refine Kd.C_drewN ?_ _) | (with_reducible refine Kd.C_drew ?_) | exact HR321_0.out)) | (with_reducible refine Kd.C_alloc ?_ _) | (with_reducible refine Kd.C_drewN ?_ _) | (with_reducible refine Kd.C_drew ?_))); (case side4 => exact HC321_0.out); rintro e w' ⟨rfl, ⟨nd, rfl⟩⟩; (try first | exact ⟨rfl, _, World.drewN_drewN _ _ _⟩ | exact ⟨rfl, _, Eq.trans (World.drewN_drewN _ _ _) (congrArg (World.drewN _) (Nat.add_assoc _ _ _))⟩)))
                      repeat (go_quiet (first | (go_at_call 21; (with_reducible refine (laws_sameInts.calls k2 _ _ (rd_L1 t304 x8_2) _ _ (rd_L1 t312 x8_2) true _ ?side1 ?side2 ?side3 ?side4 A35.out).mono ?_); (case side1 => repeat (first | exact (by repeat (first | (with_reducible exact HR320_0.out) | (with_reducible refine Kd.C_alloc ?_ _) | (with_reducible refine Kd.C_drewN ?_ _) | (with_reducible refine Kd.C_drew ?_) | exact HR320_0.out)) | (with_reducible refine Kd.C_alloc ?_ _) | (with_reducible refine Kd.C_drewN ?_ _) | (with_reducible refine Kd.C_drew ?_))); (case side2 => exact HC320_0.out); (case side3 => repeat (first | exact (by repeat (first | (with_reducible exact HR321_0.out) | (with_reducible refine Kd.C_alloc ?_ _) | (with_reducible refine Kd.C_drewN ?_ _) | (with_reducible refine Kd.C_drew ?_) | exact HR321_0.out)) | (with_reducible refine Kd.C_alloc ?_ _) | (with_reducible refine Kd.C_drewN ?_ _) | (with_reducible refine Kd.C_drew ?_))); (case side4 => exact HC321_0.out); rintro e w' ⟨rfl, ⟨nd, rfl⟩⟩; (try first | exact ⟨rfl, _, World.drewN_drewN _ _ _⟩ | exact ⟨rfl, _, Eq.trans (World.drewN_drewN _ _ _) (congrArg (World.drewN _) (Nat.add_assoc _ _ _))⟩))); try go_wp2_with (first | (go_at_call 21; (with_reducible refine (laws_sameInts.calls k2 _ _ (rd_L1 t304 x8_2) _ _ (rd_L1 t312 x8_2) true _ ?side1 ?side2 ?side3 ?side4 A35.out).mono ?_); (case side1 => repeat (first | exact (by repeat (first | (with_reducible exact HR320_0.out) | (with_reducible refine Kd.C_alloc ?_ _) | (with_reducible refine Kd.C_drewN ?_ _) | (with_reducible refine Kd.C_drew ?_) | exact HR320_0.out)) | (with_reducible refine Kd.C_alloc ?_ _) | (with_reducible refine Kd.C_drewN ?_ _) | (with_reducible refine Kd.C_drew ?_))); (case side2 => exact HC320_0.out); (case side3 => repeat (first | exact (by repeat (first | (with_reducible exact HR321_0.out) | (with_reducible refine Kd.C_alloc ?_ _) | (with_reducible refine Kd.C_drewN ?_ _) | (with_reducible refine Kd.C_drew ?_) | exact HR321_0.out)) | (with_reducible refine Kd.C_alloc ?_ _) | (with_reducible refine Kd.C_drewN ?_ _) | (with_reducible refine Kd.C_drew ?_))); (case side4 => exact HC321_0.out); rintro e w' ⟨rfl, ⟨nd, rfl⟩⟩; (try first | exact ⟨rfl, _, World.drewN_drewN _ _ _⟩ | exact ⟨rfl, _, Eq.trans (World.drewN_drewN _ _ _) (congrArg (World.drewN _) (Nat.add_assoc _ _ _))⟩))))
                      go_roundg k2
                      case measure => have := HJ5.out; have := HK2.out; omega
                      case rel => exact ⟨(wrap64 (x8_2 + 1)), (by first | rfl | (simp; done) | (simp [*]; done)), H', ⟨by have := HJ5.out; have := HK2.out; omega⟩, ⟨by (with_reducible repeat (first | apply Kd.R_alloc | apply Kd.R_drewN | apply Kd.R_drew)); exact HO_312000.out⟩, ⟨by (with_reducible repeat (first | apply Kd.R_alloc | apply Kd.R_drewN | apply Kd.R_drew)); exact HO_312001.out⟩, ⟨by (with_reducible repeat (first | apply Kd.R_alloc | apply Kd.R_drewN | apply Kd.R_drew)); exact HO_320000.out⟩, ⟨by (with_reducible repeat (first | apply Kd.R_alloc | apply Kd.R_drewN | apply Kd.R_drew)); exact HO_320001.out⟩, ⟨by (with_reducible repeat (first | refine blk_drewN ?_ _ | refine blk_drew ?_ | refine blk_alloc ?_ _)); exact BK311.out⟩, ⟨by (with_reducible repeat (first | refine blk_drewN ?_ _ | refine blk_drew ?_ | refine blk_alloc ?_ _)); exact BK319.out⟩, ⟨by repeat (first | (with_reducible first | exact HB.out | apply below_alloc | apply pw_below_drewN | apply below_drew1 | refine below_set ?_ GE311.out | refine below_set ?_ GE319.out) | exact HB.out)⟩⟩
                    · replace c36 := Bool.eq_false_iff.mpr c36
                      subst c36
                      have H1 : (some false) = some r := by rw [if_neg (show ¬ (false = true) by decide)] at H; exact H
                      clear H
                      have H := H1
                      clear H1
                      obtain rfl := Option.some.inj H
                      have hnb40 := NB311_319.out
                      have hnc40 := NB319_311.out
                      have hcz41_0 : wr.cell? ⟨gb311, 0, none⟩ = some (.slice Ao11 t304.length co11) := (blk_cell BK311.out 0).trans rfl
                      have hcz41_1 : wr.cell? ⟨gb311, 1, none⟩ = some (.slice Ao13 t307.length co13) := (blk_cell BK311.out 1).trans rfl
                      have hfz41_0 := blk_frozen BK311.out 0
                      have hfz41_1 := blk_frozen BK311.out 1
                      have p320 : 0 ≤ (x8_2 : Int) := of_decide_eq_true (by first | (with_reducible assumption) | assumption)
                      have q320 : x8_2 < (t304.length : Int) := of_decide_eq_true (by first | (with_reducible assumption) | assumption)
                      obtain ⟨ad320, A320_0, c320_0, e320, hx320_0, hl320_0, hi320_0⟩ := at_L1 (Kd.R_reads' HO_312000.out).2.2 x8_2 p320 q320
                      cases e320
                      obtain ⟨ce320, hce320, hMe320, hcc320⟩ := Kd.R_get HO_312000.out [] x8_2 p320 (by first | exact q320 | exact of_decide_eq_true (by first | (with_reducible assumption) | assumption) | (have e_ := (Kd.R_reads' HO_312000.out).1; omega))
                      obtain ⟨ve320_0, rfl, ge320_0⟩ := hMe320
                      have hv320_0 := hcc320 0 _ rfl
                      rw [Nat.add_zero, show ((Kd.slice 3 (Kd.int .i64))).sz = 1 from rfl, Nat.mul_one] at hv320_0
                      replace hv320_0 := Option.some.inj (hv320_0.symm.trans hx320_0)
                      rw [hv320_0] at ge320_0
                      have HL320_0 := Aside0.mk (show Kd.R (Kd.int .i64) 3 _ _ _ _ (rd_L1 t304 x8_2) from ge320_0)
                      clear hv320_0 ge320_0
                      clear hcc320 hce320
                      have HR320_0 := Aside0.mk hi320_0
                      have HC320_0 := Aside0.mk hl320_0
                      clear hi320_0 hl320_0
                      replace p320 := eq_true p320
                      replace q320 := eq_true q320
                      have hcz42_0 : wr.cell? ⟨gb319, 0, none⟩ = some (.slice Ao16 t312.length co16) := (blk_cell BK319.out 0).trans rfl
                      have hcz42_1 : wr.cell? ⟨gb319, 1, none⟩ = some (.slice Ao19 t315.length co19) := (blk_cell BK319.out 1).trans rfl
                      have hfz42_0 := blk_frozen BK319.out 0
                      have hfz42_1 := blk_frozen BK319.out 1
                      have p321 : 0 ≤ (x8_2 : Int) := of_decide_eq_true (by first | (with_reducible assumption) | assumption)
                      have q321 : x8_2 < (t312.length : Int) := of_decide_eq_true (by first | (with_reducible assumption) | assumption)
                      obtain ⟨ad321, A321_0, c321_0, e321, hx321_0, hl321_0, hi321_0⟩ := at_L1 (Kd.R_reads' HO_320000.out).2.2 x8_2 p321 q321
                      cases e321
                      obtain ⟨ce321, hce321, hMe321, hcc321⟩ := Kd.R_get HO_320000.out [] x8_2 p321 (by first | exact q321 | exact of_decide_eq_true (by first | (with_reducible assumption) | assumption) | (have e_ := (Kd.R_reads' HO_320000.out).1; omega))
                      obtain ⟨ve321_0, rfl, ge321_0⟩ := hMe321
                      have hv321_0 := hcc321 0 _ rfl
                      rw [Nat.add_zero, show ((Kd.slice 3 (Kd.int .i64))).sz = 1 from rfl, Nat.mul_one] at hv321_0
                      replace hv321_0 := Option.some.inj (hv321_0.symm.trans hx321_0)
                      rw [hv321_0] at ge321_0
                      have HL321_0 := Aside0.mk (show Kd.R (Kd.int .i64) 3 _ _ _ _ (rd_L1 t312 x8_2) from ge321_0)
                      clear hv321_0 ge321_0
                      clear hcc321 hce321
                      have HR321_0 := Aside0.mk hi321_0
                      have HC321_0 := Aside0.mk hl321_0
                      clear hi321_0 hl321_0
                      replace p321 := eq_true p321
                      replace q321 := eq_true q321
                      go_wp2_with (first | (go_at_call 21; (with_reducible refine (laws_sameInts.calls k2 _ _ (rd_L1 t304 x8_2) _ _ (rd_L1 t312 x8_2) false _ ?side1 ?side2 ?side3 ?side4 A35.out).mono ?_); (case side1 => repeat (first | exact (by repeat (first | (with_reducible exact HR320_0.out) | (with_reducible refine Kd.C_alloc ?_ _) | (with_reducible refine Kd.C_drewN ?_ _) | (with_reducible refine Kd.C_drew ?_) | exact HR320_0.out)) | (with_reducible refine Kd.C_alloc ?_ _) | (with_reducible refine Kd.C_drewN ?_ _) | (with_reducible refine Kd.C_drew ?_))); (case side2 => exact HC320_0.out); (case side3 => repeat (first | exact (by repeat (first | (with_reducible exact HR321_0.out) | (with_reducible refine Kd.C_alloc ?_ _) | (with_reducible refine Kd.C_drewN ?_ _) | (with_reducible refine Kd.C_drew ?_) | exact HR321_0.out)) | (with_reducible refine Kd.C_alloc ?_ _) | (with_reducible refine Kd.C_drewN ?_ _) | (with_reducible refine Kd.C_drew ?_))); (case side4 => exact HC321_0.out); rintro e w' ⟨rfl, ⟨nd, rfl⟩⟩; (try first | exact ⟨rfl, _, World.drewN_drewN _ _ _⟩ | exact ⟨rfl, _, Eq.trans (World.drewN_drewN _ _ _) (congrArg (World.drewN _) (Nat.add_assoc _ _ _))⟩)))
                      repeat (go_quiet (first | (go_at_call 21; (with_reducible refine (laws_sameInts.calls k2 _ _ (rd_L1 t304 x8_2) _ _ (rd_L1 t312 x8_2) false _ ?side1 ?side2 ?side3 ?side4 A35.out).mono ?_); (case side1 => repeat (first | exact (by repeat (first | (with_reducible exact HR320_0.out) | (with_reducible refine Kd.C_alloc ?_ _) | (with_reducible refine Kd.C_drewN ?_ _) | (with_reducible refine Kd.C_drew ?_) | exact HR320_0.out)) | (with_reducible refine Kd.C_alloc ?_ _) | (with_reducible refine Kd.C_drewN ?_ _) | (with_reducible refine Kd.C_drew ?_))); (case side2 => exact HC320_0.out); (case side3 => repeat (first | exact (by repeat (first | (with_reducible exact HR321_0.out) | (with_reducible refine Kd.C_alloc ?_ _) | (with_reducible refine Kd.C_drewN ?_ _) | (with_reducible refine Kd.C_drew ?_) | exact HR321_0.out)) | (with_reducible refine Kd.C_alloc ?_ _) | (with_reducible refine Kd.C_drewN ?_ _) | (with_reducible refine Kd.C_drew ?_))); (case side4 => exact HC321_0.out); rintro e w' ⟨rfl, ⟨nd, rfl⟩⟩; (try first | exact ⟨rfl, _, World.drewN_drewN _ _ _⟩ | exact ⟨rfl, _, Eq.trans (World.drewN_drewN _ _ _) (congrArg (World.drewN _) (Nat.add_assoc _ _ _))⟩))); try go_wp2_with (first | (go_at_call 21; (with_reducible refine (laws_sameInts.calls k2 _ _ (rd_L1 t304 x8_2) _ _ (rd_L1 t312 x8_2) false _ ?side1 ?side2 ?side3 ?side4 A35.out).mono ?_); (case side1 => repeat (first | exact (by repeat (first | (with_reducible exact HR320_0.out) | (with_reducible refine Kd.C_alloc ?_ _) | (with_reducible refine Kd.C_drewN ?_ _) | (with_reducible refine Kd.C_drew ?_) | exact HR320_0.out)) | (with_reducible refine Kd.C_alloc ?_ _) | (with_reducible refine Kd.C_drewN ?_ _) | (with_reducible refine Kd.C_drew ?_))); (case side2 => exact HC320_0.out); (case side3 => repeat (first | exact (by repeat (first | (with_reducible exact HR321_0.out) | (with_reducible refine Kd.C_alloc ?_ _) | (with_reducible refine Kd.C_drewN ?_ _) | (with_reducible refine Kd.C_drew ?_) | exact HR321_0.out)) | (with_reducible refine Kd.C_alloc ?_ _) | (with_reducible refine Kd.C_drewN ?_ _) | (with_reducible refine Kd.C_drew ?_))); (case side4 => exact HC321_0.out); rintro e w' ⟨rfl, ⟨nd, rfl⟩⟩; (try first | exact ⟨rfl, _, World.drewN_drewN _ _ _⟩ | exact ⟨rfl, _, Eq.trans (World.drewN_drewN _ _ _) (congrArg (World.drewN _) (Nat.add_assoc _ _ _))⟩))))
                      go_ret
                      exact ⟨by first | rfl | (simp [errW_none, errW_some] <;> rfl) | (simp [*, errW_none, errW_some] <;> rfl), by repeat (first | (with_reducible first | exact HB.out | apply below_alloc | apply pw_below_drewN | apply below_drew1 | refine below_set ?_ GE311.out | refine below_set ?_ GE319.out) | exact HB.out)⟩
                  · rw [if_neg c34] at H
                    exact absurd H (by simp)
                · rw [if_neg c33] at H
                  exact absurd H (by simp)
              · rw [if_neg c32] at H
                have c32b0 : decide (x8_2 < (t304.length : Int)) = false := decide_eq_false c32
                clear c32
                have H' := Aside0.mk H
                clear H
                have hnb43 := NB311_319.out
                have hnc43 := NB319_311.out
                have hcz44_0 : wr.cell? ⟨gb311, 0, none⟩ = some (.slice Ao11 t304.length co11) := (blk_cell BK311.out 0).trans rfl
                have hcz44_1 : wr.cell? ⟨gb311, 1, none⟩ = some (.slice Ao13 t307.length co13) := (blk_cell BK311.out 1).trans rfl
                have hfz44_0 := blk_frozen BK311.out 0
                have hfz44_1 := blk_frozen BK311.out 1
                go_wp2
                repeat (go_quiet (fail); try go_wp2)
                go_loopg [9] k2 (fun kq v9 w' => ∃ (x9_3 : Int), v9 = .int .i64 x9_3 ∧ Aside0 (laws_FnPictureOf.l1 kq t310 x9_3 t304 t307 t312 t315 = some r) ∧ Aside0 (kq ≤ k2) ∧ Aside0 (Kd.R (Kd.slice 3 (Kd.int .i64)) 36 w' w.heap.size (fun k_ => some k_ ≠ ((.slice Ao13 t307.length co13) : Value).ownBlock ∧ some k_ ≠ ((.slice Ao16 t312.length co16) : Value).ownBlock ∧ some k_ ≠ ((.slice Ao19 t315.length co19) : Value).ownBlock) (.slice Ao11 t304.length co11) t304) ∧ Aside0 (Kd.R (Kd.slice 3 (Kd.int .i64)) 36 w' w.heap.size (fun k_ => some k_ ≠ ((.slice Ao11 t304.length co11) : Value).ownBlock ∧ some k_ ≠ ((.slice Ao16 t312.length co16) : Value).ownBlock ∧ some k_ ≠ ((.slice Ao19 t315.length co19) : Value).ownBlock) (.slice Ao13 t307.length co13) t307) ∧ Aside0 (Kd.R (Kd.slice 3 (Kd.int .i64)) 36 w' w.heap.size (fun k_ => some k_ ≠ ((.slice Ao11 t304.length co11) : Value).ownBlock ∧ some k_ ≠ ((.slice Ao13 t307.length co13) : Value).ownBlock ∧ some k_ ≠ ((.slice Ao19 t315.length co19) : Value).ownBlock) (.slice Ao16 t312.length co16) t312) ∧ Aside0 (Kd.R (Kd.slice 3 (Kd.int .i64)) 36 w' w.heap.size (fun k_ => some k_ ≠ ((.slice Ao11 t304.length co11) : Value).ownBlock ∧ some k_ ≠ ((.slice Ao13 t307.length co13) : Value).ownBlock ∧ some k_ ≠ ((.slice Ao16 t312.length co16) : Value).ownBlock) (.slice Ao19 t315.length co19) t315) ∧ Aside0 (w'.heap[gb311]? = some (.cells #[(.slice Ao11 t304.length co11), (.slice Ao13 t307.length co13)] 25 (0, 0))) ∧ Aside0 (w'.heap[gb319]? = some (.cells #[(.slice Ao16 t312.length co16), (.slice Ao19 t315.length co19)] 25 (0, 0))) ∧ Aside0 (Below w.heap.size w w'))
                case atStart => exact ⟨(0), (by first | rfl | (simp; done) | (simp [*]; done)), H', ⟨Nat.le_refl _⟩, ⟨by (with_reducible repeat (first | apply Kd.R_alloc | apply Kd.R_drewN | apply Kd.R_drew)); exact HO_312000.out⟩, ⟨by (with_reducible repeat (first | apply Kd.R_alloc | apply Kd.R_drewN | apply Kd.R_drew)); exact HO_312001.out⟩, ⟨by (with_reducible repeat (first | apply Kd.R_alloc | apply Kd.R_drewN | apply Kd.R_drew)); exact HO_320000.out⟩, ⟨by (with_reducible repeat (first | apply Kd.R_alloc | apply Kd.R_drewN | apply Kd.R_drew)); exact HO_320001.out⟩, ⟨by (with_reducible repeat (first | refine blk_drewN ?_ _ | refine blk_drew ?_ | refine blk_alloc ?_ _)); exact BK311.out⟩, ⟨by (with_reducible repeat (first | refine blk_drewN ?_ _ | refine blk_drew ?_ | refine blk_alloc ?_ _)); exact BK319.out⟩, ⟨by repeat (first | (with_reducible first | exact HB.out | apply below_alloc | apply pw_below_drewN | apply below_drew1 | refine below_set ?_ GE311.out | refine below_set ?_ GE319.out) | exact HB.out)⟩⟩
                case round =>
                  clear H'
                  try clear c1
                  try clear c2
                  try clear c2b0
                  try clear c2b1
                  try clear p2
                  try clear c3
                  try clear p3
                  try clear q3
                  try clear hx3
                  try clear c4
                  try clear p6
                  try clear c7
                  try clear c17
                  try clear c20
                  try clear c20b0
                  try clear c20b1
                  try clear c20b2
                  try clear c21
                  try clear c21b0
                  try clear c21b1
                  try clear c21b2
                  try clear c22
                  try clear c25
                  try clear c28
                  try clear c31
                  try clear c32
                  try clear c32b0
                  try clear p32
                  try clear q32
                  try clear hx32
                  try clear c33
                  try clear c33b0
                  try clear c34
                  try clear c34b0
                  try clear c36
                  try clear c37
                  try clear c40
                  try clear c43
                  try clear hcz12_0
                  try clear hcz12_1
                  try clear hcz18_0
                  try clear hcz18_1
                  try clear hcz23_0
                  try clear hcz23_1
                  try clear hcz24_0
                  try clear hcz24_1
                  try clear hcz26_0
                  try clear hcz26_1
                  try clear hcz27_0
                  try clear hcz27_1
                  try clear hcz29_0
                  try clear hcz29_1
                  try clear hcz30_0
                  try clear hcz30_1
                  try clear hcz38_0
                  try clear hcz38_1
                  try clear hcz39_0
                  try clear hcz39_1
                  try clear hcz41_0
                  try clear hcz41_1
                  try clear hcz42_0
                  try clear hcz42_1
                  try clear hcz44_0
                  try clear hcz44_1
                  try clear hfz12_0
                  try clear hfz12_1
                  try clear hfz18_0
                  try clear hfz18_1
                  try clear hfz23_0
                  try clear hfz23_1
                  try clear hfz24_0
                  try clear hfz24_1
                  try clear hfz26_0
                  try clear hfz26_1
                  try clear hfz27_0
                  try clear hfz27_1
                  try clear hfz29_0
                  try clear hfz29_1
                  try clear hfz30_0
                  try clear hfz30_1
                  try clear hfz38_0
                  try clear hfz38_1
                  try clear hfz39_0
                  try clear hfz39_1
                  try clear hfz41_0
                  try clear hfz41_1
                  try clear hfz42_0
                  try clear hfz42_1
                  try clear hfz44_0
                  try clear hfz44_1
                  try clear hx320_0
                  try clear hx321_0
                  try clear p2
                  try clear p320
                  try clear p321
                  try clear q320
                  try clear q321
                  obtain ⟨x9_3, rfl, HA, HK3, HO_312000, HO_312001, HO_320000, HO_320001, BK311, BK319, HB⟩ := hrel
                  cases gk with
                  | zero => exact absurd HA.out (by simp [laws_FnPictureOf.l1])
                  | succ k3 =>
                    have H := HA.out
                    clear HA
                    simp only [laws_FnPictureOf.l1] at H
                    by_cases c45 : x9_3 < (t307.length : Int)
                    · rw [if_pos c45] at H
                      have c45b0 : decide (x9_3 < (t307.length : Int)) = true := decide_eq_true c45
                      clear c45
                      by_cases c46 : 0 ≤ x9_3
                      · rw [if_pos c46] at H
                        have c46b0 : decide (0 ≤ x9_3) = true := decide_eq_true c46
                        clear c46
                        by_cases c47 : x9_3 < (t315.length : Int)
                        · rw [if_pos c47] at H
                          have c47b0 : decide (x9_3 < (t315.length : Int)) = true := decide_eq_true c47
                          clear c47
                          replace H := Option.bind_eq_some_iff.mp H
                          obtain ⟨t325, A480, H⟩ := H
                          replace H : (if t325 = true then (laws_FnPictureOf.l1 k3 t310 (wrap64 (x9_3 + 1)) t304 t307 t312 t315) else (some false)) = some r := H
                          have A48 := Aside0.mk A480
                          clear A480
                          by_cases c49 : t325 = true
                          · subst c49
                            have H1 : (laws_FnPictureOf.l1 k3 t310 (wrap64 (x9_3 + 1)) t304 t307 t312 t315) = some r := by rw [if_pos rfl] at H; exact H
                            clear H
                            have H := H1
                            clear H1
                            have H' := Aside0.mk H
                            clear H
                            have hnb50 := NB311_319.out
                            have hnc50 := NB319_311.out
                            have hcz51_0 : wr.cell? ⟨gb311, 0, none⟩ = some (.slice Ao11 t304.length co11) := (blk_cell BK311.out 0).trans rfl
                            have hcz51_1 : wr.cell? ⟨gb311, 1, none⟩ = some (.slice Ao13 t307.length co13) := (blk_cell BK311.out 1).trans rfl
                            have hfz51_0 := blk_frozen BK311.out 0
                            have hfz51_1 := blk_frozen BK311.out 1
                            have p323 : 0 ≤ (x9_3 : Int) := of_decide_eq_true (by first | (with_reducible assumption) | assumption)
                            have q323 : x9_3 < (t307.length : Int) := of_decide_eq_true (by first | (with_reducible assumption) | assumption)
                            obtain ⟨ad323, A323_0, c323_0, e323, hx323_0, hl323_0, hi323_0⟩ := at_L1 (Kd.R_reads' HO_312001.out).2.2 x9_3 p323 q323
                            cases e323
                            obtain ⟨ce323, hce323, hMe323, hcc323⟩ := Kd.R_get HO_312001.out [] x9_3 p323 (by first | exact q323 | exact of_decide_eq_true (by first | (with_reducible assumption) | assumption) | (have e_ := (Kd.R_reads' HO_312001.out).1; omega))
                            obtain ⟨ve323_0, rfl, ge323_0⟩ := hMe323
                            have hv323_0 := hcc323 0 _ rfl
                            rw [Nat.add_zero, show ((Kd.slice 3 (Kd.int .i64))).sz = 1 from rfl, Nat.mul_one] at hv323_0
                            replace hv323_0 := Option.some.inj (hv323_0.symm.trans hx323_0)
                            rw [hv323_0] at ge323_0
                            have HL323_0 := Aside0.mk (show Kd.R (Kd.int .i64) 3 _ _ _ _ (rd_L1 t307 x9_3) from ge323_0)
                            clear hv323_0 ge323_0
                            clear hcc323 hce323
                            have HR323_0 := Aside0.mk hi323_0
                            have HC323_0 := Aside0.mk hl323_0
                            clear hi323_0 hl323_0
                            replace p323 := eq_true p323
                            replace q323 := eq_true q323
                            have hcz52_0 : wr.cell? ⟨gb319, 0, none⟩ = some (.slice Ao16 t312.length co16) := (blk_cell BK319.out 0).trans rfl
                            have hcz52_1 : wr.cell? ⟨gb319, 1, none⟩ = some (.slice Ao19 t315.length co19) := (blk_cell BK319.out 1).trans rfl
                            have hfz52_0 := blk_frozen BK319.out 0
                            have hfz52_1 := blk_frozen BK319.out 1
                            have p324 : 0 ≤ (x9_3 : Int) := of_decide_eq_true (by first | (with_reducible assumption) | assumption)
                            have q324 : x9_3 < (t315.length : Int) := of_decide_eq_true (by first | (with_reducible assumption) | assumption)
                            obtain ⟨ad324, A324_0, c324_0, e324, hx324_0, hl324_0, hi324_0⟩ := at_L1 (Kd.R_reads' HO_320001.out).2.2 x9_3 p324 q324
                            cases e324
                            obtain ⟨ce324, hce324, hMe324, hcc324⟩ := Kd.R_get HO_320001.out [] x9_3 p324 (by first | exact q324 | exact of_decide_eq_true (by first | (with_reducible assumption) | assumption) | (have e_ := (Kd.R_reads' HO_320001.out).1; omega))
                            obtain ⟨ve324_0, rfl, ge324_0⟩ := hMe324
                            have hv324_0 := hcc324 0 _ rfl
                            rw [Nat.add_zero, show ((Kd.slice 3 (Kd.int .i64))).sz = 1 from rfl, Nat.mul_one] at hv324_0
                            replace hv324_0 := Option.some.inj (hv324_0.symm.trans hx324_0)
                            rw [hv324_0] at ge324_0
                            have HL324_0 := Aside0.mk (show Kd.R (Kd.int .i64) 3 _ _ _ _ (rd_L1 t315 x9_3) from ge324_0)
                            clear hv324_0 ge324_0
                            clear hcc324 hce324
                            have HR324_0 := Aside0.mk hi324_0
                            have HC324_0 := Aside0.mk hl324_0
                            clear hi324_0 hl324_0
                            replace p324 := eq_true p324
                            replace q324 := eq_true q324
                            go_wp2_with (first | (go_at_call 21; (with_reducible refine (laws_sameInts.calls k3 _ _ (rd_L1 t307 x9_3) _ _ (rd_L1 t315 x9_3) true _ ?side1 ?side2 ?side3 ?side4 A48.out).mono ?_); (case side1 => repeat (first | exact (by repeat (first | (with_reducible exact HR323_0.out) | (with_reducible refine Kd.C_alloc ?_ _) | (with_reducible refine Kd.C_drewN ?_ _) | (with_reducible refine Kd.C_drew ?_) | exact HR323_0.out)) | (with_reducible refine Kd.C_alloc ?_ _) | (with_reducible refine Kd.C_drewN ?_ _) | (with_reducible refine Kd.C_drew ?_))); (case side2 => exact HC323_0.out); (case side3 => repeat (first | exact (by repeat (first | (with_reducible exact HR324_0.out) | (with_reducible refine Kd.C_alloc ?_ _) | (with_reducible refine Kd.C_drewN ?_ _) | (with_reducible refine Kd.C_drew ?_) | exact HR324_0.out)) | (with_reducible refine Kd.C_alloc ?_ _) | (with_reducible refine Kd.C_drewN ?_ _) | (with_reducible refine Kd.C_drew ?_))); (case side4 => exact HC324_0.out); rintro e w' ⟨rfl, ⟨nd, rfl⟩⟩; (try first | exact ⟨rfl, _, World.drewN_drewN _ _ _⟩ | exact ⟨rfl, _, Eq.trans (World.drewN_drewN _ _ _) (congrArg (World.drewN _) (Nat.add_assoc _ _ _))⟩)))
                            repeat (go_quiet (first | (go_at_call 21; (with_reducible refine (laws_sameInts.calls k3 _ _ (rd_L1 t307 x9_3) _ _ (rd_L1 t315 x9_3) true _ ?side1 ?side2 ?side3 ?side4 A48.out).mono ?_); (case side1 => repeat (first | exact (by repeat (first | (with_reducible exact HR323_0.out) | (with_reducible refine Kd.C_alloc ?_ _) | (with_reducible refine Kd.C_drewN ?_ _) | (with_reducible refine Kd.C_drew ?_) | exact HR323_0.out)) | (with_reducible refine Kd.C_alloc ?_ _) | (with_reducible refine Kd.C_drewN ?_ _) | (with_reducible refine Kd.C_drew ?_))); (case side2 => exact HC323_0.out); (case side3 => repeat (first | exact (by repeat (first | (with_reducible exact HR324_0.out) | (with_reducible refine Kd.C_alloc ?_ _) | (with_reducible refine Kd.C_drewN ?_ _) | (with_reducible refine Kd.C_drew ?_) | exact HR324_0.out)) | (with_reducible refine Kd.C_alloc ?_ _) | (with_reducible refine Kd.C_drewN ?_ _) | (with_reducible refine Kd.C_drew ?_))); (case side4 => exact HC324_0.out); rintro e w' ⟨rfl, ⟨nd, rfl⟩⟩; (try first | exact ⟨rfl, _, World.drewN_drewN _ _ _⟩ | exact ⟨rfl, _, Eq.trans (World.drewN_drewN _ _ _) (congrArg (World.drewN _) (Nat.add_assoc _ _ _))⟩))); try go_wp2_with (first | (go_at_call 21; (with_reducible refine (laws_sameInts.calls k3 _ _ (rd_L1 t307 x9_3) _ _ (rd_L1 t315 x9_3) true _ ?side1 ?side2 ?side3 ?side4 A48.out).mono ?_); (case side1 => repeat (first | exact (by repeat (first | (with_reducible exact HR323_0.out) | (with_reducible refine Kd.C_alloc ?_ _) | (with_reducible refine Kd.C_drewN ?_ _) | (with_reducible refine Kd.C_drew ?_) | exact HR323_0.out)) | (with_reducible refine Kd.C_alloc ?_ _) | (with_reducible refine Kd.C_drewN ?_ _) | (with_reducible refine Kd.C_drew ?_))); (case side2 => exact HC323_0.out); (case side3 => repeat (first | exact (by repeat (first | (with_reducible exact HR324_0.out) | (with_reducible refine Kd.C_alloc ?_ _) | (with_reducible refine Kd.C_drewN ?_ _) | (with_reducible refine Kd.C_drew ?_) | exact HR324_0.out)) | (with_reducible refine Kd.C_alloc ?_ _) | (with_reducible refine Kd.C_drewN ?_ _) | (with_reducible refine Kd.C_drew ?_))); (case side4 => exact HC324_0.out); rintro e w' ⟨rfl, ⟨nd, rfl⟩⟩; (try first | exact ⟨rfl, _, World.drewN_drewN _ _ _⟩ | exact ⟨rfl, _, Eq.trans (World.drewN_drewN _ _ _) (congrArg (World.drewN _) (Nat.add_assoc _ _ _))⟩))))
                            go_roundg k3
                            case measure => have := HJ5.out; have := HK2.out; have := HK3.out; omega
                            case rel => exact ⟨(wrap64 (x9_3 + 1)), (by first | rfl | (simp; done) | (simp [*]; done)), H', ⟨by have := HJ5.out; have := HK2.out; have := HK3.out; omega⟩, ⟨by (with_reducible repeat (first | apply Kd.R_alloc | apply Kd.R_drewN | apply Kd.R_drew)); exact HO_312000.out⟩, ⟨by (with_reducible repeat (first | apply Kd.R_alloc | apply Kd.R_drewN | apply Kd.R_drew)); exact HO_312001.out⟩, ⟨by (with_reducible repeat (first | apply Kd.R_alloc | apply Kd.R_drewN | apply Kd.R_drew)); exact HO_320000.out⟩, ⟨by (with_reducible repeat (first | apply Kd.R_alloc | apply Kd.R_drewN | apply Kd.R_drew)); exact HO_320001.out⟩, ⟨by (with_reducible repeat (first | refine blk_drewN ?_ _ | refine blk_drew ?_ | refine blk_alloc ?_ _)); exact BK311.out⟩, ⟨by (with_reducible repeat (first | refine blk_drewN ?_ _ | refine blk_drew ?_ | refine blk_alloc ?_ _)); exact BK319.out⟩, ⟨by repeat (first | (with_reducible first | exact HB.out | apply below_alloc | apply pw_below_drewN | apply below_drew1 | refine below_set ?_ GE311.out | refine below_set ?_ GE319.out) | exact HB.out)⟩⟩
                          · replace c49 := Bool.eq_false_iff.mpr c49
                            subst c49
                            have H1 : (some false) = some r := by rw [if_neg (show ¬ (false = true) by decide)] at H; exact H
                            clear H
                            have H := H1
                            clear H1
                            obtain rfl := Option.some.inj H
                            have hnb53 := NB311_319.out
                            have hnc53 := NB319_311.out
                            have hcz54_0 : wr.cell? ⟨gb311, 0, none⟩ = some (.slice Ao11 t304.length co11) := (blk_cell BK311.out 0).trans rfl
                            have hcz54_1 : wr.cell? ⟨gb311, 1, none⟩ = some (.slice Ao13 t307.length co13) := (blk_cell BK311.out 1).trans rfl
                            have hfz54_0 := blk_frozen BK311.out 0
                            have hfz54_1 := blk_frozen BK311.out 1
                            have p323 : 0 ≤ (x9_3 : Int) := of_decide_eq_true (by first | (with_reducible assumption) | assumption)
                            have q323 : x9_3 < (t307.length : Int) := of_decide_eq_true (by first | (with_reducible assumption) | assumption)
                            obtain ⟨ad323, A323_0, c323_0, e323, hx323_0, hl323_0, hi323_0⟩ := at_L1 (Kd.R_reads' HO_312001.out).2.2 x9_3 p323 q323
                            cases e323
                            obtain ⟨ce323, hce323, hMe323, hcc323⟩ := Kd.R_get HO_312001.out [] x9_3 p323 (by first | exact q323 | exact of_decide_eq_true (by first | (with_reducible assumption) | assumption) | (have e_ := (Kd.R_reads' HO_312001.out).1; omega))
                            obtain ⟨ve323_0, rfl, ge323_0⟩ := hMe323
                            have hv323_0 := hcc323 0 _ rfl
                            rw [Nat.add_zero, show ((Kd.slice 3 (Kd.int .i64))).sz = 1 from rfl, Nat.mul_one] at hv323_0
                            replace hv323_0 := Option.some.inj (hv323_0.symm.trans hx323_0)
                            rw [hv323_0] at ge323_0
                            have HL323_0 := Aside0.mk (show Kd.R (Kd.int .i64) 3 _ _ _ _ (rd_L1 t307 x9_3) from ge323_0)
                            clear hv323_0 ge323_0
                            clear hcc323 hce323
                            have HR323_0 := Aside0.mk hi323_0
                            have HC323_0 := Aside0.mk hl323_0
                            clear hi323_0 hl323_0
                            replace p323 := eq_true p323
                            replace q323 := eq_true q323
                            have hcz55_0 : wr.cell? ⟨gb319, 0, none⟩ = some (.slice Ao16 t312.length co16) := (blk_cell BK319.out 0).trans rfl
                            have hcz55_1 : wr.cell? ⟨gb319, 1, none⟩ = some (.slice Ao19 t315.length co19) := (blk_cell BK319.out 1).trans rfl
                            have hfz55_0 := blk_frozen BK319.out 0
                            have hfz55_1 := blk_frozen BK319.out 1
                            have p324 : 0 ≤ (x9_3 : Int) := of_decide_eq_true (by first | (with_reducible assumption) | assumption)
                            have q324 : x9_3 < (t315.length : Int) := of_decide_eq_true (by first | (with_reducible assumption) | assumption)
                            obtain ⟨ad324, A324_0, c324_0, e324, hx324_0, hl324_0, hi324_0⟩ := at_L1 (Kd.R_reads' HO_320001.out).2.2 x9_3 p324 q324
                            cases e324
                            obtain ⟨ce324, hce324, hMe324, hcc324⟩ := Kd.R_get HO_320001.out [] x9_3 p324 (by first | exact q324 | exact of_decide_eq_true (by first | (with_reducible assumption) | assumption) | (have e_ := (Kd.R_reads' HO_320001.out).1; omega))
                            obtain ⟨ve324_0, rfl, ge324_0⟩ := hMe324
                            have hv324_0 := hcc324 0 _ rfl
                            rw [Nat.add_zero, show ((Kd.slice 3 (Kd.int .i64))).sz = 1 from rfl, Nat.mul_one] at hv324_0
                            replace hv324_0 := Option.some.inj (hv324_0.symm.trans hx324_0)
                            rw [hv324_0] at ge324_0
                            have HL324_0 := Aside0.mk (show Kd.R (Kd.int .i64) 3 _ _ _ _ (rd_L1 t315 x9_3) from ge324_0)
                            clear hv324_0 ge324_0
                            clear hcc324 hce324
                            have HR324_0 := Aside0.mk hi324_0
                            have HC324_0 := Aside0.mk hl324_0
                            clear hi324_0 hl324_0
                            replace p324 := eq_true p324
                            replace q324 := eq_true q324
                            go_wp2_with (first | (go_at_call 21; (with_reducible refine (laws_sameInts.calls k3 _ _ (rd_L1 t307 x9_3) _ _ (rd_L1 t315 x9_3) false _ ?side1 ?side2 ?side3 ?side4 A48.out).mono ?_); (case side1 => repeat (first | exact (by repeat (first | (with_reducible exact HR323_0.out) | (with_reducible refine Kd.C_alloc ?_ _) | (with_reducible refine Kd.C_drewN ?_ _) | (with_reducible refine Kd.C_drew ?_) | exact HR323_0.out)) | (with_reducible refine Kd.C_alloc ?_ _) | (with_reducible refine Kd.C_drewN ?_ _) | (with_reducible refine Kd.C_drew ?_))); (case side2 => exact HC323_0.out); (case side3 => repeat (first | exact (by repeat (first | (with_reducible exact HR324_0.out) | (with_reducible refine Kd.C_alloc ?_ _) | (with_reducible refine Kd.C_drewN ?_ _) | (with_reducible refine Kd.C_drew ?_) | exact HR324_0.out)) | (with_reducible refine Kd.C_alloc ?_ _) | (with_reducible refine Kd.C_drewN ?_ _) | (with_reducible refine Kd.C_drew ?_))); (case side4 => exact HC324_0.out); rintro e w' ⟨rfl, ⟨nd, rfl⟩⟩; (try first | exact ⟨rfl, _, World.drewN_drewN _ _ _⟩ | exact ⟨rfl, _, Eq.trans (World.drewN_drewN _ _ _) (congrArg (World.drewN _) (Nat.add_assoc _ _ _))⟩)))
                            repeat (go_quiet (first | (go_at_call 21; (with_reducible refine (laws_sameInts.calls k3 _ _ (rd_L1 t307 x9_3) _ _ (rd_L1 t315 x9_3) false _ ?side1 ?side2 ?side3 ?side4 A48.out).mono ?_); (case side1 => repeat (first | exact (by repeat (first | (with_reducible exact HR323_0.out) | (with_reducible refine Kd.C_alloc ?_ _) | (with_reducible refine Kd.C_drewN ?_ _) | (with_reducible refine Kd.C_drew ?_) | exact HR323_0.out)) | (with_reducible refine Kd.C_alloc ?_ _) | (with_reducible refine Kd.C_drewN ?_ _) | (with_reducible refine Kd.C_drew ?_))); (case side2 => exact HC323_0.out); (case side3 => repeat (first | exact (by repeat (first | (with_reducible exact HR324_0.out) | (with_reducible refine Kd.C_alloc ?_ _) | (with_reducible refine Kd.C_drewN ?_ _) | (with_reducible refine Kd.C_drew ?_) | exact HR324_0.out)) | (with_reducible refine Kd.C_alloc ?_ _) | (with_reducible refine Kd.C_drewN ?_ _) | (with_reducible refine Kd.C_drew ?_))); (case side4 => exact HC324_0.out); rintro e w' ⟨rfl, ⟨nd, rfl⟩⟩; (try first | exact ⟨rfl, _, World.drewN_drewN _ _ _⟩ | exact ⟨rfl, _, Eq.trans (World.drewN_drewN _ _ _) (congrArg (World.drewN _) (Nat.add_assoc _ _ _))⟩))); try go_wp2_with (first | (go_at_call 21; (with_reducible refine (laws_sameInts.calls k3 _ _ (rd_L1 t307 x9_3) _ _ (rd_L1 t315 x9_3) false _ ?side1 ?side2 ?side3 ?side4 A48.out).mono ?_); (case side1 => repeat (first | exact (by repeat (first | (with_reducible exact HR323_0.out) | (with_reducible refine Kd.C_alloc ?_ _) | (with_reducible refine Kd.C_drewN ?_ _) | (with_reducible refine Kd.C_drew ?_) | exact HR323_0.out)) | (with_reducible refine Kd.C_alloc ?_ _) | (with_reducible refine Kd.C_drewN ?_ _) | (with_reducible refine Kd.C_drew ?_))); (case side2 => exact HC323_0.out); (case side3 => repeat (first | exact (by repeat (first | (with_reducible exact HR324_0.out) | (with_reducible refine Kd.C_alloc ?_ _) | (with_reducible refine Kd.C_drewN ?_ _) | (with_reducible refine Kd.C_drew ?_) | exact HR324_0.out)) | (with_reducible refine Kd.C_alloc ?_ _) | (with_reducible refine Kd.C_drewN ?_ _) | (with_reducible refine Kd.C_drew ?_))); (case side4 => exact HC324_0.out); rintro e w' ⟨rfl, ⟨nd, rfl⟩⟩; (try first | exact ⟨rfl, _, World.drewN_drewN _ _ _⟩ | exact ⟨rfl, _, Eq.trans (World.drewN_drewN _ _ _) (congrArg (World.drewN _) (Nat.add_assoc _ _ _))⟩))))
                            go_ret
                            exact ⟨by first | rfl | (simp [errW_none, errW_some] <;> rfl) | (simp [*, errW_none, errW_some] <;> rfl), by repeat (first | (with_reducible first | exact HB.out | apply below_alloc | apply pw_below_drewN | apply below_drew1 | refine below_set ?_ GE311.out | refine below_set ?_ GE319.out) | exact HB.out)⟩
                        · rw [if_neg c47] at H
                          exact absurd H (by simp)
                      · rw [if_neg c46] at H
                        exact absurd H (by simp)
                    · rw [if_neg c45] at H
                      have c45b0 : decide (x9_3 < (t307.length : Int)) = false := decide_eq_false c45
                      clear c45
                      by_cases c56 : t310 = true
                      · subst c56
                        have H1 : ((impl_PictureValid.f k3 t304 t307).bind fun t326 => (if t326 = true then ((impl_PictureCount.f k3 t304 t307 1).bind fun t327 => (some (t327 == 1))) else (some false))) = some r := by rw [if_pos rfl] at H; exact H
                        clear H
                        have H := H1
                        clear H1
                        replace H := Option.bind_eq_some_iff.mp H
                        obtain ⟨t326, A570, H⟩ := H
                        replace H : (if t326 = true then ((impl_PictureCount.f k3 t304 t307 1).bind fun t327 => (some (t327 == 1))) else (some false)) = some r := H
                        have A57 := Aside0.mk A570
                        clear A570
                        by_cases c58 : t326 = true
                        · subst c58
                          have H1 : ((impl_PictureCount.f k3 t304 t307 1).bind fun t327 => (some (t327 == 1))) = some r := by rw [if_pos rfl] at H; exact H
                          clear H
                          have H := H1
                          clear H1
                          replace H := Option.bind_eq_some_iff.mp H
                          obtain ⟨t327, A590, H⟩ := H
                          replace H : (some (t327 == 1)) = some r := H
                          have A59 := Aside0.mk A590
                          clear A590
                          obtain rfl := Option.some.inj H
                          have hnb60 := NB311_319.out
                          have hnc60 := NB319_311.out
                          have hcz61_0 : wr.cell? ⟨gb311, 0, none⟩ = some (.slice Ao11 t304.length co11) := (blk_cell BK311.out 0).trans rfl
                          have hcz61_1 : wr.cell? ⟨gb311, 1, none⟩ = some (.slice Ao13 t307.length co13) := (blk_cell BK311.out 1).trans rfl
                          have hfz61_0 := blk_frozen BK311.out 0
                          have hfz61_1 := blk_frozen BK311.out 1
                          go_wp2_with (first | (go_at_call 24; (with_reducible refine (impl_PictureValid.calls k3 _ _ t304 _ _ t307 true _ ?side1 ?side2 ?side3 ?side4 A57.out).mono ?_); (case side1 => repeat (first | exact (Kd.R_reads' HO_312000.out).2.2 | (with_reducible refine Kd.C_alloc ?_ _) | (with_reducible refine Kd.C_drewN ?_ _) | (with_reducible refine Kd.C_drew ?_))); (case side2 => exact (Kd.R_reads' HO_312000.out).2.1); (case side3 => repeat (first | exact (Kd.R_reads' HO_312001.out).2.2 | (with_reducible refine Kd.C_alloc ?_ _) | (with_reducible refine Kd.C_drewN ?_ _) | (with_reducible refine Kd.C_drew ?_))); (case side4 => exact (Kd.R_reads' HO_312001.out).2.1); rintro e w62 ⟨rfl, hb⟩; have n0_ := Aside0.mk (Kd.R_below (by (with_reducible repeat (first | apply Kd.R_alloc | apply Kd.R_drewN | apply Kd.R_drew)); exact HO_312000.out) hb); have n1_ := Aside0.mk (Kd.R_below (by (with_reducible repeat (first | apply Kd.R_alloc | apply Kd.R_drewN | apply Kd.R_drew)); exact HO_312001.out) hb); have n2_ := Aside0.mk (Kd.R_below (by (with_reducible repeat (first | apply Kd.R_alloc | apply Kd.R_drewN | apply Kd.R_drew)); exact HO_320000.out) hb); have n3_ := Aside0.mk (Kd.R_below (by (with_reducible repeat (first | apply Kd.R_alloc | apply Kd.R_drewN | apply Kd.R_drew)); exact HO_320001.out) hb); have n4_ := Aside0.mk (blk_below (g := gb311) (o := .cells #[.slice Ao11 t304.length co11, .slice Ao13 t307.length co13] 25 (0, 0)) (by (with_reducible repeat (first | refine blk_drewN ?_ _ | refine blk_drew ?_ | refine blk_alloc ?_ _)); exact BK311.out) hb); have n5_ := Aside0.mk (blk_below (g := gb319) (o := .cells #[.slice Ao16 t312.length co16, .slice Ao19 t315.length co19] 25 (0, 0)) (by (with_reducible repeat (first | refine blk_drewN ?_ _ | refine blk_drew ?_ | refine blk_alloc ?_ _)); exact BK319.out) hb); have n6_ := Aside0.mk (below_step (by repeat (first | (with_reducible first | exact HB.out | apply below_alloc | apply pw_below_drewN | apply below_drew1 | refine below_set ?_ GE311.out | refine below_set ?_ GE319.out) | exact HB.out)) hb); clear HO_312000; clear HO_312001; clear HO_320000; clear HO_320001; clear BK311; clear BK319; clear HB; have HO_312000 := n0_; have HO_312001 := n1_; have HO_320000 := n2_; have HO_320001 := n3_; have BK311 := n4_; have BK319 := n5_; have HB := n6_; clear n0_ n1_ n2_ n3_ n4_ n5_ n6_; (try clear hb); (try clear hb2); (try clear hk); (try clear hi); have hcz63_0 : w62.cell? ⟨gb311, 0, none⟩ = some (.slice Ao11 t304.length co11) := (blk_cell BK311.out 0).trans rfl; have hcz63_1 : w62.cell? ⟨gb311, 1, none⟩ = some (.slice Ao13 t307.length co13) := (blk_cell BK311.out 1).trans rfl; have hfz63_0 := blk_frozen BK311.out 0; have hfz63_1 := blk_frozen BK311.out 1) | (go_at_call 18; (with_reducible refine (impl_PictureCount.calls k3 _ _ t304 _ _ t307 1 t327 _ ?side1 ?side2 ?side3 ?side4 A59.out).mono ?_); (case side1 => repeat (first | exact (Kd.R_reads' HO_312000.out).2.2 | (with_reducible refine Kd.C_alloc ?_ _) | (with_reducible refine Kd.C_drewN ?_ _) | (with_reducible refine Kd.C_drew ?_))); (case side2 => exact (Kd.R_reads' HO_312000.out).2.1); (case side3 => repeat (first | exact (Kd.R_reads' HO_312001.out).2.2 | (with_reducible refine Kd.C_alloc ?_ _) | (with_reducible refine Kd.C_drewN ?_ _) | (with_reducible refine Kd.C_drew ?_))); (case side4 => exact (Kd.R_reads' HO_312001.out).2.1); rintro e w64 ⟨rfl, hb⟩; have n0_ := Aside0.mk (Kd.R_below (by (with_reducible repeat (first | apply Kd.R_alloc | apply Kd.R_drewN | apply Kd.R_drew)); exact HO_312000.out) hb); have n1_ := Aside0.mk (Kd.R_below (by (with_reducible repeat (first | apply Kd.R_alloc | apply Kd.R_drewN | apply Kd.R_drew)); exact HO_312001.out) hb); have n2_ := Aside0.mk (Kd.R_below (by (with_reducible repeat (first | apply Kd.R_alloc | apply Kd.R_drewN | apply Kd.R_drew)); exact HO_320000.out) hb); have n3_ := Aside0.mk (Kd.R_below (by (with_reducible repeat (first | apply Kd.R_alloc | apply Kd.R_drewN | apply Kd.R_drew)); exact HO_320001.out) hb); have n4_ := Aside0.mk (blk_below (g := gb311) (o := .cells #[.slice Ao11 t304.length co11, .slice Ao13 t307.length co13] 25 (0, 0)) (by (with_reducible repeat (first | refine blk_drewN ?_ _ | refine blk_drew ?_ | refine blk_alloc ?_ _)); exact BK311.out) hb); have n5_ := Aside0.mk (blk_below (g := gb319) (o := .cells #[.slice Ao16 t312.length co16, .slice Ao19 t315.length co19] 25 (0, 0)) (by (with_reducible repeat (first | refine blk_drewN ?_ _ | refine blk_drew ?_ | refine blk_alloc ?_ _)); exact BK319.out) hb); have n6_ := Aside0.mk (below_step (by repeat (first | (with_reducible first | exact HB.out | apply below_alloc | apply pw_below_drewN | apply below_drew1 | refine below_set ?_ GE311.out | refine below_set ?_ GE319.out) | exact HB.out)) hb); clear HO_312000; clear HO_312001; clear HO_320000; clear HO_320001; clear BK311; clear BK319; clear HB; have HO_312000 := n0_; have HO_312001 := n1_; have HO_320000 := n2_; have HO_320001 := n3_; have BK311 := n4_; have BK319 := n5_; have HB := n6_; clear n0_ n1_ n2_ n3_ n4_ n5_ n6_; (try clear hb); (try clear hb2); (try clear hk); (try clear hi)))
                          repeat (go_quiet (first | (go_at_call 24; (with_reducible refine (impl_PictureValid.calls k3 _ _ t304 _ _ t307 true _ ?side1 ?side2 ?side3 ?side4 A57.out).mono ?_); (case side1 => repeat (first | exact (Kd.R_reads' HO_312000.out).2.2 | (with_reducible refine Kd.C_alloc ?_ _) | (with_reducible refine Kd.C_drewN ?_ _) | (with_reducible refine Kd.C_drew ?_))); (case side2 => exact (Kd.R_reads' HO_312000.out).2.1); (case side3 => repeat (first | exact (Kd.R_reads' HO_312001.out).2.2 | (with_reducible refine Kd.C_alloc ?_ _) | (with_reducible refine Kd.C_drewN ?_ _) | (with_reducible refine Kd.C_drew ?_))); (case side4 => exact (Kd.R_reads' HO_312001.out).2.1); rintro e w62 ⟨rfl, hb⟩; have n0_ := Aside0.mk (Kd.R_below (by (with_reducible repeat (first | apply Kd.R_alloc | apply Kd.R_drewN | apply Kd.R_drew)); exact HO_312000.out) hb); have n1_ := Aside0.mk (Kd.R_below (by (with_reducible repeat (first | apply Kd.R_alloc | apply Kd.R_drewN | apply Kd.R_drew)); exact HO_312001.out) hb); have n2_ := Aside0.mk (Kd.R_below (by (with_reducible repeat (first | apply Kd.R_alloc | apply Kd.R_drewN | apply Kd.R_drew)); exact HO_320000.out) hb); have n3_ := Aside0.mk (Kd.R_below (by (with_reducible repeat (first | apply Kd.R_alloc | apply Kd.R_drewN | apply Kd.R_drew)); exact HO_320001.out) hb); have n4_ := Aside0.mk (blk_below (g := gb311) (o := .cells #[.slice Ao11 t304.length co11, .slice Ao13 t307.length co13] 25 (0, 0)) (by (with_reducible repeat (first | refine blk_drewN ?_ _ | refine blk_drew ?_ | refine blk_alloc ?_ _)); exact BK311.out) hb); have n5_ := Aside0.mk (blk_below (g := gb319) (o := .cells #[.slice Ao16 t312.length co16, .slice Ao19 t315.length co19] 25 (0, 0)) (by (with_reducible repeat (first | refine blk_drewN ?_ _ | refine blk_drew ?_ | refine blk_alloc ?_ _)); exact BK319.out) hb); have n6_ := Aside0.mk (below_step (by repeat (first | (with_reducible first | exact HB.out | apply below_alloc | apply pw_below_drewN | apply below_drew1 | refine below_set ?_ GE311.out | refine below_set ?_ GE319.out) | exact HB.out)) hb); clear HO_312000; clear HO_312001; clear HO_320000; clear HO_320001; clear BK311; clear BK319; clear HB; have HO_312000 := n0_; have HO_312001 := n1_; have HO_320000 := n2_; have HO_320001 := n3_; have BK311 := n4_; have BK319 := n5_; have HB := n6_; clear n0_ n1_ n2_ n3_ n4_ n5_ n6_; (try clear hb); (try clear hb2); (try clear hk); (try clear hi); have hcz63_0 : w62.cell? ⟨gb311, 0, none⟩ = some (.slice Ao11 t304.length co11) := (blk_cell BK311.out 0).trans rfl; have hcz63_1 : w62.cell? ⟨gb311, 1, none⟩ = some (.slice Ao13 t307.length co13) := (blk_cell BK311.out 1).trans rfl; have hfz63_0 := blk_frozen BK311.out 0; have hfz63_1 := blk_frozen BK311.out 1) | (go_at_call 18; (with_reducible refine (impl_PictureCount.calls k3 _ _ t304 _ _ t307 1 t327 _ ?side1 ?side2 ?side3 ?side4 A59.out).mono ?_); (case side1 => repeat (first | exact (Kd.R_reads' HO_312000.out).2.2 | (with_reducible refine Kd.C_alloc ?_ _) | (with_reducible refine Kd.C_drewN ?_ _) | (with_reducible refine Kd.C_drew ?_))); (case side2 => exact (Kd.R_reads' HO_312000.out).2.1); (case side3 => repeat (first | exact (Kd.R_reads' HO_312001.out).2.2 | (with_reducible refine Kd.C_alloc ?_ _) | (with_reducible refine Kd.C_drewN ?_ _) | (with_reducible refine Kd.C_drew ?_))); (case side4 => exact (Kd.R_reads' HO_312001.out).2.1); rintro e w64 ⟨rfl, hb⟩; have n0_ := Aside0.mk (Kd.R_below (by (with_reducible repeat (first | apply Kd.R_alloc | apply Kd.R_drewN | apply Kd.R_drew)); exact HO_312000.out) hb); have n1_ := Aside0.mk (Kd.R_below (by (with_reducible repeat (first | apply Kd.R_alloc | apply Kd.R_drewN | apply Kd.R_drew)); exact HO_312001.out) hb); have n2_ := Aside0.mk (Kd.R_below (by (with_reducible repeat (first | apply Kd.R_alloc | apply Kd.R_drewN | apply Kd.R_drew)); exact HO_320000.out) hb); have n3_ := Aside0.mk (Kd.R_below (by (with_reducible repeat (first | apply Kd.R_alloc | apply Kd.R_drewN | apply Kd.R_drew)); exact HO_320001.out) hb); have n4_ := Aside0.mk (blk_below (g := gb311) (o := .cells #[.slice Ao11 t304.length co11, .slice Ao13 t307.length co13] 25 (0, 0)) (by (with_reducible repeat (first | refine blk_drewN ?_ _ | refine blk_drew ?_ | refine blk_alloc ?_ _)); exact BK311.out) hb); have n5_ := Aside0.mk (blk_below (g := gb319) (o := .cells #[.slice Ao16 t312.length co16, .slice Ao19 t315.length co19] 25 (0, 0)) (by (with_reducible repeat (first | refine blk_drewN ?_ _ | refine blk_drew ?_ | refine blk_alloc ?_ _)); exact BK319.out) hb); have n6_ := Aside0.mk (below_step (by repeat (first | (with_reducible first | exact HB.out | apply below_alloc | apply pw_below_drewN | apply below_drew1 | refine below_set ?_ GE311.out | refine below_set ?_ GE319.out) | exact HB.out)) hb); clear HO_312000; clear HO_312001; clear HO_320000; clear HO_320001; clear BK311; clear BK319; clear HB; have HO_312000 := n0_; have HO_312001 := n1_; have HO_320000 := n2_; have HO_320001 := n3_; have BK311 := n4_; have BK319 := n5_; have HB := n6_; clear n0_ n1_ n2_ n3_ n4_ n5_ n6_; (try clear hb); (try clear hb2); (try clear hk); (try clear hi))); try go_wp2_with (first | (go_at_call 24; (with_reducible refine (impl_PictureValid.calls k3 _ _ t304 _ _ t307 true _ ?side1 ?side2 ?side3 ?side4 A57.out).mono ?_); (case side1 => repeat (first | exact (Kd.R_reads' HO_312000.out).2.2 | (with_reducible refine Kd.C_alloc ?_ _) | (with_reducible refine Kd.C_drewN ?_ _) | (with_reducible refine Kd.C_drew ?_))); (case side2 => exact (Kd.R_reads' HO_312000.out).2.1); (case side3 => repeat (first | exact (Kd.R_reads' HO_312001.out).2.2 | (with_reducible refine Kd.C_alloc ?_ _) | (with_reducible refine Kd.C_drewN ?_ _) | (with_reducible refine Kd.C_drew ?_))); (case side4 => exact (Kd.R_reads' HO_312001.out).2.1); rintro e w62 ⟨rfl, hb⟩; have n0_ := Aside0.mk (Kd.R_below (by (with_reducible repeat (first | apply Kd.R_alloc | apply Kd.R_drewN | apply Kd.R_drew)); exact HO_312000.out) hb); have n1_ := Aside0.mk (Kd.R_below (by (with_reducible repeat (first | apply Kd.R_alloc | apply Kd.R_drewN | apply Kd.R_drew)); exact HO_312001.out) hb); have n2_ := Aside0.mk (Kd.R_below (by (with_reducible repeat (first | apply Kd.R_alloc | apply Kd.R_drewN | apply Kd.R_drew)); exact HO_320000.out) hb); have n3_ := Aside0.mk (Kd.R_below (by (with_reducible repeat (first | apply Kd.R_alloc | apply Kd.R_drewN | apply Kd.R_drew)); exact HO_320001.out) hb); have n4_ := Aside0.mk (blk_below (g := gb311) (o := .cells #[.slice Ao11 t304.length co11, .slice Ao13 t307.length co13] 25 (0, 0)) (by (with_reducible repeat (first | refine blk_drewN ?_ _ | refine blk_drew ?_ | refine blk_alloc ?_ _)); exact BK311.out) hb); have n5_ := Aside0.mk (blk_below (g := gb319) (o := .cells #[.slice Ao16 t312.length co16, .slice Ao19 t315.length co19] 25 (0, 0)) (by (with_reducible repeat (first | refine blk_drewN ?_ _ | refine blk_drew ?_ | refine blk_alloc ?_ _)); exact BK319.out) hb); have n6_ := Aside0.mk (below_step (by repeat (first | (with_reducible first | exact HB.out | apply below_alloc | apply pw_below_drewN | apply below_drew1 | refine below_set ?_ GE311.out | refine below_set ?_ GE319.out) | exact HB.out)) hb); clear HO_312000; clear HO_312001; clear HO_320000; clear HO_320001; clear BK311; clear BK319; clear HB; have HO_312000 := n0_; have HO_312001 := n1_; have HO_320000 := n2_; have HO_320001 := n3_; have BK311 := n4_; have BK319 := n5_; have HB := n6_; clear n0_ n1_ n2_ n3_ n4_ n5_ n6_; (try clear hb); (try clear hb2); (try clear hk); (try clear hi); have hcz63_0 : w62.cell? ⟨gb311, 0, none⟩ = some (.slice Ao11 t304.length co11) := (blk_cell BK311.out 0).trans rfl; have hcz63_1 : w62.cell? ⟨gb311, 1, none⟩ = some (.slice Ao13 t307.length co13) := (blk_cell BK311.out 1).trans rfl; have hfz63_0 := blk_frozen BK311.out 0; have hfz63_1 := blk_frozen BK311.out 1) | (go_at_call 18; (with_reducible refine (impl_PictureCount.calls k3 _ _ t304 _ _ t307 1 t327 _ ?side1 ?side2 ?side3 ?side4 A59.out).mono ?_); (case side1 => repeat (first | exact (Kd.R_reads' HO_312000.out).2.2 | (with_reducible refine Kd.C_alloc ?_ _) | (with_reducible refine Kd.C_drewN ?_ _) | (with_reducible refine Kd.C_drew ?_))); (case side2 => exact (Kd.R_reads' HO_312000.out).2.1); (case side3 => repeat (first | exact (Kd.R_reads' HO_312001.out).2.2 | (with_reducible refine Kd.C_alloc ?_ _) | (with_reducible refine Kd.C_drewN ?_ _) | (with_reducible refine Kd.C_drew ?_))); (case side4 => exact (Kd.R_reads' HO_312001.out).2.1); rintro e w64 ⟨rfl, hb⟩; have n0_ := Aside0.mk (Kd.R_below (by (with_reducible repeat (first | apply Kd.R_alloc | apply Kd.R_drewN | apply Kd.R_drew)); exact HO_312000.out) hb); have n1_ := Aside0.mk (Kd.R_below (by (with_reducible repeat (first | apply Kd.R_alloc | apply Kd.R_drewN | apply Kd.R_drew)); exact HO_312001.out) hb); have n2_ := Aside0.mk (Kd.R_below (by (with_reducible repeat (first | apply Kd.R_alloc | apply Kd.R_drewN | apply Kd.R_drew)); exact HO_320000.out) hb); have n3_ := Aside0.mk (Kd.R_below (by (with_reducible repeat (first | apply Kd.R_alloc | apply Kd.R_drewN | apply Kd.R_drew)); exact HO_320001.out) hb); have n4_ := Aside0.mk (blk_below (g := gb311) (o := .cells #[.slice Ao11 t304.length co11, .slice Ao13 t307.length co13] 25 (0, 0)) (by (with_reducible repeat (first | refine blk_drewN ?_ _ | refine blk_drew ?_ | refine blk_alloc ?_ _)); exact BK311.out) hb); have n5_ := Aside0.mk (blk_below (g := gb319) (o := .cells #[.slice Ao16 t312.length co16, .slice Ao19 t315.length co19] 25 (0, 0)) (by (with_reducible repeat (first | refine blk_drewN ?_ _ | refine blk_drew ?_ | refine blk_alloc ?_ _)); exact BK319.out) hb); have n6_ := Aside0.mk (below_step (by repeat (first | (with_reducible first | exact HB.out | apply below_alloc | apply pw_below_drewN | apply below_drew1 | refine below_set ?_ GE311.out | refine below_set ?_ GE319.out) | exact HB.out)) hb); clear HO_312000; clear HO_312001; clear HO_320000; clear HO_320001; clear BK311; clear BK319; clear HB; have HO_312000 := n0_; have HO_312001 := n1_; have HO_320000 := n2_; have HO_320001 := n3_; have BK311 := n4_; have BK319 := n5_; have HB := n6_; clear n0_ n1_ n2_ n3_ n4_ n5_ n6_; (try clear hb); (try clear hb2); (try clear hk); (try clear hi))))
                          go_ret
                          exact ⟨by first | rfl | (simp [errW_none, errW_some] <;> rfl) | (simp [*, errW_none, errW_some] <;> rfl), by repeat (first | (with_reducible first | exact HB.out | apply below_alloc | apply pw_below_drewN | apply below_drew1 | refine below_set ?_ GE311.out | refine below_set ?_ GE319.out) | exact HB.out)⟩
                        · replace c58 := Bool.eq_false_iff.mpr c58
                          subst c58
                          have H1 : (some false) = some r := by rw [if_neg (show ¬ (false = true) by decide)] at H; exact H
                          clear H
                          have H := H1
                          clear H1
                          obtain rfl := Option.some.inj H
                          have hnb65 := NB311_319.out
                          have hnc65 := NB319_311.out
                          have hcz66_0 : wr.cell? ⟨gb311, 0, none⟩ = some (.slice Ao11 t304.length co11) := (blk_cell BK311.out 0).trans rfl
                          have hcz66_1 : wr.cell? ⟨gb311, 1, none⟩ = some (.slice Ao13 t307.length co13) := (blk_cell BK311.out 1).trans rfl
                          have hfz66_0 := blk_frozen BK311.out 0
                          have hfz66_1 := blk_frozen BK311.out 1
                          go_wp2_with (first | (go_at_call 24; (with_reducible refine (impl_PictureValid.calls k3 _ _ t304 _ _ t307 false _ ?side1 ?side2 ?side3 ?side4 A57.out).mono ?_); (case side1 => repeat (first | exact (Kd.R_reads' HO_312000.out).2.2 | (with_reducible refine Kd.C_alloc ?_ _) | (with_reducible refine Kd.C_drewN ?_ _) | (with_reducible refine Kd.C_drew ?_))); (case side2 => exact (Kd.R_reads' HO_312000.out).2.1); (case side3 => repeat (first | exact (Kd.R_reads' HO_312001.out).2.2 | (with_reducible refine Kd.C_alloc ?_ _) | (with_reducible refine Kd.C_drewN ?_ _) | (with_reducible refine Kd.C_drew ?_))); (case side4 => exact (Kd.R_reads' HO_312001.out).2.1); rintro e w67 ⟨rfl, hb⟩; have n0_ := Aside0.mk (Kd.R_below (by (with_reducible repeat (first | apply Kd.R_alloc | apply Kd.R_drewN | apply Kd.R_drew)); exact HO_312000.out) hb); have n1_ := Aside0.mk (Kd.R_below (by (with_reducible repeat (first | apply Kd.R_alloc | apply Kd.R_drewN | apply Kd.R_drew)); exact HO_312001.out) hb); have n2_ := Aside0.mk (Kd.R_below (by (with_reducible repeat (first | apply Kd.R_alloc | apply Kd.R_drewN | apply Kd.R_drew)); exact HO_320000.out) hb); have n3_ := Aside0.mk (Kd.R_below (by (with_reducible repeat (first | apply Kd.R_alloc | apply Kd.R_drewN | apply Kd.R_drew)); exact HO_320001.out) hb); have n4_ := Aside0.mk (blk_below (g := gb311) (o := .cells #[.slice Ao11 t304.length co11, .slice Ao13 t307.length co13] 25 (0, 0)) (by (with_reducible repeat (first | refine blk_drewN ?_ _ | refine blk_drew ?_ | refine blk_alloc ?_ _)); exact BK311.out) hb); have n5_ := Aside0.mk (blk_below (g := gb319) (o := .cells #[.slice Ao16 t312.length co16, .slice Ao19 t315.length co19] 25 (0, 0)) (by (with_reducible repeat (first | refine blk_drewN ?_ _ | refine blk_drew ?_ | refine blk_alloc ?_ _)); exact BK319.out) hb); have n6_ := Aside0.mk (below_step (by repeat (first | (with_reducible first | exact HB.out | apply below_alloc | apply pw_below_drewN | apply below_drew1 | refine below_set ?_ GE311.out | refine below_set ?_ GE319.out) | exact HB.out)) hb); clear HO_312000; clear HO_312001; clear HO_320000; clear HO_320001; clear BK311; clear BK319; clear HB; have HO_312000 := n0_; have HO_312001 := n1_; have HO_320000 := n2_; have HO_320001 := n3_; have BK311 := n4_; have BK319 := n5_; have HB := n6_; clear n0_ n1_ n2_ n3_ n4_ n5_ n6_; (try clear hb); (try clear hb2); (try clear hk); (try clear hi)))
                          repeat (go_quiet (first | (go_at_call 24; (with_reducible refine (impl_PictureValid.calls k3 _ _ t304 _ _ t307 false _ ?side1 ?side2 ?side3 ?side4 A57.out).mono ?_); (case side1 => repeat (first | exact (Kd.R_reads' HO_312000.out).2.2 | (with_reducible refine Kd.C_alloc ?_ _) | (with_reducible refine Kd.C_drewN ?_ _) | (with_reducible refine Kd.C_drew ?_))); (case side2 => exact (Kd.R_reads' HO_312000.out).2.1); (case side3 => repeat (first | exact (Kd.R_reads' HO_312001.out).2.2 | (with_reducible refine Kd.C_alloc ?_ _) | (with_reducible refine Kd.C_drewN ?_ _) | (with_reducible refine Kd.C_drew ?_))); (case side4 => exact (Kd.R_reads' HO_312001.out).2.1); rintro e w67 ⟨rfl, hb⟩; have n0_ := Aside0.mk (Kd.R_below (by (with_reducible repeat (first | apply Kd.R_alloc | apply Kd.R_drewN | apply Kd.R_drew)); exact HO_312000.out) hb); have n1_ := Aside0.mk (Kd.R_below (by (with_reducible repeat (first | apply Kd.R_alloc | apply Kd.R_drewN | apply Kd.R_drew)); exact HO_312001.out) hb); have n2_ := Aside0.mk (Kd.R_below (by (with_reducible repeat (first | apply Kd.R_alloc | apply Kd.R_drewN | apply Kd.R_drew)); exact HO_320000.out) hb); have n3_ := Aside0.mk (Kd.R_below (by (with_reducible repeat (first | apply Kd.R_alloc | apply Kd.R_drewN | apply Kd.R_drew)); exact HO_320001.out) hb); have n4_ := Aside0.mk (blk_below (g := gb311) (o := .cells #[.slice Ao11 t304.length co11, .slice Ao13 t307.length co13] 25 (0, 0)) (by (with_reducible repeat (first | refine blk_drewN ?_ _ | refine blk_drew ?_ | refine blk_alloc ?_ _)); exact BK311.out) hb); have n5_ := Aside0.mk (blk_below (g := gb319) (o := .cells #[.slice Ao16 t312.length co16, .slice Ao19 t315.length co19] 25 (0, 0)) (by (with_reducible repeat (first | refine blk_drewN ?_ _ | refine blk_drew ?_ | refine blk_alloc ?_ _)); exact BK319.out) hb); have n6_ := Aside0.mk (below_step (by repeat (first | (with_reducible first | exact HB.out | apply below_alloc | apply pw_below_drewN | apply below_drew1 | refine below_set ?_ GE311.out | refine below_set ?_ GE319.out) | exact HB.out)) hb); clear HO_312000; clear HO_312001; clear HO_320000; clear HO_320001; clear BK311; clear BK319; clear HB; have HO_312000 := n0_; have HO_312001 := n1_; have HO_320000 := n2_; have HO_320001 := n3_; have BK311 := n4_; have BK319 := n5_; have HB := n6_; clear n0_ n1_ n2_ n3_ n4_ n5_ n6_; (try clear hb); (try clear hb2); (try clear hk); (try clear hi))); try go_wp2_with (first | (go_at_call 24; (with_reducible refine (impl_PictureValid.calls k3 _ _ t304 _ _ t307 false _ ?side1 ?side2 ?side3 ?side4 A57.out).mono ?_); (case side1 => repeat (first | exact (Kd.R_reads' HO_312000.out).2.2 | (with_reducible refine Kd.C_alloc ?_ _) | (with_reducible refine Kd.C_drewN ?_ _) | (with_reducible refine Kd.C_drew ?_))); (case side2 => exact (Kd.R_reads' HO_312000.out).2.1); (case side3 => repeat (first | exact (Kd.R_reads' HO_312001.out).2.2 | (with_reducible refine Kd.C_alloc ?_ _) | (with_reducible refine Kd.C_drewN ?_ _) | (with_reducible refine Kd.C_drew ?_))); (case side4 => exact (Kd.R_reads' HO_312001.out).2.1); rintro e w67 ⟨rfl, hb⟩; have n0_ := Aside0.mk (Kd.R_below (by (with_reducible repeat (first | apply Kd.R_alloc | apply Kd.R_drewN | apply Kd.R_drew)); exact HO_312000.out) hb); have n1_ := Aside0.mk (Kd.R_below (by (with_reducible repeat (first | apply Kd.R_alloc | apply Kd.R_drewN | apply Kd.R_drew)); exact HO_312001.out) hb); have n2_ := Aside0.mk (Kd.R_below (by (with_reducible repeat (first | apply Kd.R_alloc | apply Kd.R_drewN | apply Kd.R_drew)); exact HO_320000.out) hb); have n3_ := Aside0.mk (Kd.R_below (by (with_reducible repeat (first | apply Kd.R_alloc | apply Kd.R_drewN | apply Kd.R_drew)); exact HO_320001.out) hb); have n4_ := Aside0.mk (blk_below (g := gb311) (o := .cells #[.slice Ao11 t304.length co11, .slice Ao13 t307.length co13] 25 (0, 0)) (by (with_reducible repeat (first | refine blk_drewN ?_ _ | refine blk_drew ?_ | refine blk_alloc ?_ _)); exact BK311.out) hb); have n5_ := Aside0.mk (blk_below (g := gb319) (o := .cells #[.slice Ao16 t312.length co16, .slice Ao19 t315.length co19] 25 (0, 0)) (by (with_reducible repeat (first | refine blk_drewN ?_ _ | refine blk_drew ?_ | refine blk_alloc ?_ _)); exact BK319.out) hb); have n6_ := Aside0.mk (below_step (by repeat (first | (with_reducible first | exact HB.out | apply below_alloc | apply pw_below_drewN | apply below_drew1 | refine below_set ?_ GE311.out | refine below_set ?_ GE319.out) | exact HB.out)) hb); clear HO_312000; clear HO_312001; clear HO_320000; clear HO_320001; clear BK311; clear BK319; clear HB; have HO_312000 := n0_; have HO_312001 := n1_; have HO_320000 := n2_; have HO_320001 := n3_; have BK311 := n4_; have BK319 := n5_; have HB := n6_; clear n0_ n1_ n2_ n3_ n4_ n5_ n6_; (try clear hb); (try clear hb2); (try clear hk); (try clear hi))))
                          go_ret
                          exact ⟨by first | rfl | (simp [errW_none, errW_some] <;> rfl) | (simp [*, errW_none, errW_some] <;> rfl), by repeat (first | (with_reducible first | exact HB.out | apply below_alloc | apply pw_below_drewN | apply below_drew1 | refine below_set ?_ GE311.out | refine below_set ?_ GE319.out) | exact HB.out)⟩
                      · replace c56 := Bool.eq_false_iff.mpr c56
                        subst c56
                        have H1 : (if (t304.length : Int) = 0 then ((laws_alive.f k3).bind fun t328 => (some t328)) else (some false)) = some r := by rw [if_neg (show ¬ (false = true) by decide)] at H; exact H
                        clear H
                        have H := H1
                        clear H1
                        by_cases c68 : (t304.length : Int) = 0
                        · rw [if_pos c68] at H
                          have c68b0 : ((t304.length : Int) == 0) = true := beq_iff_eq.mpr c68
                          have c68b1 : ((t304.length : Int) != 0) = false := bne_eq_false_iff_eq.mpr c68
                          clear c68
                          replace H := Option.bind_eq_some_iff.mp H
                          obtain ⟨t328, A690, H⟩ := H
                          replace H : (some t328) = some r := H
                          have A69 := Aside0.mk A690
                          clear A690
                          obtain rfl := Option.some.inj H
                          have hnb70 := NB311_319.out
                          have hnc70 := NB319_311.out
                          have hcz71_0 : wr.cell? ⟨gb311, 0, none⟩ = some (.slice Ao11 t304.length co11) := (blk_cell BK311.out 0).trans rfl
                          have hcz71_1 : wr.cell? ⟨gb311, 1, none⟩ = some (.slice Ao13 t307.length co13) := (blk_cell BK311.out 1).trans rfl
                          have hfz71_0 := blk_frozen BK311.out 0
                          have hfz71_1 := blk_frozen BK311.out 1
                          go_wp2_with (first | (go_at_call 19; (with_reducible refine (laws_alive.calls k3  t328 _ A69.out).mono ?_); rintro e w72 ⟨rfl, hb⟩; have n0_ := Aside0.mk (Kd.R_below (by (with_reducible repeat (first | apply Kd.R_alloc | apply Kd.R_drewN | apply Kd.R_drew)); exact HO_312000.out) hb); have n1_ := Aside0.mk (Kd.R_below (by (with_reducible repeat (first | apply Kd.R_alloc | apply Kd.R_drewN | apply Kd.R_drew)); exact HO_312001.out) hb); have n2_ := Aside0.mk (Kd.R_below (by (with_reducible repeat (first | apply Kd.R_alloc | apply Kd.R_drewN | apply Kd.R_drew)); exact HO_320000.out) hb); have n3_ := Aside0.mk (Kd.R_below (by (with_reducible repeat (first | apply Kd.R_alloc | apply Kd.R_drewN | apply Kd.R_drew)); exact HO_320001.out) hb); have n4_ := Aside0.mk (blk_below (g := gb311) (o := .cells #[.slice Ao11 t304.length co11, .slice Ao13 t307.length co13] 25 (0, 0)) (by (with_reducible repeat (first | refine blk_drewN ?_ _ | refine blk_drew ?_ | refine blk_alloc ?_ _)); exact BK311.out) hb); have n5_ := Aside0.mk (blk_below (g := gb319) (o := .cells #[.slice Ao16 t312.length co16, .slice Ao19 t315.length co19] 25 (0, 0)) (by (with_reducible repeat (first | refine blk_drewN ?_ _ | refine blk_drew ?_ | refine blk_alloc ?_ _)); exact BK319.out) hb); have n6_ := Aside0.mk (below_step (by repeat (first | (with_reducible first | exact HB.out | apply below_alloc | apply pw_below_drewN | apply below_drew1 | refine below_set ?_ GE311.out | refine below_set ?_ GE319.out) | exact HB.out)) hb); clear HO_312000; clear HO_312001; clear HO_320000; clear HO_320001; clear BK311; clear BK319; clear HB; have HO_312000 := n0_; have HO_312001 := n1_; have HO_320000 := n2_; have HO_320001 := n3_; have BK311 := n4_; have BK319 := n5_; have HB := n6_; clear n0_ n1_ n2_ n3_ n4_ n5_ n6_; (try clear hb); (try clear hb2); (try clear hk); (try clear hi)))
                          repeat (go_quiet (first | (go_at_call 19; (with_reducible refine (laws_alive.calls k3  t328 _ A69.out).mono ?_); rintro e w72 ⟨rfl, hb⟩; have n0_ := Aside0.mk (Kd.R_below (by (with_reducible repeat (first | apply Kd.R_alloc | apply Kd.R_drewN | apply Kd.R_drew)); exact HO_312000.out) hb); have n1_ := Aside0.mk (Kd.R_below (by (with_reducible repeat (first | apply Kd.R_alloc | apply Kd.R_drewN | apply Kd.R_drew)); exact HO_312001.out) hb); have n2_ := Aside0.mk (Kd.R_below (by (with_reducible repeat (first | apply Kd.R_alloc | apply Kd.R_drewN | apply Kd.R_drew)); exact HO_320000.out) hb); have n3_ := Aside0.mk (Kd.R_below (by (with_reducible repeat (first | apply Kd.R_alloc | apply Kd.R_drewN | apply Kd.R_drew)); exact HO_320001.out) hb); have n4_ := Aside0.mk (blk_below (g := gb311) (o := .cells #[.slice Ao11 t304.length co11, .slice Ao13 t307.length co13] 25 (0, 0)) (by (with_reducible repeat (first | refine blk_drewN ?_ _ | refine blk_drew ?_ | refine blk_alloc ?_ _)); exact BK311.out) hb); have n5_ := Aside0.mk (blk_below (g := gb319) (o := .cells #[.slice Ao16 t312.length co16, .slice Ao19 t315.length co19] 25 (0, 0)) (by (with_reducible repeat (first | refine blk_drewN ?_ _ | refine blk_drew ?_ | refine blk_alloc ?_ _)); exact BK319.out) hb); have n6_ := Aside0.mk (below_step (by repeat (first | (with_reducible first | exact HB.out | apply below_alloc | apply pw_below_drewN | apply below_drew1 | refine below_set ?_ GE311.out | refine below_set ?_ GE319.out) | exact HB.out)) hb); clear HO_312000; clear HO_312001; clear HO_320000; clear HO_320001; clear BK311; clear BK319; clear HB; have HO_312000 := n0_; have HO_312001 := n1_; have HO_320000 := n2_; have HO_320001 := n3_; have BK311 := n4_; have BK319 := n5_; have HB := n6_; clear n0_ n1_ n2_ n3_ n4_ n5_ n6_; (try clear hb); (try clear hb2); (try clear hk); (try clear hi))); try go_wp2_with (first | (go_at_call 19; (with_reducible refine (laws_alive.calls k3  t328 _ A69.out).mono ?_); rintro e w72 ⟨rfl, hb⟩; have n0_ := Aside0.mk (Kd.R_below (by (with_reducible repeat (first | apply Kd.R_alloc | apply Kd.R_drewN | apply Kd.R_drew)); exact HO_312000.out) hb); have n1_ := Aside0.mk (Kd.R_below (by (with_reducible repeat (first | apply Kd.R_alloc | apply Kd.R_drewN | apply Kd.R_drew)); exact HO_312001.out) hb); have n2_ := Aside0.mk (Kd.R_below (by (with_reducible repeat (first | apply Kd.R_alloc | apply Kd.R_drewN | apply Kd.R_drew)); exact HO_320000.out) hb); have n3_ := Aside0.mk (Kd.R_below (by (with_reducible repeat (first | apply Kd.R_alloc | apply Kd.R_drewN | apply Kd.R_drew)); exact HO_320001.out) hb); have n4_ := Aside0.mk (blk_below (g := gb311) (o := .cells #[.slice Ao11 t304.length co11, .slice Ao13 t307.length co13] 25 (0, 0)) (by (with_reducible repeat (first | refine blk_drewN ?_ _ | refine blk_drew ?_ | refine blk_alloc ?_ _)); exact BK311.out) hb); have n5_ := Aside0.mk (blk_below (g := gb319) (o := .cells #[.slice Ao16 t312.length co16, .slice Ao19 t315.length co19] 25 (0, 0)) (by (with_reducible repeat (first | refine blk_drewN ?_ _ | refine blk_drew ?_ | refine blk_alloc ?_ _)); exact BK319.out) hb); have n6_ := Aside0.mk (below_step (by repeat (first | (with_reducible first | exact HB.out | apply below_alloc | apply pw_below_drewN | apply below_drew1 | refine below_set ?_ GE311.out | refine below_set ?_ GE319.out) | exact HB.out)) hb); clear HO_312000; clear HO_312001; clear HO_320000; clear HO_320001; clear BK311; clear BK319; clear HB; have HO_312000 := n0_; have HO_312001 := n1_; have HO_320000 := n2_; have HO_320001 := n3_; have BK311 := n4_; have BK319 := n5_; have HB := n6_; clear n0_ n1_ n2_ n3_ n4_ n5_ n6_; (try clear hb); (try clear hb2); (try clear hk); (try clear hi))))
                          go_ret
                          exact ⟨by first | rfl | (simp [errW_none, errW_some] <;> rfl) | (simp [*, errW_none, errW_some] <;> rfl), by repeat (first | (with_reducible first | exact HB.out | apply below_alloc | apply pw_below_drewN | apply below_drew1 | refine below_set ?_ GE311.out | refine below_set ?_ GE319.out) | exact HB.out)⟩
                        · rw [if_neg c68] at H
                          have c68b0 : ((t304.length : Int) == 0) = false := beq_eq_false_iff_ne.mpr c68
                          have c68b1 : ((t304.length : Int) != 0) = true := bne_iff_ne.mpr c68
                          have c68b2 : ¬ (t304 = []) := fun h_ => c68 (by rw [h_]; rfl)
                          obtain rfl := Option.some.inj H
                          have hnb73 := NB311_319.out
                          have hnc73 := NB319_311.out
                          have hcz74_0 : wr.cell? ⟨gb311, 0, none⟩ = some (.slice Ao11 t304.length co11) := (blk_cell BK311.out 0).trans rfl
                          have hcz74_1 : wr.cell? ⟨gb311, 1, none⟩ = some (.slice Ao13 t307.length co13) := (blk_cell BK311.out 1).trans rfl
                          have hfz74_0 := blk_frozen BK311.out 0
                          have hfz74_1 := blk_frozen BK311.out 1
                          go_wp2
                          repeat (go_quiet (fail); try go_wp2)
                          go_ret
                          exact ⟨by first | rfl | (simp [errW_none, errW_some] <;> rfl) | (simp [*, errW_none, errW_some] <;> rfl), by repeat (first | (with_reducible first | exact HB.out | apply below_alloc | apply pw_below_drewN | apply below_drew1 | refine below_set ?_ GE311.out | refine below_set ?_ GE319.out) | exact HB.out)⟩

/-- THE ONE PURE STATEMENT of laws_FnPictureOf: yours. -/
def laws_FnPictureOf.Pure : Prop := ∀ (l0 : List Int), l0.length ≤ maxLen → l0.length * 1 ≤ 140737488351232 → (∀ x ∈ l0, (Lit.int .u8 x).wf = true) → ∃ k, laws_FnPictureOf.f k l0 = some true
theorem laws_FnPictureOf.walk (P : laws_FnPictureOf.Pure) (a0 : Option Addr) (len0 cap0 : Nat) (z0 : List Int) (w : World) (w0 : (a0 = none ∧ len0 = 0 ∧ cap0 = 0 ∧ z0 = []) ∨ ∃ x, a0 = some x ∧ len0 ≤ cap0 ∧ cap0 ≤ maxLen ∧ z0.length = cap0 ∧ (∀ i, i < z0.length → w.cell? (x.add i) = some (.int .u8 (z0.getD i 0))) ∧ ∀ n ∈ z0, (Lit.int .u8 n).wf = true) (y0 : len0 * 1 ≤ 140737488351232) :
    Calls Try.prog 7 #[.slice a0 len0 cap0] w fun e w' => e = .returned (.bool true) ∧ Below w.heap.size w w' := by
  obtain ⟨l0, rfl, hr0, hm0, hw0, hc0⟩ := ReadsInt.ofRowC w0
  obtain ⟨k, h⟩ := P l0 hm0 y0 hw0
  refine (laws_FnPictureOf.calls k _ _ l0 true w (Kd.C_of_reads (d := (0 : Int)) (h1 := fun _ => rfl) hr0) hc0 h).mono ?_
  rintro e w' ⟨rfl, hd⟩
  exact ⟨rfl, hd⟩

end Go.Proofs.Ytapnohcfnclleaa.PFnPictureOf
