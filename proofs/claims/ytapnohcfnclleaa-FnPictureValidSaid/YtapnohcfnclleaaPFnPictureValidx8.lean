-- Made by a program of this session (a changed copy of the kit print): the kit print itself does not give this text
import Derived.Test.YtapnohcfnclleaaPFnPictureValidx0
import Derived.Test.YtapnohcfnclleaaPFnPictureValidx1
import Derived.Test.YtapnohcfnclleaaPFnPictureValidx2
import Derived.Test.YtapnohcfnclleaaPFnPictureValidx7
namespace Go.Proofs.Ytapnohcfnclleaa.PFnPictureValid
open Go.RowKit Go.Proofs.YtapnohcfnclleaaW.PrintWords Go.Proofs.YtapnohcfnclleaaW.PrintLast Go.Proofs.YtapnohcfnclleaaW.PrintMore
attribute [local go_sem] max2_int min2_int max_two min_two max_three min_three max_four min_four   -- for this text's walks alone
set_option linter.unusedVariables false
set_option linter.unusedSimpArgs false

/-! ### laws_FnPictureValid: function 5 -/
def laws_FnPictureValid.f (k : Nat) (l0 : List Int) : Option (Bool) := if (l0.length : Int) > 1048576 then (some true) else ((spec_DrawPictureValid.f k l0).bind fun bt281 => ((impl_PictureValid.f k bt281.1 bt281.2).bind fun t288 => ((spec_PictureValid.f k bt281.1 bt281.2).bind fun t289 => (if (t288 != t289) = true then (some false) else ((impl_PictureValid.f k ([] : List (List Int)) bt281.2).bind fun t290 => (if t290 = true then (some false) else ((some (([] : List (List Int)) : List (List Int))).bind fun y291 => (if y291.length + bt281.1.length < 5864062014805 then ((some (y291 ++ bt281.1 : List (List Int))).bind fun y294 => ((some (([(([6] : List Int))] : List (List Int)) : List (List Int))).bind fun y300 => (if y294.length + y300.length < 5864062014805 then ((impl_PictureValid.f k (y294 ++ y300) bt281.2).bind fun t306 => (if t306 = true then (some false) else ((laws_alive.f k).bind fun t307 => (some t307)))) else (none)))) else (none)))))))))
theorem laws_FnPictureValid.mono : ∀ a0 k, LeO (laws_FnPictureValid.f k a0) (laws_FnPictureValid.f (k + 1) a0) := by
 intro a0 k
 unfold laws_FnPictureValid.f
 repeat' first
   | (with_reducible exact impl_PictureValid.mono _ _ _)
   | (with_reducible exact laws_alive.mono _)
   | (with_reducible exact spec_DrawPictureValid.mono _ _)
   | (with_reducible exact spec_PictureValid.mono _ _ _)
   | (with_reducible exact LeO.refl _)
   | (with_reducible exact LeO.none _)
   | (with_reducible refine LeO.ite ?_ ?_)
   | (with_reducible refine LeO.bind ?_ (fun _ => ?_))
   | exact impl_PictureValid.mono _ _ _
   | exact laws_alive.mono _
   | exact spec_DrawPictureValid.mono _ _
   | exact spec_PictureValid.mono _ _ _
   | exact LeO.none _
   | refine LeO.ite ?_ ?_
   | refine LeO.bind ?_ (fun _ => ?_)
def laws_FnPictureValid.T7 : Bool × List (List Nat × List Nat) := (true, [([], []), ([0], [0]), ([1], [1]), ([2], [2]), ([3], [3]), ([4, 3], [4]), ([5], [5]), ([5], [5]), ([7, 5], [5, 7]), ([6, 8, 5, 5], [5, 6, 8]), ([5], [5]), ([10, 5], [5, 10]), ([9, 11, 9, 5], [5, 9, 11]), ([5], [5]), ([13, 5], [5, 13]), ([12, 14, 5], [5, 12, 14]), ([15, 12, 5], [5, 15]), ([16, 5], [5, 16]), ([5, 17], [5, 17]), ([18, 16], [18]), ([19, 19], [19]), ([19, 20], [19, 20]), ([21, 20, 0, 1, 2, 3, 4, 5, 6, 7, 8, 9, 10, 11, 12, 13, 14, 15, 16, 17, 18, 19, 20, 21], [21])])
def laws_FnPictureValid.B7 : List Nat := [0, 1, 3, 7, 15, 31, 63, 63, 191, 511, 63, 1087, 4095, 63, 8255, 32767, 65535, 131071, 262143, 524287, 1048575, 2097151, 4194303]
theorem laws_FnPictureValid.tab7 : rtab .any (opsOf Try.f5 7) = laws_FnPictureValid.T7 := by kernel_rfl
theorem laws_FnPictureValid.bits7 : waitsOk laws_FnPictureValid.T7.2 laws_FnPictureValid.B7 = true := by kernel_rfl
set_option maxHeartbeats 8000000 in
set_option maxRecDepth 100000 in
theorem laws_FnPictureValid.calls (k : Nat) (A0 : Option Addr) (c0 : Nat) (l0 : List Int) (r : Bool) (w : World) (hr0 : Kd.C (Kd.int .u8) w A0 l0.length l0) (hc0 : l0.length ≤ c0) (h : laws_FnPictureValid.f k l0 = some r) :
  Calls Try.prog 5 #[.slice A0 l0.length c0] w fun e w' => e = .returned (.bool r) ∧ Below w.heap.size w w' := by
 have hu25 := Try.underlying25
 have HR0 := Aside0.mk hr0
 have HC0 := Aside0.mk hc0
 clear hr0 hc0
 have HB := Aside0.mk (Below.refl w.heap.size w)
 have H : (if (l0.length : Int) > 1048576 then (some true) else ((spec_DrawPictureValid.f k l0).bind fun bt281 => ((impl_PictureValid.f k bt281.1 bt281.2).bind fun t288 => ((spec_PictureValid.f k bt281.1 bt281.2).bind fun t289 => (if (t288 != t289) = true then (some false) else ((impl_PictureValid.f k ([] : List (List Int)) bt281.2).bind fun t290 => (if t290 = true then (some false) else ((some (([] : List (List Int)) : List (List Int))).bind fun y291 => (if y291.length + bt281.1.length < 5864062014805 then ((some (y291 ++ bt281.1 : List (List Int))).bind fun y294 => ((some (([(([6] : List Int))] : List (List Int)) : List (List Int))).bind fun y300 => (if y294.length + y300.length < 5864062014805 then ((impl_PictureValid.f k (y294 ++ y300) bt281.2).bind fun t306 => (if t306 = true then (some false) else ((laws_alive.f k).bind fun t307 => (some t307)))) else (none)))) else (none)))))))))) = some r := h
 clear h
 by_cases c2 : (l0.length : Int) > 1048576
 ·rw [if_pos c2] at H
  have c2b0 : decide (1048576 < (l0.length : Int)) = true := decide_eq_true c2
  have c2b1 : decide (1048576 < l0.length) = true := decide_eq_true (by omega)
  clear c2
  obtain rfl := Option.some.inj H
  go_enter Try.func5, Try.ntmps5
  go_wp2
  go_ret
  exact ⟨by first | rfl | (simp [errW_none, errW_some] <;> rfl) | (simp [*, errW_none, errW_some] <;> rfl), by repeat (first | (with_reducible first | exact HB.out | apply below_alloc | apply pw_below_drewN | apply below_drew1) | exact HB.out)⟩
 ·rw [if_neg c2] at H
  have c2b0 : decide (1048576 < (l0.length : Int)) = false := decide_eq_false c2
  have c2b1 : decide (1048576 < l0.length) = false := decide_eq_false (by omega)
  clear c2
  replace H := Option.bind_eq_some_iff.mp H
  obtain ⟨⟨t281, t284⟩, A30, H⟩ := H
  replace H : ((impl_PictureValid.f k t281 t284).bind fun t288 => ((spec_PictureValid.f k t281 t284).bind fun t289 => (if (t288 != t289) = true then (some false) else ((impl_PictureValid.f k ([] : List (List Int)) t284).bind fun t290 => (if t290 = true then (some false) else ((some (([] : List (List Int)) : List (List Int))).bind fun y291 => (if y291.length + t281.length < 5864062014805 then ((some (y291 ++ t281 : List (List Int))).bind fun y294 => ((some (([(([6] : List Int))] : List (List Int)) : List (List Int))).bind fun y300 => (if y294.length + y300.length < 5864062014805 then ((impl_PictureValid.f k (y294 ++ y300) t284).bind fun t306 => (if t306 = true then (some false) else ((laws_alive.f k).bind fun t307 => (some t307)))) else (none)))) else (none)))))))) = some r := H
  have A3 := Aside0.mk A30
  clear A30
  replace H := Option.bind_eq_some_iff.mp H
  obtain ⟨t288, A40, H⟩ := H
  replace H : ((spec_PictureValid.f k t281 t284).bind fun t289 => (if (t288 != t289) = true then (some false) else ((impl_PictureValid.f k ([] : List (List Int)) t284).bind fun t290 => (if t290 = true then (some false) else ((some (([] : List (List Int)) : List (List Int))).bind fun y291 => (if y291.length + t281.length < 5864062014805 then ((some (y291 ++ t281 : List (List Int))).bind fun y294 => ((some (([(([6] : List Int))] : List (List Int)) : List (List Int))).bind fun y300 => (if y294.length + y300.length < 5864062014805 then ((impl_PictureValid.f k (y294 ++ y300) t284).bind fun t306 => (if t306 = true then (some false) else ((laws_alive.f k).bind fun t307 => (some t307)))) else (none)))) else (none))))))) = some r := H
  have A4 := Aside0.mk A40
  clear A40
  replace H := Option.bind_eq_some_iff.mp H
  obtain ⟨t289, A50, H⟩ := H
  replace H : (if (t288 != t289) = true then (some false) else ((impl_PictureValid.f k ([] : List (List Int)) t284).bind fun t290 => (if t290 = true then (some false) else ((some (([] : List (List Int)) : List (List Int))).bind fun y291 => (if y291.length + t281.length < 5864062014805 then ((some (y291 ++ t281 : List (List Int))).bind fun y294 => ((some (([(([6] : List Int))] : List (List Int)) : List (List Int))).bind fun y300 => (if y294.length + y300.length < 5864062014805 then ((impl_PictureValid.f k (y294 ++ y300) t284).bind fun t306 => (if t306 = true then (some false) else ((laws_alive.f k).bind fun t307 => (some t307)))) else (none)))) else (none)))))) = some r := H
  have A5 := Aside0.mk A50
  clear A50
  by_cases c6 : (t288 != t289) = true
  ·rw [if_pos c6] at H
   have c6b0 : (t288 != t289) = true := c6
   (try (have c6b1 : decide (t288 = t289) = false := by simpa using c6))
   (try (have c6b2 : (t288 == t289) = false := by simpa using c6))
   (try (have c6b3 : ¬ (t288 = t289) := by simpa using c6))
   clear c6
   obtain rfl := Option.some.inj H
   go_enter Try.func5, Try.ntmps5
   go_wp2_with (first | ((with_reducible refine gate_callee (f := 26) rfl ?_); refine goesL_ (some 9) rfl rfl Try.func26 (by kernel_rfl) rfl #[.slice A0 l0.length c0] rfl (by (try simp only [List.map_toArray, List.map_cons, List.map_nil]); first | done | rfl | (simp only [List.length_drop, List.length_take]; rfl)) ?_; (with_reducible refine (spec_DrawPictureValid.calls k _ _ l0 t281 t284 _ ?side1 ?side2 A3.out).mono ?_); (case side1 => repeat (first | exact HR0.out | (with_reducible refine Kd.C_alloc ?_ _) | (with_reducible refine Kd.C_drewN ?_ _) | (with_reducible refine Kd.C_drew ?_))); (case side2 => exact HC0.out); rintro e w7 ⟨v282, v285, rfl, ho0, ho1, hb⟩; refine ⟨_, rfl, ?_⟩; have n0_ := Aside0.mk (Kd.N_lower (Kd.N_mono (ok' := fun k_ => some k_ ≠ (v285 : Value).ownBlock) ho0 (fun k_ hk_ => hk_.2)) (below_size (by repeat (first | (with_reducible first | exact HB.out | apply below_alloc | apply pw_below_drewN | apply below_drew1) | exact HB.out)))); have n1_ := Aside0.mk (Kd.N_lower (Kd.N_mono (ok' := fun k_ => some k_ ≠ (v282 : Value).ownBlock) ho1 (fun k_ hk_ => hk_.2)) (below_size (by repeat (first | (with_reducible first | exact HB.out | apply below_alloc | apply pw_below_drewN | apply below_drew1) | exact HB.out)))); have n2_ := Aside0.mk (below_step (by repeat (first | (with_reducible first | exact HB.out | apply below_alloc | apply pw_below_drewN | apply below_drew1) | exact HB.out)) hb); clear HB; have HO283 := n0_; have HO286 := n1_; have HB := n2_; clear n0_ n1_ n2_; (try clear hb); (try clear hb2); (try clear hk); (try clear hi); (try clear ho0); (try clear ho1)) | ((with_reducible refine gate_dst (N := 3) rfl ?_); (try (refine gate_guard (by rfl) ?_; dsimp only)); refine box_event ?hg (N := 3) ?hd (cs := #[.slice none 0 0, .slice none 0 0]) (t := 25) ?hr ?_; (case hd => rfl); (case hg => rfl); (case hr => first | (go_simp; done) | (go_simp; rfl)); intro gb287 hg w8 hbox hb; have n0_ := Aside0.mk (Kd.N_below (Kd.N_elderB (by (with_reducible repeat (first | apply Kd.N_alloc | apply Kd.N_drewN | apply Kd.N_drew)); exact HO283.out) gb287 (Nat.le_of_eq hg.symm)) hb); have n1_ := Aside0.mk (Kd.N_below (Kd.N_elderB (by (with_reducible repeat (first | apply Kd.N_alloc | apply Kd.N_drewN | apply Kd.N_drew)); exact HO286.out) gb287 (Nat.le_of_eq hg.symm)) hb); have n2_ := Aside0.mk (below_step (by repeat (first | (with_reducible first | exact HB.out | apply below_alloc | apply pw_below_drewN | apply below_drew1) | exact HB.out)) hb); have n3_ := Aside0.mk (hbox); have n4_ := Aside0.mk ((by rw [hg]; exact (below_size (by repeat (first | (with_reducible first | exact HB.out | apply below_alloc | apply pw_below_drewN | apply below_drew1) | exact HB.out))) : w.heap.size ≤ gb287)); have n5_ := Aside0.mk ((by rw [hg]; exact (below_size (by repeat (first | (with_reducible first | exact HB.out | apply below_alloc | apply pw_below_drewN | apply below_drew1) | exact HB.out))) : w.heap.size ≤ gb287)); clear HO283; clear HO286; clear HB; have HO283 := n0_; have HO286 := n1_; have HB := n2_; have BK287 := n3_; have GW287 := n4_; have GE287 := n5_; clear n0_ n1_ n2_ n3_ n4_ n5_; clear hb hbox hg; obtain ⟨Ao9, co9, eo9⟩ := Kd.N_slice HO283.out; subst eo9; have hcz10_0 : w8.cell? ⟨gb287, 0, none⟩ = some (.slice none 0 0) := (blk_cell BK287.out 0).trans rfl; have hcz10_1 : w8.cell? ⟨gb287, 1, none⟩ = some (.slice none 0 0) := (blk_cell BK287.out 1).trans rfl; have hfz10_0 := blk_frozen BK287.out 0; have hfz10_1 := blk_frozen BK287.out 1; obtain ⟨Ao11, co11, eo11⟩ := Kd.N_slice HO286.out; subst eo11) | ((with_reducible refine gate_callee (f := 24) rfl ?_); refine goesL_ (some 11) rfl rfl Try.func24 (by kernel_rfl) rfl #[.agg #[.slice Ao9 t281.length co9, .slice Ao11 t284.length co11]] rfl (by (try simp only [List.map_toArray, List.map_cons, List.map_nil]); first | done | rfl | (simp only [List.length_drop, List.length_take]; rfl)) ?_; (with_reducible refine (impl_PictureValid.calls k _ _ t281 _ _ t284 t288 _ ?side1 ?side2 ?side3 ?side4 A4.out).mono ?_); (case side1 => refine (Kd.N_reads' (e := 36) (base := w.heap.size) (ok := fun k_ => (some k_ ≠ (.slice Ao11 t284.length co11 : Value).ownBlock ∧ k_ ≠ gb287)) (n := t281.length) (c := co9) ?_).2.2; exact (by (with_reducible repeat (first | apply Kd.N_alloc | apply Kd.N_drewN | apply Kd.N_drew)); exact (Kd.N_mono (Kd.N_far (p := ⟨gb287, 1, none⟩) (Kd.N_far (p := ⟨gb287, 0, none⟩) (Kd.N_mono HO283.out (fun k_ hk => (⟨hk, hk.2⟩ : _ ∧ k_ ≠ gb287))) (fun _ hk => hk.2) (.slice Ao9 t281.length co9)) (fun _ hk => hk.2) (.slice Ao11 t284.length co11)) (fun _ h_ => h_.1)))); (case side2 => exact (Kd.N_reads' HO283.out).2.1); (case side3 => refine (Kd.N_reads' (e := 36) (base := w.heap.size) (ok := fun k_ => (some k_ ≠ (.slice Ao9 t281.length co9 : Value).ownBlock ∧ k_ ≠ gb287)) (n := t284.length) (c := co11) ?_).2.2; exact (by (with_reducible repeat (first | apply Kd.N_alloc | apply Kd.N_drewN | apply Kd.N_drew)); exact (Kd.N_mono (Kd.N_far (p := ⟨gb287, 1, none⟩) (Kd.N_far (p := ⟨gb287, 0, none⟩) (Kd.N_mono HO286.out (fun k_ hk => (⟨hk, hk.2⟩ : _ ∧ k_ ≠ gb287))) (fun _ hk => hk.2) (.slice Ao9 t281.length co9)) (fun _ hk => hk.2) (.slice Ao11 t284.length co11)) (fun _ h_ => h_.1)))); (case side4 => exact (Kd.N_reads' HO286.out).2.1); rintro e w12 ⟨rfl, hb⟩; refine ⟨_, rfl, ?_⟩; have n0_ := Aside0.mk (Kd.N_below (by (with_reducible repeat (first | apply Kd.N_alloc | apply Kd.N_drewN | apply Kd.N_drew)); exact (Kd.N_mono (Kd.N_far (p := ⟨gb287, 1, none⟩) (Kd.N_far (p := ⟨gb287, 0, none⟩) (Kd.N_mono HO283.out (fun k_ hk => (⟨hk, hk.2⟩ : _ ∧ k_ ≠ gb287))) (fun _ hk => hk.2) (.slice Ao9 t281.length co9)) (fun _ hk => hk.2) (.slice Ao11 t284.length co11)) (fun _ h_ => h_.1))) hb); have n1_ := Aside0.mk (Kd.N_below (by (with_reducible repeat (first | apply Kd.N_alloc | apply Kd.N_drewN | apply Kd.N_drew)); exact (Kd.N_mono (Kd.N_far (p := ⟨gb287, 1, none⟩) (Kd.N_far (p := ⟨gb287, 0, none⟩) (Kd.N_mono HO286.out (fun k_ hk => (⟨hk, hk.2⟩ : _ ∧ k_ ≠ gb287))) (fun _ hk => hk.2) (.slice Ao9 t281.length co9)) (fun _ hk => hk.2) (.slice Ao11 t284.length co11)) (fun _ h_ => h_.1))) hb); have n2_ := Aside0.mk (blk_below (g := gb287) (o := .cells #[.slice Ao9 t281.length co9, .slice Ao11 t284.length co11] 25 (0, 0)) (by (with_reducible repeat (first | refine blk_drewN ?_ _ | refine blk_drew ?_ | refine blk_alloc ?_ _)); refine blk_put (cs := #[.slice Ao9 t281.length co9, .slice none 0 0]) ?_ 1 _ rfl; (with_reducible repeat (first | refine blk_drewN ?_ _ | refine blk_drew ?_ | refine blk_alloc ?_ _)); refine blk_put (cs := #[.slice none 0 0, .slice none 0 0]) ?_ 0 _ rfl; (with_reducible repeat (first | refine blk_drewN ?_ _ | refine blk_drew ?_ | refine blk_alloc ?_ _)); exact BK287.out) hb); have n3_ := Aside0.mk (below_step (by repeat (first | (with_reducible first | exact HB.out | apply below_alloc | apply pw_below_drewN | apply below_drew1 | refine below_set ?_ GE287.out) | exact HB.out)) hb); clear HO283; clear HO286; clear BK287; clear HB; have HO283 := n0_; have HO286 := n1_; have BK287 := n2_; have HB := n3_; clear n0_ n1_ n2_ n3_; (try clear hb); (try clear hb2); (try clear hk); (try clear hi); have hcz13_0 : w12.cell? ⟨gb287, 0, none⟩ = some (.slice Ao9 t281.length co9) := (blk_cell BK287.out 0).trans rfl; have hcz13_1 : w12.cell? ⟨gb287, 1, none⟩ = some (.slice Ao11 t284.length co11) := (blk_cell BK287.out 1).trans rfl; have hfz13_0 := blk_frozen BK287.out 0; have hfz13_1 := blk_frozen BK287.out 1) | ((with_reducible refine gate_callee (f := 17) rfl ?_); refine goesL_ (some 14) rfl rfl Try.func17 (by kernel_rfl) rfl #[.agg #[.slice Ao9 t281.length co9, .slice Ao11 t284.length co11]] rfl (by (try simp only [List.map_toArray, List.map_cons, List.map_nil]); first | done | rfl | (simp only [List.length_drop, List.length_take]; rfl)) ?_; (with_reducible refine (spec_PictureValid.calls k _ _ t281 _ _ t284 t289 _ ?side1 ?side2 ?side3 ?side4 A5.out).mono ?_); (case side1 => repeat (first | exact (Kd.N_reads' HO283.out).2.2 | (with_reducible refine Kd.C_alloc ?_ _) | (with_reducible refine Kd.C_drewN ?_ _) | (with_reducible refine Kd.C_drew ?_))); (case side2 => exact (Kd.N_reads' HO283.out).2.1); (case side3 => repeat (first | exact (Kd.N_reads' HO286.out).2.2 | (with_reducible refine Kd.C_alloc ?_ _) | (with_reducible refine Kd.C_drewN ?_ _) | (with_reducible refine Kd.C_drew ?_))); (case side4 => exact (Kd.N_reads' HO286.out).2.1); rintro e w14 ⟨rfl, hb⟩; refine ⟨_, rfl, ?_⟩; have n0_ := Aside0.mk (Kd.N_below (by (with_reducible repeat (first | apply Kd.N_alloc | apply Kd.N_drewN | apply Kd.N_drew)); exact HO283.out) hb); have n1_ := Aside0.mk (Kd.N_below (by (with_reducible repeat (first | apply Kd.N_alloc | apply Kd.N_drewN | apply Kd.N_drew)); exact HO286.out) hb); have n2_ := Aside0.mk (blk_below (g := gb287) (o := .cells #[.slice Ao9 t281.length co9, .slice Ao11 t284.length co11] 25 (0, 0)) (by (with_reducible repeat (first | refine blk_drewN ?_ _ | refine blk_drew ?_ | refine blk_alloc ?_ _)); exact BK287.out) hb); have n3_ := Aside0.mk (below_step (by repeat (first | (with_reducible first | exact HB.out | apply below_alloc | apply pw_below_drewN | apply below_drew1 | refine below_set ?_ GE287.out) | exact HB.out)) hb); clear HO283; clear HO286; clear BK287; clear HB; have HO283 := n0_; have HO286 := n1_; have BK287 := n2_; have HB := n3_; clear n0_ n1_ n2_ n3_; (try clear hb); (try clear hb2); (try clear hk); (try clear hi)))
   go_ret
   exact ⟨by first | rfl | (simp [errW_none, errW_some] <;> rfl) | (simp [*, errW_none, errW_some] <;> rfl), by repeat (first | (with_reducible first | exact HB.out | apply below_alloc | apply pw_below_drewN | apply below_drew1 | refine below_set ?_ GE287.out) | exact HB.out)⟩
  ·rw [if_neg c6] at H
   have c6b0 : (t288 != t289) = false := by simpa using c6
   (try (have c6b1 : decide (t288 = t289) = true := by simpa using c6))
   (try (have c6b2 : (t288 == t289) = true := by simpa using c6))
   clear c6
   replace H := Option.bind_eq_some_iff.mp H
   obtain ⟨t290, A150, H⟩ := H
   replace H : (if t290 = true then (some false) else ((some (([] : List (List Int)) : List (List Int))).bind fun y291 => (if y291.length + t281.length < 5864062014805 then ((some (y291 ++ t281 : List (List Int))).bind fun y294 => ((some (([(([6] : List Int))] : List (List Int)) : List (List Int))).bind fun y300 => (if y294.length + y300.length < 5864062014805 then ((impl_PictureValid.f k (y294 ++ y300) t284).bind fun t306 => (if t306 = true then (some false) else ((laws_alive.f k).bind fun t307 => (some t307)))) else (none)))) else (none)))) = some r := H
   have A15 := Aside0.mk A150
   clear A150
   by_cases c16 : t290 = true
   ·subst c16
    have H1 : (some false) = some r := by rw [if_pos rfl] at H; exact H
    clear H
    have H := H1
    clear H1
    obtain rfl := Option.some.inj H
    go_enter Try.func5, Try.ntmps5
    try go_wp2_with (first | ((with_reducible refine gate_callee (f := 26) rfl ?_); refine goesL_ (some 9) rfl rfl Try.func26 (by kernel_rfl) rfl #[.slice A0 l0.length c0] rfl (by (try simp only [List.map_toArray, List.map_cons, List.map_nil]); first | done | rfl | (simp only [List.length_drop, List.length_take]; rfl)) ?_; (with_reducible refine (spec_DrawPictureValid.calls k _ _ l0 t281 t284 _ ?side1 ?side2 A3.out).mono ?_); (case side1 => repeat (first | exact HR0.out | (with_reducible refine Kd.C_alloc ?_ _) | (with_reducible refine Kd.C_drewN ?_ _) | (with_reducible refine Kd.C_drew ?_))); (case side2 => exact HC0.out); rintro e w17 ⟨v282, v285, rfl, ho0, ho1, hb⟩; refine ⟨_, rfl, ?_⟩; have n0_ := Aside0.mk (Kd.N_lower (Kd.N_mono (ok' := fun k_ => some k_ ≠ (v285 : Value).ownBlock) ho0 (fun k_ hk_ => hk_.2)) (below_size (by repeat (first | (with_reducible first | exact HB.out | apply below_alloc | apply pw_below_drewN | apply below_drew1) | exact HB.out)))); have n1_ := Aside0.mk (Kd.N_lower (Kd.N_mono (ok' := fun k_ => some k_ ≠ (v282 : Value).ownBlock) ho1 (fun k_ hk_ => hk_.2)) (below_size (by repeat (first | (with_reducible first | exact HB.out | apply below_alloc | apply pw_below_drewN | apply below_drew1) | exact HB.out)))); have n2_ := Aside0.mk (below_step (by repeat (first | (with_reducible first | exact HB.out | apply below_alloc | apply pw_below_drewN | apply below_drew1) | exact HB.out)) hb); clear HB; have HO283 := n0_; have HO286 := n1_; have HB := n2_; clear n0_ n1_ n2_; (try clear hb); (try clear hb2); (try clear hk); (try clear hi); (try clear ho0); (try clear ho1)) | ((with_reducible refine gate_dst (N := 3) rfl ?_); (try (refine gate_guard (by rfl) ?_; dsimp only)); refine box_event ?hg (N := 3) ?hd (cs := #[.slice none 0 0, .slice none 0 0]) (t := 25) ?hr ?_; (case hd => rfl); (case hg => rfl); (case hr => first | (go_simp; done) | (go_simp; rfl)); intro gb287 hg w18 hbox hb; have n0_ := Aside0.mk (Kd.N_below (Kd.N_elderB (by (with_reducible repeat (first | apply Kd.N_alloc | apply Kd.N_drewN | apply Kd.N_drew)); exact HO283.out) gb287 (Nat.le_of_eq hg.symm)) hb); have n1_ := Aside0.mk (Kd.N_below (Kd.N_elderB (by (with_reducible repeat (first | apply Kd.N_alloc | apply Kd.N_drewN | apply Kd.N_drew)); exact HO286.out) gb287 (Nat.le_of_eq hg.symm)) hb); have n2_ := Aside0.mk (below_step (by repeat (first | (with_reducible first | exact HB.out | apply below_alloc | apply pw_below_drewN | apply below_drew1) | exact HB.out)) hb); have n3_ := Aside0.mk (hbox); have n4_ := Aside0.mk ((by rw [hg]; exact (below_size (by repeat (first | (with_reducible first | exact HB.out | apply below_alloc | apply pw_below_drewN | apply below_drew1) | exact HB.out))) : w.heap.size ≤ gb287)); have n5_ := Aside0.mk ((by rw [hg]; exact (below_size (by repeat (first | (with_reducible first | exact HB.out | apply below_alloc | apply pw_below_drewN | apply below_drew1) | exact HB.out))) : w.heap.size ≤ gb287)); clear HO283; clear HO286; clear HB; have HO283 := n0_; have HO286 := n1_; have HB := n2_; have BK287 := n3_; have GW287 := n4_; have GE287 := n5_; clear n0_ n1_ n2_ n3_ n4_ n5_; clear hb hbox hg; obtain ⟨Ao19, co19, eo19⟩ := Kd.N_slice HO283.out; subst eo19; have hcz20_0 : w18.cell? ⟨gb287, 0, none⟩ = some (.slice none 0 0) := (blk_cell BK287.out 0).trans rfl; have hcz20_1 : w18.cell? ⟨gb287, 1, none⟩ = some (.slice none 0 0) := (blk_cell BK287.out 1).trans rfl; have hfz20_0 := blk_frozen BK287.out 0; have hfz20_1 := blk_frozen BK287.out 1; obtain ⟨Ao21, co21, eo21⟩ := Kd.N_slice HO286.out; subst eo21) | ((with_reducible refine gate_callee (f := 24) rfl ?_); refine goesL_ (some 11) rfl rfl Try.func24 (by kernel_rfl) rfl #[.agg #[.slice Ao19 t281.length co19, .slice Ao21 t284.length co21]] rfl (by (try simp only [List.map_toArray, List.map_cons, List.map_nil]); first | done | rfl | (simp only [List.length_drop, List.length_take]; rfl)) ?_; (with_reducible refine (impl_PictureValid.calls k _ _ t281 _ _ t284 t288 _ ?side1 ?side2 ?side3 ?side4 A4.out).mono ?_); (case side1 => refine (Kd.N_reads' (e := 36) (base := w.heap.size) (ok := fun k_ => (some k_ ≠ (.slice Ao21 t284.length co21 : Value).ownBlock ∧ k_ ≠ gb287)) (n := t281.length) (c := co19) ?_).2.2; exact (by (with_reducible repeat (first | apply Kd.N_alloc | apply Kd.N_drewN | apply Kd.N_drew)); exact (Kd.N_mono (Kd.N_far (p := ⟨gb287, 1, none⟩) (Kd.N_far (p := ⟨gb287, 0, none⟩) (Kd.N_mono HO283.out (fun k_ hk => (⟨hk, hk.2⟩ : _ ∧ k_ ≠ gb287))) (fun _ hk => hk.2) (.slice Ao19 t281.length co19)) (fun _ hk => hk.2) (.slice Ao21 t284.length co21)) (fun _ h_ => h_.1)))); (case side2 => exact (Kd.N_reads' HO283.out).2.1); (case side3 => refine (Kd.N_reads' (e := 36) (base := w.heap.size) (ok := fun k_ => (some k_ ≠ (.slice Ao19 t281.length co19 : Value).ownBlock ∧ k_ ≠ gb287)) (n := t284.length) (c := co21) ?_).2.2; exact (by (with_reducible repeat (first | apply Kd.N_alloc | apply Kd.N_drewN | apply Kd.N_drew)); exact (Kd.N_mono (Kd.N_far (p := ⟨gb287, 1, none⟩) (Kd.N_far (p := ⟨gb287, 0, none⟩) (Kd.N_mono HO286.out (fun k_ hk => (⟨hk, hk.2⟩ : _ ∧ k_ ≠ gb287))) (fun _ hk => hk.2) (.slice Ao19 t281.length co19)) (fun _ hk => hk.2) (.slice Ao21 t284.length co21)) (fun _ h_ => h_.1)))); (case side4 => exact (Kd.N_reads' HO286.out).2.1); rintro e w22 ⟨rfl, hb⟩; refine ⟨_, rfl, ?_⟩; have n0_ := Aside0.mk (Kd.N_below (by (with_reducible repeat (first | apply Kd.N_alloc | apply Kd.N_drewN | apply Kd.N_drew)); exact (Kd.N_mono (Kd.N_far (p := ⟨gb287, 1, none⟩) (Kd.N_far (p := ⟨gb287, 0, none⟩) (Kd.N_mono HO283.out (fun k_ hk => (⟨hk, hk.2⟩ : _ ∧ k_ ≠ gb287))) (fun _ hk => hk.2) (.slice Ao19 t281.length co19)) (fun _ hk => hk.2) (.slice Ao21 t284.length co21)) (fun _ h_ => h_.1))) hb); have n1_ := Aside0.mk (Kd.N_below (by (with_reducible repeat (first | apply Kd.N_alloc | apply Kd.N_drewN | apply Kd.N_drew)); exact (Kd.N_mono (Kd.N_far (p := ⟨gb287, 1, none⟩) (Kd.N_far (p := ⟨gb287, 0, none⟩) (Kd.N_mono HO286.out (fun k_ hk => (⟨hk, hk.2⟩ : _ ∧ k_ ≠ gb287))) (fun _ hk => hk.2) (.slice Ao19 t281.length co19)) (fun _ hk => hk.2) (.slice Ao21 t284.length co21)) (fun _ h_ => h_.1))) hb); have n2_ := Aside0.mk (blk_below (g := gb287) (o := .cells #[.slice Ao19 t281.length co19, .slice Ao21 t284.length co21] 25 (0, 0)) (by (with_reducible repeat (first | refine blk_drewN ?_ _ | refine blk_drew ?_ | refine blk_alloc ?_ _)); refine blk_put (cs := #[.slice Ao19 t281.length co19, .slice none 0 0]) ?_ 1 _ rfl; (with_reducible repeat (first | refine blk_drewN ?_ _ | refine blk_drew ?_ | refine blk_alloc ?_ _)); refine blk_put (cs := #[.slice none 0 0, .slice none 0 0]) ?_ 0 _ rfl; (with_reducible repeat (first | refine blk_drewN ?_ _ | refine blk_drew ?_ | refine blk_alloc ?_ _)); exact BK287.out) hb); have n3_ := Aside0.mk (below_step (by repeat (first | (with_reducible first | exact HB.out | apply below_alloc | apply pw_below_drewN | apply below_drew1 | refine below_set ?_ GE287.out) | exact HB.out)) hb); clear HO283; clear HO286; clear BK287; clear HB; have HO283 := n0_; have HO286 := n1_; have BK287 := n2_; have HB := n3_; clear n0_ n1_ n2_ n3_; (try clear hb); (try clear hb2); (try clear hk); (try clear hi); have hcz23_0 : w22.cell? ⟨gb287, 0, none⟩ = some (.slice Ao19 t281.length co19) := (blk_cell BK287.out 0).trans rfl; have hcz23_1 : w22.cell? ⟨gb287, 1, none⟩ = some (.slice Ao21 t284.length co21) := (blk_cell BK287.out 1).trans rfl; have hfz23_0 := blk_frozen BK287.out 0; have hfz23_1 := blk_frozen BK287.out 1) | ((with_reducible refine gate_callee (f := 17) rfl ?_); refine goesL_ (some 14) rfl rfl Try.func17 (by kernel_rfl) rfl #[.agg #[.slice Ao19 t281.length co19, .slice Ao21 t284.length co21]] rfl (by (try simp only [List.map_toArray, List.map_cons, List.map_nil]); first | done | rfl | (simp only [List.length_drop, List.length_take]; rfl)) ?_; (with_reducible refine (spec_PictureValid.calls k _ _ t281 _ _ t284 t289 _ ?side1 ?side2 ?side3 ?side4 A5.out).mono ?_); (case side1 => repeat (first | exact (Kd.N_reads' HO283.out).2.2 | (with_reducible refine Kd.C_alloc ?_ _) | (with_reducible refine Kd.C_drewN ?_ _) | (with_reducible refine Kd.C_drew ?_))); (case side2 => exact (Kd.N_reads' HO283.out).2.1); (case side3 => repeat (first | exact (Kd.N_reads' HO286.out).2.2 | (with_reducible refine Kd.C_alloc ?_ _) | (with_reducible refine Kd.C_drewN ?_ _) | (with_reducible refine Kd.C_drew ?_))); (case side4 => exact (Kd.N_reads' HO286.out).2.1); rintro e w24 ⟨rfl, hb⟩; refine ⟨_, rfl, ?_⟩; have n0_ := Aside0.mk (Kd.N_below (by (with_reducible repeat (first | apply Kd.N_alloc | apply Kd.N_drewN | apply Kd.N_drew)); exact HO283.out) hb); have n1_ := Aside0.mk (Kd.N_below (by (with_reducible repeat (first | apply Kd.N_alloc | apply Kd.N_drewN | apply Kd.N_drew)); exact HO286.out) hb); have n2_ := Aside0.mk (blk_below (g := gb287) (o := .cells #[.slice Ao19 t281.length co19, .slice Ao21 t284.length co21] 25 (0, 0)) (by (with_reducible repeat (first | refine blk_drewN ?_ _ | refine blk_drew ?_ | refine blk_alloc ?_ _)); exact BK287.out) hb); have n3_ := Aside0.mk (below_step (by repeat (first | (with_reducible first | exact HB.out | apply below_alloc | apply pw_below_drewN | apply below_drew1 | refine below_set ?_ GE287.out) | exact HB.out)) hb); clear HO283; clear HO286; clear BK287; clear HB; have HO283 := n0_; have HO286 := n1_; have BK287 := n2_; have HB := n3_; clear n0_ n1_ n2_ n3_; (try clear hb); (try clear hb2); (try clear hk); (try clear hi)))
    have n0_ := Aside0.mk (Kd.N_drew HO283.out)
    have n1_ := Aside0.mk (Kd.N_drew HO286.out)
    have n2_ := Aside0.mk (blk_drew BK287.out)
    have n3_ := Aside0.mk (below_drew1 HB.out)
    clear HO283
    clear HO286
    clear BK287
    clear HB
    have HO283 := n0_
    have HO286 := n1_
    have BK287 := n2_
    have HB := n3_
    clear n0_ n1_ n2_ n3_
    refine start_ (n := 23) (S := fun w' => w'.cell? ⟨gb287, 0, none⟩ = some (.slice Ao19 t281.length co19) ∧ w'.cell? ⟨gb287, 1, none⟩ = some (.slice Ao21 t284.length co21)) (ds := []) #[false, false, false, false, false, false, false, false, false, false, false, false, false, false, false, false, false, false, false, false, false, false, false] (by kernel_rfl) rfl rfl ⟨(blk_cell BK287.out 0).trans rfl, (blk_cell BK287.out 1).trans rfl⟩ (fun hHeld => ?_); refine with_tabW laws_FnPictureValid.tab7 laws_FnPictureValid.bits7 (fun HT_ HW_ => ?_)
    generalize w24.drew = w25 at HO283 HO286 BK287 HB hHeld ⊢
    refine pure_ (i := 0) (N := some 16) (v := ?_) (a' := ?_) #[true, false, false, false, false, false, false, false, false, false, false, false, false, false, false, false, false, false, false, false, false, false, false] rfl rfl (any_of HT_.out (by kernel_rfl)) (fun _ _ _ h => h) (Or.inl ⟨by rfl, ?_⟩) ?_ ?_
    rotate_left
    ·intro w'
     go_simp
     with_reducible rfl
    rotate_left
    ·simp only [Act.put, List.setIfInBounds_toArray, List.set_cons_zero, List.set_cons_succ, i64_w, i32_w]
     rfl
    refine take_ (i := 1) (N := some 17) (v := ?_) (a' := ?_) #[true, true, false, false, false, false, false, false, false, false, false, false, false, false, false, false, false, false, false, false, false, false, false] rfl rfl (take_ofW HT_.out HW_.out (by kernel_rfl)) (fun _ _ _ h => h) (Or.inl ⟨by rfl, ?_⟩) hHeld ?_ ?_
    rotate_left
    ·rintro w' ⟨s0, s1⟩
     go_simp
     with_reducible rfl
    rotate_left
    ·simp only [Act.put, List.setIfInBounds_toArray, List.set_cons_zero, List.set_cons_succ, i64_w, i32_w]
     rfl
    refine pure_ (i := 2) (N := some 18) (v := ?_) (a' := ?_) #[true, true, true, false, false, false, false, false, false, false, false, false, false, false, false, false, false, false, false, false, false, false, false] rfl rfl (any_of HT_.out (by kernel_rfl)) (fun _ _ _ h => h) (Or.inl ⟨by rfl, ?_⟩) ?_ ?_
    rotate_left
    ·intro w'
     go_simp
     with_reducible rfl
    rotate_left
    ·simp only [Act.put, List.setIfInBounds_toArray, List.set_cons_zero, List.set_cons_succ, i64_w, i32_w]
     rfl
    refine one_ (i := 3) (N := some 19) #[true, true, true, true, false, false, false, false, false, false, false, false, false, false, false, false, false, false, false, false, false, false, false] rfl rfl (one_of HT_.out (by kernel_rfl)) (by decide) (fun K hK => ?_)
    refine goes_ Try.func24 (by kernel_rfl) rfl #[.agg #[.slice none 0 0, .slice Ao21 t284.length co21]] (by rfl) rfl rfl (by (try simp only [List.map_toArray, List.map_cons, List.map_nil]); first | done | rfl | (simp only [List.length_drop, List.length_take]; rfl)) ?_
    refine (impl_PictureValid.calls k _ _ ([] : List (List Int)) _ _ t284 true _ ?side1 ?side2 ?side3 ?side4 A15.out).mono ?_
    (case side1 => exact Kd.C_nil _ _)
    (case side2 => exact Nat.le_refl _)
    (case side3 => repeat (first | exact (Kd.N_reads' HO286.out).2.2 | (with_reducible refine Kd.C_alloc ?_ _) | (with_reducible refine Kd.C_drewN ?_ _) | (with_reducible refine Kd.C_drew ?_)))
    (case side4 => exact (Kd.N_reads' HO286.out).2.1)
    rintro e w26 ⟨rfl, hb⟩
    refine ⟨_, rfl, ?_⟩
    have n0_ := Aside0.mk (Kd.N_below (by (with_reducible repeat (first | apply Kd.N_alloc | apply Kd.N_drewN | apply Kd.N_drew)); exact HO283.out) hb)
    have n1_ := Aside0.mk (Kd.N_below (by (with_reducible repeat (first | apply Kd.N_alloc | apply Kd.N_drewN | apply Kd.N_drew)); exact HO286.out) hb)
    have n2_ := Aside0.mk (blk_below (g := gb287) (o := .cells #[.slice Ao19 t281.length co19, .slice Ao21 t284.length co21] 25 (0, 0)) (by (with_reducible repeat (first | refine blk_drewN ?_ _ | refine blk_drew ?_ | refine blk_alloc ?_ _)); exact BK287.out) hb)
    have n3_ := Aside0.mk (below_step (by repeat (first | (with_reducible first | exact HB.out | apply below_alloc | apply pw_below_drewN | apply below_drew1 | refine below_set ?_ GE287.out) | exact HB.out)) hb)
    clear HO283
    clear HO286
    clear BK287
    clear HB
    have HO283 := n0_
    have HO286 := n1_
    have BK287 := n2_
    have HB := n3_
    clear n0_ n1_ n2_ n3_
    (try clear hb)
    (try clear hb2)
    (try clear hk)
    (try clear hi)
    refine hK.out _ _ ⟨(blk_cell BK287.out 0).trans rfl, (blk_cell BK287.out 1).trans rfl⟩ (fun hHeld => ?_)
    clear hK K
    refine norm_ (a' := ?_) ?_ ?_
    rotate_left
    ·show Act.put _ (some 19) _ = _
     simp only [Act.put, List.setIfInBounds_toArray, List.set_cons_zero, List.set_cons_succ, i64_w, i32_w]
     rfl
    refine pure_ (i := 4) (N := some 20) (v := ?_) (a' := ?_) #[true, true, true, true, true, false, false, false, false, false, false, false, false, false, false, false, false, false, false, false, false, false, false] rfl rfl (any_of HT_.out (by kernel_rfl)) (fun _ _ _ h => h) (Or.inl ⟨by rfl, ?_⟩) ?_ ?_
    rotate_left
    ·intro w'
     go_simp
     with_reducible rfl
    rotate_left
    ·simp only [Act.put, List.setIfInBounds_toArray, List.set_cons_zero, List.set_cons_succ, i64_w, i32_w]
     rfl
    refine pure_ (i := 5) (N := some 21) (v := ?_) (a' := ?_) #[true, true, true, true, true, true, false, false, false, false, false, false, false, false, false, false, false, false, false, false, false, false, false] rfl rfl (any_of HT_.out (by kernel_rfl)) (fun _ _ _ h => h) (Or.inl ⟨by rfl, ?_⟩) ?_ ?_
    rotate_left
    ·intro w'
     go_simp
     with_reducible rfl
    rotate_left
    ·simp only [Act.put, List.setIfInBounds_toArray, List.set_cons_zero, List.set_cons_succ, i64_w, i32_w]
     rfl
    refine pure_ (i := 6) (N := some 22) (v := undef) (a' := ?_) #[true, true, true, true, true, true, true, false, false, false, false, false, false, false, false, false, false, false, false, false, false, false, false] rfl rfl (any_of HT_.out (by kernel_rfl)) (fun _ _ _ h => h) (Or.inr ⟨by rfl, rfl⟩) ?_ ?_
    rotate_left
    ·simp only [Act.put, List.setIfInBounds_toArray, List.set_cons_zero, List.set_cons_succ, i64_w, i32_w]
     rfl
    refine pure_ (i := 7) (N := some 23) (v := undef) (a' := ?_) #[true, true, true, true, true, true, true, true, false, false, false, false, false, false, false, false, false, false, false, false, false, false, false] rfl rfl (any_of HT_.out (by kernel_rfl)) (fun _ _ _ h => h) (Or.inr ⟨by rfl, rfl⟩) ?_ ?_
    rotate_left
    ·simp only [Act.put, List.setIfInBounds_toArray, List.set_cons_zero, List.set_cons_succ, i64_w, i32_w]
     rfl
    refine pure_ (i := 8) (N := some 24) (v := undef) (a' := ?_) #[true, true, true, true, true, true, true, true, true, false, false, false, false, false, false, false, false, false, false, false, false, false, false] rfl rfl (any_of HT_.out (by kernel_rfl)) (fun _ _ _ h => h) (Or.inr ⟨by rfl, rfl⟩) ?_ ?_
    rotate_left
    ·simp only [Act.put, List.setIfInBounds_toArray, List.set_cons_zero, List.set_cons_succ, i64_w, i32_w]
     rfl
    refine pure_ (i := 9) (N := some 25) (v := undef) (a' := ?_) #[true, true, true, true, true, true, true, true, true, true, false, false, false, false, false, false, false, false, false, false, false, false, false] rfl rfl (any_of HT_.out (by kernel_rfl)) (fun _ _ _ h => h) (Or.inr ⟨by rfl, rfl⟩) ?_ ?_
    rotate_left
    ·simp only [Act.put, List.setIfInBounds_toArray, List.set_cons_zero, List.set_cons_succ, i64_w, i32_w]
     rfl
    refine pure_ (i := 10) (N := some 26) (v := undef) (a' := ?_) #[true, true, true, true, true, true, true, true, true, true, true, false, false, false, false, false, false, false, false, false, false, false, false] rfl rfl (any_of HT_.out (by kernel_rfl)) (fun _ _ _ h => h) (Or.inr ⟨by rfl, rfl⟩) ?_ ?_
    rotate_left
    ·simp only [Act.put, List.setIfInBounds_toArray, List.set_cons_zero, List.set_cons_succ, i64_w, i32_w]
     rfl
    refine pure_ (i := 11) (N := some 27) (v := undef) (a' := ?_) #[true, true, true, true, true, true, true, true, true, true, true, true, false, false, false, false, false, false, false, false, false, false, false] rfl rfl (any_of HT_.out (by kernel_rfl)) (fun _ _ _ h => h) (Or.inr ⟨by rfl, rfl⟩) ?_ ?_
    rotate_left
    ·simp only [Act.put, List.setIfInBounds_toArray, List.set_cons_zero, List.set_cons_succ, i64_w, i32_w]
     rfl
    refine pure_ (i := 12) (N := some 28) (v := undef) (a' := ?_) #[true, true, true, true, true, true, true, true, true, true, true, true, true, false, false, false, false, false, false, false, false, false, false] rfl rfl (any_of HT_.out (by kernel_rfl)) (fun _ _ _ h => h) (Or.inr ⟨by rfl, rfl⟩) ?_ ?_
    rotate_left
    ·simp only [Act.put, List.setIfInBounds_toArray, List.set_cons_zero, List.set_cons_succ, i64_w, i32_w]
     rfl
    refine pure_ (i := 13) (N := some 29) (v := undef) (a' := ?_) #[true, true, true, true, true, true, true, true, true, true, true, true, true, true, false, false, false, false, false, false, false, false, false] rfl rfl (any_of HT_.out (by kernel_rfl)) (fun _ _ _ h => h) (Or.inr ⟨by rfl, rfl⟩) ?_ ?_
    rotate_left
    ·simp only [Act.put, List.setIfInBounds_toArray, List.set_cons_zero, List.set_cons_succ, i64_w, i32_w]
     rfl
    refine pure_ (i := 14) (N := some 30) (v := undef) (a' := ?_) #[true, true, true, true, true, true, true, true, true, true, true, true, true, true, true, false, false, false, false, false, false, false, false] rfl rfl (any_of HT_.out (by kernel_rfl)) (fun _ _ _ h => h) (Or.inr ⟨by rfl, rfl⟩) ?_ ?_
    rotate_left
    ·simp only [Act.put, List.setIfInBounds_toArray, List.set_cons_zero, List.set_cons_succ, i64_w, i32_w]
     rfl
    refine pure_ (i := 15) (N := some 31) (v := undef) (a' := ?_) #[true, true, true, true, true, true, true, true, true, true, true, true, true, true, true, true, false, false, false, false, false, false, false] rfl rfl (any_of HT_.out (by kernel_rfl)) (fun _ _ _ h => h) (Or.inr ⟨by rfl, rfl⟩) ?_ ?_
    rotate_left
    ·simp only [Act.put, List.setIfInBounds_toArray, List.set_cons_zero, List.set_cons_succ, i64_w, i32_w]
     rfl
    refine pure_ (i := 16) (N := some 32) (v := undef) (a' := ?_) #[true, true, true, true, true, true, true, true, true, true, true, true, true, true, true, true, true, false, false, false, false, false, false] rfl rfl (any_of HT_.out (by kernel_rfl)) (fun _ _ _ h => h) (Or.inr ⟨by rfl, rfl⟩) ?_ ?_
    rotate_left
    ·simp only [Act.put, List.setIfInBounds_toArray, List.set_cons_zero, List.set_cons_succ, i64_w, i32_w]
     rfl
    refine pure_ (i := 17) (N := some 33) (v := undef) (a' := ?_) #[true, true, true, true, true, true, true, true, true, true, true, true, true, true, true, true, true, true, false, false, false, false, false] rfl rfl (any_of HT_.out (by kernel_rfl)) (fun _ _ _ h => h) (Or.inr ⟨by rfl, rfl⟩) ?_ ?_
    rotate_left
    ·simp only [Act.put, List.setIfInBounds_toArray, List.set_cons_zero, List.set_cons_succ, i64_w, i32_w]
     rfl
    refine pure_ (i := 18) (N := some 34) (v := ?_) (a' := ?_) #[true, true, true, true, true, true, true, true, true, true, true, true, true, true, true, true, true, true, true, false, false, false, false] rfl rfl (any_of HT_.out (by kernel_rfl)) (fun _ _ _ h => h) (Or.inl ⟨by rfl, ?_⟩) ?_ ?_
    rotate_left
    ·intro w'
     go_simp
     with_reducible rfl
    rotate_left
    ·simp only [Act.put, List.setIfInBounds_toArray, List.set_cons_zero, List.set_cons_succ, i64_w, i32_w]
     rfl
    refine pure_ (i := 19) (N := some 35) (v := ?_) (a' := ?_) #[true, true, true, true, true, true, true, true, true, true, true, true, true, true, true, true, true, true, true, true, false, false, false] rfl rfl (any_of HT_.out (by kernel_rfl)) (fun _ _ _ h => h) (Or.inl ⟨by rfl, ?_⟩) ?_ ?_
    rotate_left
    ·intro w'
     go_simp
     with_reducible rfl
    rotate_left
    ·simp only [Act.put, List.setIfInBounds_toArray, List.set_cons_zero, List.set_cons_succ, i64_w, i32_w]
     rfl
    refine pure_ (i := 20) (N := some 36) (v := undef) (a' := ?_) #[true, true, true, true, true, true, true, true, true, true, true, true, true, true, true, true, true, true, true, true, true, false, false] rfl rfl (any_of HT_.out (by kernel_rfl)) (fun _ _ _ h => h) (Or.inr ⟨by rfl, rfl⟩) ?_ ?_
    rotate_left
    ·simp only [Act.put, List.setIfInBounds_toArray, List.set_cons_zero, List.set_cons_succ, i64_w, i32_w]
     rfl
    refine pure_ (i := 21) (N := some 37) (v := ?_) (a' := ?_) #[true, true, true, true, true, true, true, true, true, true, true, true, true, true, true, true, true, true, true, true, true, true, false] rfl rfl (any_of HT_.out (by kernel_rfl)) (fun _ _ _ h => h) (Or.inl ⟨by rfl, ?_⟩) ?_ ?_
    rotate_left
    ·intro w'
     go_simp
     with_reducible rfl
    rotate_left
    ·simp only [Act.put, List.setIfInBounds_toArray, List.set_cons_zero, List.set_cons_succ, i64_w, i32_w]
     rfl
    refine pure_ (i := 22) (N := some 2) (v := ?_) (a' := ?_) #[true, true, true, true, true, true, true, true, true, true, true, true, true, true, true, true, true, true, true, true, true, true, true] rfl rfl (any_of HT_.out (by kernel_rfl)) (fun _ _ _ h => h) (Or.inl ⟨by rfl, ?_⟩) ?_ ?_
    rotate_left
    ·intro w'
     go_simp
     with_reducible rfl
    rotate_left
    ·simp only [Act.put, List.setIfInBounds_toArray, List.set_cons_zero, List.set_cons_succ, i64_w, i32_w]
     rfl
    refine done_ (done_of HT_.out (by kernel_rfl)) ?_
    try go_wp2
    go_ret
    exact ⟨by first | rfl | (simp [errW_none, errW_some] <;> rfl) | (simp [*, errW_none, errW_some] <;> rfl), by repeat (first | (with_reducible first | exact HB.out | apply below_alloc | apply pw_below_drewN | apply below_drew1 | refine below_set ?_ GE287.out) | exact HB.out)⟩
   ·replace c16 := Bool.eq_false_iff.mpr c16
    subst c16
    have H1 : ((some (([] : List (List Int)) : List (List Int))).bind fun y291 => (if y291.length + t281.length < 5864062014805 then ((some (y291 ++ t281 : List (List Int))).bind fun y294 => ((some (([(([6] : List Int))] : List (List Int)) : List (List Int))).bind fun y300 => (if y294.length + y300.length < 5864062014805 then ((impl_PictureValid.f k (y294 ++ y300) t284).bind fun t306 => (if t306 = true then (some false) else ((laws_alive.f k).bind fun t307 => (some t307)))) else (none)))) else (none))) = some r := by rw [if_neg (show ¬ (false = true) by decide)] at H; exact H
    clear H
    have H := H1
    clear H1
    obtain ⟨y291, hy291⟩ : ∃ y_ : List (List Int), y_ = (([] : List (List Int))) := ⟨_, rfl⟩
    replace H : (if y291.length + t281.length < 5864062014805 then ((some (y291 ++ t281 : List (List Int))).bind fun y294 => ((some (([(([6] : List Int))] : List (List Int)) : List (List Int))).bind fun y300 => (if y294.length + y300.length < 5864062014805 then ((impl_PictureValid.f k (y294 ++ y300) t284).bind fun t306 => (if t306 = true then (some false) else ((laws_alive.f k).bind fun t307 => (some t307)))) else (none)))) else (none)) = some r := by first | (rw [hy291]; with_reducible exact H) | (have H2_ := (Option.bind_some _ _).symm.trans H; rw [hy291]; with_reducible exact H2_) | (have H2_ := (Option.bind_some _ _).symm.trans H; with_reducible exact H2_) | with_reducible exact H | (rw [hy291]; exact H) | exact H
    have Ny291 := Aside0.mk hy291
    clear hy291
    by_cases c27 : y291.length + t281.length < 5864062014805
    ·rw [if_pos c27] at H
     have LMc27 := Aside0.mk c27
     clear c27
     obtain ⟨y294, hy294⟩ : ∃ y_ : List (List Int), y_ = (y291 ++ t281) := ⟨_, rfl⟩
     replace H : ((some (([(([6] : List Int))] : List (List Int)) : List (List Int))).bind fun y300 => (if y294.length + y300.length < 5864062014805 then ((impl_PictureValid.f k (y294 ++ y300) t284).bind fun t306 => (if t306 = true then (some false) else ((laws_alive.f k).bind fun t307 => (some t307)))) else (none))) = some r := by first | (rw [hy294]; with_reducible exact H) | (have H2_ := (Option.bind_some _ _).symm.trans H; rw [hy294]; with_reducible exact H2_) | (have H2_ := (Option.bind_some _ _).symm.trans H; with_reducible exact H2_) | with_reducible exact H | (rw [hy294]; exact H) | exact H
     have Ny294 := Aside0.mk hy294
     clear hy294
     obtain ⟨y297, hy297⟩ : ∃ y_ : List Int, y_ = (([6] : List Int)) := ⟨_, rfl⟩
     replace H : ((some (([y297] : List (List Int)) : List (List Int))).bind fun y300 => (if y294.length + y300.length < 5864062014805 then ((impl_PictureValid.f k (y294 ++ y300) t284).bind fun t306 => (if t306 = true then (some false) else ((laws_alive.f k).bind fun t307 => (some t307)))) else (none))) = some r := by first | (rw [hy297]; with_reducible exact H) | (have H2_ := (Option.bind_some _ _).symm.trans H; rw [hy297]; with_reducible exact H2_) | (have H2_ := (Option.bind_some _ _).symm.trans H; with_reducible exact H2_) | with_reducible exact H | (rw [hy297]; exact H) | exact H
     have Ny297 := Aside0.mk hy297
     clear hy297
     obtain ⟨y300, hy300⟩ : ∃ y_ : List (List Int), y_ = (([y297] : List (List Int))) := ⟨_, rfl⟩
     replace H : (if y294.length + y300.length < 5864062014805 then ((impl_PictureValid.f k (y294 ++ y300) t284).bind fun t306 => (if t306 = true then (some false) else ((laws_alive.f k).bind fun t307 => (some t307)))) else (none)) = some r := by first | (rw [hy300]; with_reducible exact H) | (have H2_ := (Option.bind_some _ _).symm.trans H; rw [hy300]; with_reducible exact H2_) | (have H2_ := (Option.bind_some _ _).symm.trans H; with_reducible exact H2_) | with_reducible exact H | (rw [hy300]; exact H) | exact H
     have Ny300 := Aside0.mk hy300
     clear hy300
     by_cases c28 : y294.length + y300.length < 5864062014805
     ·rw [if_pos c28] at H
      have LMc28 := Aside0.mk c28
      clear c28
      obtain ⟨y303, hy303⟩ : ∃ y_ : List (List Int), y_ = (y294 ++ y300) := ⟨_, rfl⟩
      replace H : ((impl_PictureValid.f k y303 t284).bind fun t306 => (if t306 = true then (some false) else ((laws_alive.f k).bind fun t307 => (some t307)))) = some r := by first | (rw [hy303]; with_reducible exact H) | (have H2_ := (Option.bind_some _ _).symm.trans H; rw [hy303]; with_reducible exact H2_) | (have H2_ := (Option.bind_some _ _).symm.trans H; with_reducible exact H2_) | with_reducible exact H | (rw [hy303]; exact H) | exact H
      have Ny303 := Aside0.mk hy303
      clear hy303
      replace H := Option.bind_eq_some_iff.mp H
      obtain ⟨t306, A290, H⟩ := H
      replace H : (if t306 = true then (some false) else ((laws_alive.f k).bind fun t307 => (some t307))) = some r := H
      have A29 := Aside0.mk A290
      clear A290
      by_cases c30 : t306 = true
      ·subst c30
       have H1 : (some false) = some r := by rw [if_pos rfl] at H; exact H
       clear H
       have H := H1
       clear H1
       obtain rfl := Option.some.inj H
       go_enter Try.func5, Try.ntmps5
       try go_wp2_with (first | ((with_reducible refine gate_callee (f := 26) rfl ?_); refine goesL_ (some 9) rfl rfl Try.func26 (by kernel_rfl) rfl #[.slice A0 l0.length c0] rfl (by (try simp only [List.map_toArray, List.map_cons, List.map_nil]); first | done | rfl | (simp only [List.length_drop, List.length_take]; rfl)) ?_; (with_reducible refine (spec_DrawPictureValid.calls k _ _ l0 t281 t284 _ ?side1 ?side2 A3.out).mono ?_); (case side1 => repeat (first | exact HR0.out | (with_reducible refine Kd.C_alloc ?_ _) | (with_reducible refine Kd.C_drewN ?_ _) | (with_reducible refine Kd.C_drew ?_))); (case side2 => exact HC0.out); rintro e w31 ⟨v282, v285, rfl, ho0, ho1, hb⟩; refine ⟨_, rfl, ?_⟩; have n0_ := Aside0.mk (Kd.N_lower (Kd.N_mono (ok' := fun k_ => some k_ ≠ (v285 : Value).ownBlock) ho0 (fun k_ hk_ => hk_.2)) (below_size (by repeat (first | (with_reducible first | exact HB.out | apply below_alloc | apply pw_below_drewN | apply below_drew1) | exact HB.out)))); have n1_ := Aside0.mk (Kd.N_lower (Kd.N_mono (ok' := fun k_ => some k_ ≠ (v282 : Value).ownBlock) ho1 (fun k_ hk_ => hk_.2)) (below_size (by repeat (first | (with_reducible first | exact HB.out | apply below_alloc | apply pw_below_drewN | apply below_drew1) | exact HB.out)))); have n2_ := Aside0.mk (below_step (by repeat (first | (with_reducible first | exact HB.out | apply below_alloc | apply pw_below_drewN | apply below_drew1) | exact HB.out)) hb); clear HB; have HO283 := n0_; have HO286 := n1_; have HB := n2_; clear n0_ n1_ n2_; (try clear hb); (try clear hb2); (try clear hk); (try clear hi); (try clear ho0); (try clear ho1)) | ((with_reducible refine gate_dst (N := 3) rfl ?_); (try (refine gate_guard (by rfl) ?_; dsimp only)); refine box_event ?hg (N := 3) ?hd (cs := #[.slice none 0 0, .slice none 0 0]) (t := 25) ?hr ?_; (case hd => rfl); (case hg => rfl); (case hr => first | (go_simp; done) | (go_simp; rfl)); intro gb287 hg w32 hbox hb; have n0_ := Aside0.mk (Kd.N_below (Kd.N_elderB (by (with_reducible repeat (first | apply Kd.N_alloc | apply Kd.N_drewN | apply Kd.N_drew)); exact HO283.out) gb287 (Nat.le_of_eq hg.symm)) hb); have n1_ := Aside0.mk (Kd.N_below (Kd.N_elderB (by (with_reducible repeat (first | apply Kd.N_alloc | apply Kd.N_drewN | apply Kd.N_drew)); exact HO286.out) gb287 (Nat.le_of_eq hg.symm)) hb); have n2_ := Aside0.mk (below_step (by repeat (first | (with_reducible first | exact HB.out | apply below_alloc | apply pw_below_drewN | apply below_drew1) | exact HB.out)) hb); have n3_ := Aside0.mk (hbox); have n4_ := Aside0.mk ((by rw [hg]; exact (below_size (by repeat (first | (with_reducible first | exact HB.out | apply below_alloc | apply pw_below_drewN | apply below_drew1) | exact HB.out))) : w.heap.size ≤ gb287)); have n5_ := Aside0.mk ((by rw [hg]; exact (below_size (by repeat (first | (with_reducible first | exact HB.out | apply below_alloc | apply pw_below_drewN | apply below_drew1) | exact HB.out))) : w.heap.size ≤ gb287)); clear HO283; clear HO286; clear HB; have HO283 := n0_; have HO286 := n1_; have HB := n2_; have BK287 := n3_; have GW287 := n4_; have GE287 := n5_; clear n0_ n1_ n2_ n3_ n4_ n5_; clear hb hbox hg; obtain ⟨Ao33, co33, eo33⟩ := Kd.N_slice HO283.out; subst eo33; have hcz34_0 : w32.cell? ⟨gb287, 0, none⟩ = some (.slice none 0 0) := (blk_cell BK287.out 0).trans rfl; have hcz34_1 : w32.cell? ⟨gb287, 1, none⟩ = some (.slice none 0 0) := (blk_cell BK287.out 1).trans rfl; have hfz34_0 := blk_frozen BK287.out 0; have hfz34_1 := blk_frozen BK287.out 1; obtain ⟨Ao35, co35, eo35⟩ := Kd.N_slice HO286.out; subst eo35) | ((with_reducible refine gate_callee (f := 24) rfl ?_); refine goesL_ (some 11) rfl rfl Try.func24 (by kernel_rfl) rfl #[.agg #[.slice Ao33 t281.length co33, .slice Ao35 t284.length co35]] rfl (by (try simp only [List.map_toArray, List.map_cons, List.map_nil]); first | done | rfl | (simp only [List.length_drop, List.length_take]; rfl)) ?_; (with_reducible refine (impl_PictureValid.calls k _ _ t281 _ _ t284 t288 _ ?side1 ?side2 ?side3 ?side4 A4.out).mono ?_); (case side1 => refine (Kd.N_reads' (e := 36) (base := w.heap.size) (ok := fun k_ => (some k_ ≠ (.slice Ao35 t284.length co35 : Value).ownBlock ∧ k_ ≠ gb287)) (n := t281.length) (c := co33) ?_).2.2; exact (by (with_reducible repeat (first | apply Kd.N_alloc | apply Kd.N_drewN | apply Kd.N_drew)); exact (Kd.N_mono (Kd.N_far (p := ⟨gb287, 1, none⟩) (Kd.N_far (p := ⟨gb287, 0, none⟩) (Kd.N_mono HO283.out (fun k_ hk => (⟨hk, hk.2⟩ : _ ∧ k_ ≠ gb287))) (fun _ hk => hk.2) (.slice Ao33 t281.length co33)) (fun _ hk => hk.2) (.slice Ao35 t284.length co35)) (fun _ h_ => h_.1)))); (case side2 => exact (Kd.N_reads' HO283.out).2.1); (case side3 => refine (Kd.N_reads' (e := 36) (base := w.heap.size) (ok := fun k_ => (some k_ ≠ (.slice Ao33 t281.length co33 : Value).ownBlock ∧ k_ ≠ gb287)) (n := t284.length) (c := co35) ?_).2.2; exact (by (with_reducible repeat (first | apply Kd.N_alloc | apply Kd.N_drewN | apply Kd.N_drew)); exact (Kd.N_mono (Kd.N_far (p := ⟨gb287, 1, none⟩) (Kd.N_far (p := ⟨gb287, 0, none⟩) (Kd.N_mono HO286.out (fun k_ hk => (⟨hk, hk.2⟩ : _ ∧ k_ ≠ gb287))) (fun _ hk => hk.2) (.slice Ao33 t281.length co33)) (fun _ hk => hk.2) (.slice Ao35 t284.length co35)) (fun _ h_ => h_.1)))); (case side4 => exact (Kd.N_reads' HO286.out).2.1); rintro e w36 ⟨rfl, hb⟩; refine ⟨_, rfl, ?_⟩; have n0_ := Aside0.mk (Kd.N_below (by (with_reducible repeat (first | apply Kd.N_alloc | apply Kd.N_drewN | apply Kd.N_drew)); exact (Kd.N_mono (Kd.N_far (p := ⟨gb287, 1, none⟩) (Kd.N_far (p := ⟨gb287, 0, none⟩) (Kd.N_mono HO283.out (fun k_ hk => (⟨hk, hk.2⟩ : _ ∧ k_ ≠ gb287))) (fun _ hk => hk.2) (.slice Ao33 t281.length co33)) (fun _ hk => hk.2) (.slice Ao35 t284.length co35)) (fun _ h_ => h_.1))) hb); have n1_ := Aside0.mk (Kd.N_below (by (with_reducible repeat (first | apply Kd.N_alloc | apply Kd.N_drewN | apply Kd.N_drew)); exact (Kd.N_mono (Kd.N_far (p := ⟨gb287, 1, none⟩) (Kd.N_far (p := ⟨gb287, 0, none⟩) (Kd.N_mono HO286.out (fun k_ hk => (⟨hk, hk.2⟩ : _ ∧ k_ ≠ gb287))) (fun _ hk => hk.2) (.slice Ao33 t281.length co33)) (fun _ hk => hk.2) (.slice Ao35 t284.length co35)) (fun _ h_ => h_.1))) hb); have n2_ := Aside0.mk (blk_below (g := gb287) (o := .cells #[.slice Ao33 t281.length co33, .slice Ao35 t284.length co35] 25 (0, 0)) (by (with_reducible repeat (first | refine blk_drewN ?_ _ | refine blk_drew ?_ | refine blk_alloc ?_ _)); refine blk_put (cs := #[.slice Ao33 t281.length co33, .slice none 0 0]) ?_ 1 _ rfl; (with_reducible repeat (first | refine blk_drewN ?_ _ | refine blk_drew ?_ | refine blk_alloc ?_ _)); refine blk_put (cs := #[.slice none 0 0, .slice none 0 0]) ?_ 0 _ rfl; (with_reducible repeat (first | refine blk_drewN ?_ _ | refine blk_drew ?_ | refine blk_alloc ?_ _)); exact BK287.out) hb); have n3_ := Aside0.mk (below_step (by repeat (first | (with_reducible first | exact HB.out | apply below_alloc | apply pw_below_drewN | apply below_drew1 | refine below_set ?_ GE287.out) | exact HB.out)) hb); clear HO283; clear HO286; clear BK287; clear HB; have HO283 := n0_; have HO286 := n1_; have BK287 := n2_; have HB := n3_; clear n0_ n1_ n2_ n3_; (try clear hb); (try clear hb2); (try clear hk); (try clear hi); have hcz37_0 : w36.cell? ⟨gb287, 0, none⟩ = some (.slice Ao33 t281.length co33) := (blk_cell BK287.out 0).trans rfl; have hcz37_1 : w36.cell? ⟨gb287, 1, none⟩ = some (.slice Ao35 t284.length co35) := (blk_cell BK287.out 1).trans rfl; have hfz37_0 := blk_frozen BK287.out 0; have hfz37_1 := blk_frozen BK287.out 1) | ((with_reducible refine gate_callee (f := 17) rfl ?_); refine goesL_ (some 14) rfl rfl Try.func17 (by kernel_rfl) rfl #[.agg #[.slice Ao33 t281.length co33, .slice Ao35 t284.length co35]] rfl (by (try simp only [List.map_toArray, List.map_cons, List.map_nil]); first | done | rfl | (simp only [List.length_drop, List.length_take]; rfl)) ?_; (with_reducible refine (spec_PictureValid.calls k _ _ t281 _ _ t284 t289 _ ?side1 ?side2 ?side3 ?side4 A5.out).mono ?_); (case side1 => repeat (first | exact (Kd.N_reads' HO283.out).2.2 | (with_reducible refine Kd.C_alloc ?_ _) | (with_reducible refine Kd.C_drewN ?_ _) | (with_reducible refine Kd.C_drew ?_))); (case side2 => exact (Kd.N_reads' HO283.out).2.1); (case side3 => repeat (first | exact (Kd.N_reads' HO286.out).2.2 | (with_reducible refine Kd.C_alloc ?_ _) | (with_reducible refine Kd.C_drewN ?_ _) | (with_reducible refine Kd.C_drew ?_))); (case side4 => exact (Kd.N_reads' HO286.out).2.1); rintro e w38 ⟨rfl, hb⟩; refine ⟨_, rfl, ?_⟩; have n0_ := Aside0.mk (Kd.N_below (by (with_reducible repeat (first | apply Kd.N_alloc | apply Kd.N_drewN | apply Kd.N_drew)); exact HO283.out) hb); have n1_ := Aside0.mk (Kd.N_below (by (with_reducible repeat (first | apply Kd.N_alloc | apply Kd.N_drewN | apply Kd.N_drew)); exact HO286.out) hb); have n2_ := Aside0.mk (blk_below (g := gb287) (o := .cells #[.slice Ao33 t281.length co33, .slice Ao35 t284.length co35] 25 (0, 0)) (by (with_reducible repeat (first | refine blk_drewN ?_ _ | refine blk_drew ?_ | refine blk_alloc ?_ _)); exact BK287.out) hb); have n3_ := Aside0.mk (below_step (by repeat (first | (with_reducible first | exact HB.out | apply below_alloc | apply pw_below_drewN | apply below_drew1 | refine below_set ?_ GE287.out) | exact HB.out)) hb); clear HO283; clear HO286; clear BK287; clear HB; have HO283 := n0_; have HO286 := n1_; have BK287 := n2_; have HB := n3_; clear n0_ n1_ n2_ n3_; (try clear hb); (try clear hb2); (try clear hk); (try clear hi)))
       have n0_ := Aside0.mk (Kd.N_drew HO283.out)
       have n1_ := Aside0.mk (Kd.N_drew HO286.out)
       have n2_ := Aside0.mk (blk_drew BK287.out)
       have n3_ := Aside0.mk (below_drew1 HB.out)
       clear HO283
       clear HO286
       clear BK287
       clear HB
       have HO283 := n0_
       have HO286 := n1_
       have BK287 := n2_
       have HB := n3_
       clear n0_ n1_ n2_ n3_
       refine start_ (n := 23) (S := fun w' => w'.cell? ⟨gb287, 0, none⟩ = some (.slice Ao33 t281.length co33) ∧ w'.cell? ⟨gb287, 1, none⟩ = some (.slice Ao35 t284.length co35)) (ds := []) #[false, false, false, false, false, false, false, false, false, false, false, false, false, false, false, false, false, false, false, false, false, false, false] (by kernel_rfl) rfl rfl ⟨(blk_cell BK287.out 0).trans rfl, (blk_cell BK287.out 1).trans rfl⟩ (fun hHeld => ?_); refine with_tabW laws_FnPictureValid.tab7 laws_FnPictureValid.bits7 (fun HT_ HW_ => ?_)
       generalize w38.drew = w39 at HO283 HO286 BK287 HB hHeld ⊢
       refine pure_ (i := 0) (N := some 16) (v := ?_) (a' := ?_) #[true, false, false, false, false, false, false, false, false, false, false, false, false, false, false, false, false, false, false, false, false, false, false] rfl rfl (any_of HT_.out (by kernel_rfl)) (fun _ _ _ h => h) (Or.inl ⟨by rfl, ?_⟩) ?_ ?_
       rotate_left
       ·intro w'
        go_simp
        with_reducible rfl
       rotate_left
       ·simp only [Act.put, List.setIfInBounds_toArray, List.set_cons_zero, List.set_cons_succ, i64_w, i32_w]
        rfl
       refine take_ (i := 1) (N := some 17) (v := ?_) (a' := ?_) #[true, true, false, false, false, false, false, false, false, false, false, false, false, false, false, false, false, false, false, false, false, false, false] rfl rfl (take_ofW HT_.out HW_.out (by kernel_rfl)) (fun _ _ _ h => h) (Or.inl ⟨by rfl, ?_⟩) hHeld ?_ ?_
       rotate_left
       ·rintro w' ⟨s0, s1⟩
        go_simp
        with_reducible rfl
       rotate_left
       ·simp only [Act.put, List.setIfInBounds_toArray, List.set_cons_zero, List.set_cons_succ, i64_w, i32_w]
        rfl
       refine pure_ (i := 2) (N := some 18) (v := ?_) (a' := ?_) #[true, true, true, false, false, false, false, false, false, false, false, false, false, false, false, false, false, false, false, false, false, false, false] rfl rfl (any_of HT_.out (by kernel_rfl)) (fun _ _ _ h => h) (Or.inl ⟨by rfl, ?_⟩) ?_ ?_
       rotate_left
       ·intro w'
        go_simp
        with_reducible rfl
       rotate_left
       ·simp only [Act.put, List.setIfInBounds_toArray, List.set_cons_zero, List.set_cons_succ, i64_w, i32_w]
        rfl
       refine one_ (i := 3) (N := some 19) #[true, true, true, true, false, false, false, false, false, false, false, false, false, false, false, false, false, false, false, false, false, false, false] rfl rfl (one_of HT_.out (by kernel_rfl)) (by decide) (fun K hK => ?_)
       refine goes_ Try.func24 (by kernel_rfl) rfl #[.agg #[.slice none 0 0, .slice Ao35 t284.length co35]] (by rfl) rfl rfl (by (try simp only [List.map_toArray, List.map_cons, List.map_nil]); first | done | rfl | (simp only [List.length_drop, List.length_take]; rfl)) ?_
       refine (impl_PictureValid.calls k _ _ ([] : List (List Int)) _ _ t284 false _ ?side1 ?side2 ?side3 ?side4 A15.out).mono ?_
       (case side1 => exact Kd.C_nil _ _)
       (case side2 => exact Nat.le_refl _)
       (case side3 => repeat (first | exact (Kd.N_reads' HO286.out).2.2 | (with_reducible refine Kd.C_alloc ?_ _) | (with_reducible refine Kd.C_drewN ?_ _) | (with_reducible refine Kd.C_drew ?_)))
       (case side4 => exact (Kd.N_reads' HO286.out).2.1)
       rintro e w40 ⟨rfl, hb⟩
       refine ⟨_, rfl, ?_⟩
       have n0_ := Aside0.mk (Kd.N_below (by (with_reducible repeat (first | apply Kd.N_alloc | apply Kd.N_drewN | apply Kd.N_drew)); exact HO283.out) hb)
       have n1_ := Aside0.mk (Kd.N_below (by (with_reducible repeat (first | apply Kd.N_alloc | apply Kd.N_drewN | apply Kd.N_drew)); exact HO286.out) hb)
       have n2_ := Aside0.mk (blk_below (g := gb287) (o := .cells #[.slice Ao33 t281.length co33, .slice Ao35 t284.length co35] 25 (0, 0)) (by (with_reducible repeat (first | refine blk_drewN ?_ _ | refine blk_drew ?_ | refine blk_alloc ?_ _)); exact BK287.out) hb)
       have n3_ := Aside0.mk (below_step (by repeat (first | (with_reducible first | exact HB.out | apply below_alloc | apply pw_below_drewN | apply below_drew1 | refine below_set ?_ GE287.out) | exact HB.out)) hb)
       clear HO283
       clear HO286
       clear BK287
       clear HB
       have HO283 := n0_
       have HO286 := n1_
       have BK287 := n2_
       have HB := n3_
       clear n0_ n1_ n2_ n3_
       (try clear hb)
       (try clear hb2)
       (try clear hk)
       (try clear hi)
       refine hK.out _ _ ⟨(blk_cell BK287.out 0).trans rfl, (blk_cell BK287.out 1).trans rfl⟩ (fun hHeld => ?_)
       clear hK K
       refine norm_ (a' := ?_) ?_ ?_
       rotate_left
       ·show Act.put _ (some 19) _ = _
        simp only [Act.put, List.setIfInBounds_toArray, List.set_cons_zero, List.set_cons_succ, i64_w, i32_w]
        rfl
       refine pure_ (i := 4) (N := some 20) (v := ?_) (a' := ?_) #[true, true, true, true, true, false, false, false, false, false, false, false, false, false, false, false, false, false, false, false, false, false, false] rfl rfl (any_of HT_.out (by kernel_rfl)) (fun _ _ _ h => h) (Or.inl ⟨by rfl, ?_⟩) ?_ ?_
       rotate_left
       ·intro w'
        go_simp
        with_reducible rfl
       rotate_left
       ·simp only [Act.put, List.setIfInBounds_toArray, List.set_cons_zero, List.set_cons_succ, i64_w, i32_w]
        rfl
       refine pure_ (i := 5) (N := some 21) (v := ?_) (a' := ?_) #[true, true, true, true, true, true, false, false, false, false, false, false, false, false, false, false, false, false, false, false, false, false, false] rfl rfl (any_of HT_.out (by kernel_rfl)) (fun _ _ _ h => h) (Or.inl ⟨by rfl, ?_⟩) ?_ ?_
       rotate_left
       ·intro w'
        go_simp
        with_reducible rfl
       rotate_left
       ·simp only [Act.put, List.setIfInBounds_toArray, List.set_cons_zero, List.set_cons_succ, i64_w, i32_w]
        rfl
       refine pure_ (i := 7) (N := some 23) (v := ?_) (a' := ?_) #[true, true, true, true, true, true, false, true, false, false, false, false, false, false, false, false, false, false, false, false, false, false, false] rfl rfl (any_of HT_.out (by kernel_rfl)) (fun _ _ _ h => h) (Or.inl ⟨by rfl, ?_⟩) ?_ ?_
       rotate_left
       ·intro w'
        go_simp
        with_reducible rfl
       rotate_left
       ·simp only [Act.put, List.setIfInBounds_toArray, List.set_cons_zero, List.set_cons_succ, i64_w, i32_w]
        rfl
       refine pure_ (i := 13) (N := some 29) (v := ?_) (a' := ?_) #[true, true, true, true, true, true, false, true, false, false, false, false, false, true, false, false, false, false, false, false, false, false, false] rfl rfl (any_of HT_.out (by kernel_rfl)) (fun _ _ _ h => h) (Or.inl ⟨by rfl, ?_⟩) ?_ ?_
       rotate_left
       ·intro w'
        go_simp
        with_reducible rfl
       rotate_left
       ·simp only [Act.put, List.setIfInBounds_toArray, List.set_cons_zero, List.set_cons_succ, i64_w, i32_w]
        rfl
       refine take_ (i := 8) (N := some 24) (v := ?_) (a' := ?_) #[true, true, true, true, true, true, false, true, true, false, false, false, false, true, false, false, false, false, false, false, false, false, false] rfl rfl (take_ofW HT_.out HW_.out (by kernel_rfl)) (fun _ _ _ h => h) (Or.inl ⟨by rfl, ?_⟩) hHeld ?_ ?_
       rotate_left
       ·rintro w' ⟨s0, s1⟩
        go_simp
        with_reducible rfl
       rotate_left
       ·simp only [Act.put, List.setIfInBounds_toArray, List.set_cons_zero, List.set_cons_succ, i64_w, i32_w]
        rfl
       refine take_ (i := 14) (N := some 30) (v := ?_) (a' := ?_) #[true, true, true, true, true, true, false, true, true, false, false, false, false, true, true, false, false, false, false, false, false, false, false] rfl rfl (take_ofW HT_.out HW_.out (by kernel_rfl)) (fun _ _ _ h => h) (Or.inl ⟨by rfl, ?_⟩) hHeld ?_ ?_
       rotate_left
       ·rintro w' ⟨s0, s1⟩
        go_simp
        with_reducible rfl
       rotate_left
       ·simp only [Act.put, List.setIfInBounds_toArray, List.set_cons_zero, List.set_cons_succ, i64_w, i32_w]
        rfl
       refine join_ (σ := Value × Value × Value × Value) 9 #[true, true, true, true, true, true, true, true, true, true, true, true, false, true, true, false, false, false, false, false, false, false, false] (fun s_ => [(22, s_.1), (25, s_.2.1), (26, s_.2.2.1), (27, s_.2.2.2)]) (fun s_ w' => (w'.cell? ⟨gb287, 0, none⟩ = some (.slice Ao33 t281.length co33) ∧ w'.cell? ⟨gb287, 1, none⟩ = some (.slice Ao35 t284.length co35)) ∧ (Kd.N (Kd.slice 3 (Kd.int .i64)) 36 w' w.heap.size (fun k_ => some k_ ≠ (.slice Ao35 t284.length co35 : Value).ownBlock ∧ some k_ ≠ (s_.2.1 : Value).ownBlock ∧ some k_ ≠ (s_.2.2.2 : Value).ownBlock ∧ k_ ≠ gb287) (.slice Ao33 t281.length co33) t281) ∧ (Kd.N (Kd.slice 3 (Kd.int .i64)) 36 w' w.heap.size (fun k_ => some k_ ≠ (.slice Ao33 t281.length co33 : Value).ownBlock ∧ some k_ ≠ (s_.2.1 : Value).ownBlock ∧ some k_ ≠ (s_.2.2.2 : Value).ownBlock ∧ k_ ≠ gb287) (.slice Ao35 t284.length co35) t284) ∧ (Kd.N (Kd.slice 3 (Kd.int .i64)) 36 w' w.heap.size (fun k_ => some k_ ≠ (.slice Ao35 t284.length co35 : Value).ownBlock ∧ some k_ ≠ (s_.2.2.2 : Value).ownBlock ∧ k_ ≠ gb287) s_.2.1 y294) ∧ (Kd.N (Kd.slice 3 (Kd.int .i64)) 36 w' w.heap.size (fun k_ => some k_ ≠ (.slice Ao33 t281.length co33 : Value).ownBlock ∧ some k_ ≠ (.slice Ao35 t284.length co35 : Value).ownBlock ∧ some k_ ≠ (s_.2.1 : Value).ownBlock ∧ k_ ≠ gb287) s_.2.2.2 y300) ∧ (w'.heap[gb287]? = some (.cells #[.slice Ao33 t281.length co33, .slice Ao35 t284.length co35] 25 (0, 0))) ∧ (Below w.heap.size w w')) ?_ ?_
       rotate_left
       ·intro hJ6_9_10_11
        refine join_ (σ := Value × Value × Value) 10 #[true, true, true, true, true, true, true, true, true, true, true, false, false, true, true, false, false, false, false, false, false, false, false] (fun s_ => [(22, s_.1), (25, s_.2.1), (26, s_.2.2)]) (fun s_ w' => (w'.cell? ⟨gb287, 0, none⟩ = some (.slice Ao33 t281.length co33) ∧ w'.cell? ⟨gb287, 1, none⟩ = some (.slice Ao35 t284.length co35)) ∧ (Kd.N (Kd.slice 3 (Kd.int .i64)) 36 w' w.heap.size (fun k_ => some k_ ≠ (.slice Ao35 t284.length co35 : Value).ownBlock ∧ some k_ ≠ (s_.2.1 : Value).ownBlock ∧ some k_ ≠ (s_.2.2 : Value).ownBlock ∧ k_ ≠ gb287) (.slice Ao33 t281.length co33) t281) ∧ (Kd.N (Kd.slice 3 (Kd.int .i64)) 36 w' w.heap.size (fun k_ => some k_ ≠ (.slice Ao33 t281.length co33 : Value).ownBlock ∧ some k_ ≠ (s_.2.1 : Value).ownBlock ∧ some k_ ≠ (s_.2.2 : Value).ownBlock ∧ k_ ≠ gb287) (.slice Ao35 t284.length co35) t284) ∧ (Kd.N (Kd.slice 3 (Kd.int .i64)) 36 w' w.heap.size (fun k_ => some k_ ≠ (.slice Ao35 t284.length co35 : Value).ownBlock ∧ some k_ ≠ (s_.2.2 : Value).ownBlock ∧ k_ ≠ gb287) s_.2.1 y294) ∧ (Kd.R (Kd.int .i64) 3 w' w.heap.size (fun _ => True) s_.2.2 y297) ∧ (w'.heap[gb287]? = some (.cells #[.slice Ao33 t281.length co33, .slice Ao35 t284.length co35] 25 (0, 0))) ∧ (Below w.heap.size w w')) ?_ ?_
        rotate_left
        ·intro hJ6_9_10
         refine join_ (σ := Value × Value × Value) 10 #[true, true, true, true, true, true, true, true, true, false, true, true, false, true, true, false, false, false, false, false, false, false, false] (fun s_ => [(22, s_.1), (26, s_.2.1), (27, s_.2.2)]) (fun s_ w' => (w'.cell? ⟨gb287, 0, none⟩ = some (.slice Ao33 t281.length co33) ∧ w'.cell? ⟨gb287, 1, none⟩ = some (.slice Ao35 t284.length co35)) ∧ (Kd.N (Kd.slice 3 (Kd.int .i64)) 36 w' w.heap.size (fun k_ => some k_ ≠ (.slice Ao35 t284.length co35 : Value).ownBlock ∧ some k_ ≠ (s_.1 : Value).ownBlock ∧ some k_ ≠ (s_.2.2 : Value).ownBlock ∧ k_ ≠ gb287) (.slice Ao33 t281.length co33) t281) ∧ (Kd.N (Kd.slice 3 (Kd.int .i64)) 36 w' w.heap.size (fun k_ => some k_ ≠ (.slice Ao33 t281.length co33 : Value).ownBlock ∧ some k_ ≠ (s_.1 : Value).ownBlock ∧ some k_ ≠ (s_.2.2 : Value).ownBlock ∧ k_ ≠ gb287) (.slice Ao35 t284.length co35) t284) ∧ (Kd.N (Kd.slice 3 (Kd.int .i64)) 36 w' w.heap.size (fun k_ => some k_ ≠ (.slice Ao33 t281.length co33 : Value).ownBlock ∧ some k_ ≠ (.slice Ao35 t284.length co35 : Value).ownBlock ∧ some k_ ≠ (s_.2.2 : Value).ownBlock ∧ k_ ≠ gb287) s_.1 y291) ∧ (Kd.N (Kd.slice 3 (Kd.int .i64)) 36 w' w.heap.size (fun k_ => some k_ ≠ (.slice Ao33 t281.length co33 : Value).ownBlock ∧ some k_ ≠ (.slice Ao35 t284.length co35 : Value).ownBlock ∧ some k_ ≠ (s_.1 : Value).ownBlock ∧ k_ ≠ gb287) s_.2.2 y300) ∧ (w'.heap[gb287]? = some (.cells #[.slice Ao33 t281.length co33, .slice Ao35 t284.length co35] 25 (0, 0))) ∧ (Below w.heap.size w w')) ?_ ?_
         rotate_left
         ·intro hJ6_10_11
          refine join_ (σ := Value × Value) 11 #[true, true, true, true, true, true, true, true, true, true, false, false, false, true, true, false, false, false, false, false, false, false, false] (fun s_ => [(22, s_.1), (25, s_.2)]) (fun s_ w' => (w'.cell? ⟨gb287, 0, none⟩ = some (.slice Ao33 t281.length co33) ∧ w'.cell? ⟨gb287, 1, none⟩ = some (.slice Ao35 t284.length co35)) ∧ (Kd.N (Kd.slice 3 (Kd.int .i64)) 36 w' w.heap.size (fun k_ => some k_ ≠ (.slice Ao35 t284.length co35 : Value).ownBlock ∧ some k_ ≠ (s_.2 : Value).ownBlock ∧ k_ ≠ gb287) (.slice Ao33 t281.length co33) t281) ∧ (Kd.N (Kd.slice 3 (Kd.int .i64)) 36 w' w.heap.size (fun k_ => some k_ ≠ (.slice Ao33 t281.length co33 : Value).ownBlock ∧ some k_ ≠ (s_.2 : Value).ownBlock ∧ k_ ≠ gb287) (.slice Ao35 t284.length co35) t284) ∧ (Kd.N (Kd.slice 3 (Kd.int .i64)) 36 w' w.heap.size (fun k_ => some k_ ≠ (.slice Ao35 t284.length co35 : Value).ownBlock ∧ k_ ≠ gb287) s_.2 y294) ∧ (w'.heap[gb287]? = some (.cells #[.slice Ao33 t281.length co33, .slice Ao35 t284.length co35] 25 (0, 0))) ∧ (Below w.heap.size w w')) ?_ ?_
          rotate_left
          ·intro hJ6_9
           refine join_ (σ := Value × Value) 11 #[true, true, true, true, true, true, true, true, true, false, true, false, false, true, true, false, false, false, false, false, false, false, false] (fun s_ => [(22, s_.1), (26, s_.2)]) (fun s_ w' => (w'.cell? ⟨gb287, 0, none⟩ = some (.slice Ao33 t281.length co33) ∧ w'.cell? ⟨gb287, 1, none⟩ = some (.slice Ao35 t284.length co35)) ∧ (Kd.N (Kd.slice 3 (Kd.int .i64)) 36 w' w.heap.size (fun k_ => some k_ ≠ (.slice Ao35 t284.length co35 : Value).ownBlock ∧ some k_ ≠ (s_.1 : Value).ownBlock ∧ some k_ ≠ (s_.2 : Value).ownBlock ∧ k_ ≠ gb287) (.slice Ao33 t281.length co33) t281) ∧ (Kd.N (Kd.slice 3 (Kd.int .i64)) 36 w' w.heap.size (fun k_ => some k_ ≠ (.slice Ao33 t281.length co33 : Value).ownBlock ∧ some k_ ≠ (s_.1 : Value).ownBlock ∧ some k_ ≠ (s_.2 : Value).ownBlock ∧ k_ ≠ gb287) (.slice Ao35 t284.length co35) t284) ∧ (Kd.N (Kd.slice 3 (Kd.int .i64)) 36 w' w.heap.size (fun k_ => some k_ ≠ (.slice Ao33 t281.length co33 : Value).ownBlock ∧ some k_ ≠ (.slice Ao35 t284.length co35 : Value).ownBlock ∧ some k_ ≠ (s_.2 : Value).ownBlock ∧ k_ ≠ gb287) s_.1 y291) ∧ (Kd.R (Kd.int .i64) 3 w' w.heap.size (fun _ => True) s_.2 y297) ∧ (w'.heap[gb287]? = some (.cells #[.slice Ao33 t281.length co33, .slice Ao35 t284.length co35] 25 (0, 0))) ∧ (Below w.heap.size w w')) ?_ ?_
           rotate_left
           ·intro hJ6_10
            refine join_ (σ := Value × Value) 11 #[true, true, true, true, true, true, false, true, true, false, true, true, false, true, true, false, false, false, false, false, false, false, false] (fun s_ => [(26, s_.1), (27, s_.2)]) (fun s_ w' => (w'.cell? ⟨gb287, 0, none⟩ = some (.slice Ao33 t281.length co33) ∧ w'.cell? ⟨gb287, 1, none⟩ = some (.slice Ao35 t284.length co35)) ∧ (Kd.N (Kd.slice 3 (Kd.int .i64)) 36 w' w.heap.size (fun k_ => some k_ ≠ (.slice Ao35 t284.length co35 : Value).ownBlock ∧ some k_ ≠ (s_.2 : Value).ownBlock ∧ k_ ≠ gb287) (.slice Ao33 t281.length co33) t281) ∧ (Kd.N (Kd.slice 3 (Kd.int .i64)) 36 w' w.heap.size (fun k_ => some k_ ≠ (.slice Ao33 t281.length co33 : Value).ownBlock ∧ some k_ ≠ (s_.2 : Value).ownBlock ∧ k_ ≠ gb287) (.slice Ao35 t284.length co35) t284) ∧ (Kd.N (Kd.slice 3 (Kd.int .i64)) 36 w' w.heap.size (fun k_ => some k_ ≠ (.slice Ao33 t281.length co33 : Value).ownBlock ∧ some k_ ≠ (.slice Ao35 t284.length co35 : Value).ownBlock ∧ k_ ≠ gb287) s_.2 y300) ∧ (w'.heap[gb287]? = some (.cells #[.slice Ao33 t281.length co33, .slice Ao35 t284.length co35] 25 (0, 0))) ∧ (Below w.heap.size w w')) ?_ ?_
            rotate_left
            ·intro hJ10_11
             refine join_ (σ := Value) 12 #[true, true, true, true, true, true, true, true, true, false, false, false, false, true, true, false, false, false, false, false, false, false, false] (fun s_ => [(22, s_)]) (fun s_ w' => (w'.cell? ⟨gb287, 0, none⟩ = some (.slice Ao33 t281.length co33) ∧ w'.cell? ⟨gb287, 1, none⟩ = some (.slice Ao35 t284.length co35)) ∧ (Kd.N (Kd.slice 3 (Kd.int .i64)) 36 w' w.heap.size (fun k_ => some k_ ≠ (.slice Ao35 t284.length co35 : Value).ownBlock ∧ some k_ ≠ (s_ : Value).ownBlock ∧ k_ ≠ gb287) (.slice Ao33 t281.length co33) t281) ∧ (Kd.N (Kd.slice 3 (Kd.int .i64)) 36 w' w.heap.size (fun k_ => some k_ ≠ (.slice Ao33 t281.length co33 : Value).ownBlock ∧ some k_ ≠ (s_ : Value).ownBlock ∧ k_ ≠ gb287) (.slice Ao35 t284.length co35) t284) ∧ (Kd.N (Kd.slice 3 (Kd.int .i64)) 36 w' w.heap.size (fun k_ => some k_ ≠ (.slice Ao33 t281.length co33 : Value).ownBlock ∧ some k_ ≠ (.slice Ao35 t284.length co35 : Value).ownBlock ∧ k_ ≠ gb287) s_ y291) ∧ (w'.heap[gb287]? = some (.cells #[.slice Ao33 t281.length co33, .slice Ao35 t284.length co35] 25 (0, 0))) ∧ (Below w.heap.size w w')) ?_ ?_
             rotate_left
             ·intro hJ6
              refine join_ (σ := Value) 12 #[true, true, true, true, true, true, false, true, true, false, true, false, false, true, true, false, false, false, false, false, false, false, false] (fun s_ => [(26, s_)]) (fun s_ w' => (w'.cell? ⟨gb287, 0, none⟩ = some (.slice Ao33 t281.length co33) ∧ w'.cell? ⟨gb287, 1, none⟩ = some (.slice Ao35 t284.length co35)) ∧ (Kd.N (Kd.slice 3 (Kd.int .i64)) 36 w' w.heap.size (fun k_ => some k_ ≠ (.slice Ao35 t284.length co35 : Value).ownBlock ∧ some k_ ≠ (s_ : Value).ownBlock ∧ k_ ≠ gb287) (.slice Ao33 t281.length co33) t281) ∧ (Kd.N (Kd.slice 3 (Kd.int .i64)) 36 w' w.heap.size (fun k_ => some k_ ≠ (.slice Ao33 t281.length co33 : Value).ownBlock ∧ some k_ ≠ (s_ : Value).ownBlock ∧ k_ ≠ gb287) (.slice Ao35 t284.length co35) t284) ∧ (Kd.R (Kd.int .i64) 3 w' w.heap.size (fun _ => True) s_ y297) ∧ (w'.heap[gb287]? = some (.cells #[.slice Ao33 t281.length co33, .slice Ao35 t284.length co35] 25 (0, 0))) ∧ (Below w.heap.size w w')) ?_ ?_
              rotate_left
              ·intro hJ10
               refine two_ (i := 6) (j := 10) (Ni := some 22) (Nj := some 26) #[true, true, true, true, true, true, true, true, true, false, false, false, false, true, true, false, false, false, false, false, false, false, false] #[true, true, true, true, true, true, false, true, true, false, true, false, false, true, true, false, false, false, false, false, false, false, false] rfl rfl rfl rfl (two_of HT_.out (by kernel_rfl)) (by decide) (by decide) (fun K hK => ?_) (fun K hK => ?_)
               ·skip
                refine Kd.N_lit_step (Kd.slice 3 (Kd.int .i64)) _ 36 ?hg (N' := 22) ?hd (xs := ([] : List (List Int))) (inner := []) (ok := (fun k_ => some k_ ≠ (.slice Ao33 t281.length co33 : Value).ownBlock ∧ some k_ ≠ (.slice Ao35 t284.length co35 : Value).ownBlock ∧ k_ ≠ gb287)) (okp := (fun k_ => some k_ ≠ (.slice Ao33 t281.length co33 : Value).ownBlock ∧ some k_ ≠ (.slice Ao35 t284.length co35 : Value).ownBlock ∧ k_ ≠ gb287)) ?hr ?hp (fun _ hk => hk) ((show ∀ k_, w40.heap.size ≤ k_ → (fun k_ => some k_ ≠ (.slice Ao33 t281.length co33 : Value).ownBlock ∧ some k_ ≠ (.slice Ao35 t284.length co35 : Value).ownBlock ∧ k_ ≠ gb287) k_ from fun k_ hk => ⟨Kd.fresh' (Kd.N_lt (by (with_reducible repeat (first | apply Kd.N_alloc | apply Kd.N_drewN | apply Kd.N_drew)); exact HO283.out)) k_ hk, Kd.fresh' (Kd.N_lt (by (with_reducible repeat (first | apply Kd.N_alloc | apply Kd.N_drewN | apply Kd.N_drew)); exact HO286.out)) k_ hk, Kd.freshB (g := gb287) (o := .cells #[.slice Ao33 t281.length co33, .slice Ao35 t284.length co35] 25 (0, 0)) (by (with_reducible repeat (first | refine blk_drewN ?_ _ | refine blk_drew ?_ | refine blk_alloc ?_ _)); exact BK287.out) k_ hk⟩) _ (Nat.le_refl _)) (Below.refl _ _) (Nat.le_refl _) (by simp) ?_; (case hd => rfl); (case hg => rfl); (case hr => first | (go_simp; done) | (go_simp; rfl)); (case hp => exact (Reps.none _ _))
                intro v292 w41 ho42 hb hg_ hnew_
                clear hg_ hnew_
                (first | rw [← Ny291.out] at ho42 | (simp only [Int.reduceToNat] at ho42; rw [← Ny291.out] at ho42))
                have n0_ := Aside0.mk (Kd.N_elder' (by (with_reducible repeat (first | apply Kd.N_alloc | apply Kd.N_drewN | apply Kd.N_drew)); exact HO283.out) (Kd.N_base ho42) hb)
                have n1_ := Aside0.mk (Kd.N_elder' (by (with_reducible repeat (first | apply Kd.N_alloc | apply Kd.N_drewN | apply Kd.N_drew)); exact HO286.out) (Kd.N_base ho42) hb)
                have n2_ := Aside0.mk (Kd.N_lower ho42 (below_size (by repeat (first | (with_reducible first | exact HB.out | apply below_alloc | apply pw_below_drewN | apply below_drew1 | refine below_set ?_ GE287.out) | exact HB.out))))
                have n3_ := Aside0.mk (blk_below (g := gb287) (o := .cells #[.slice Ao33 t281.length co33, .slice Ao35 t284.length co35] 25 (0, 0)) (by (with_reducible repeat (first | refine blk_drewN ?_ _ | refine blk_drew ?_ | refine blk_alloc ?_ _)); exact BK287.out) hb)
                have n4_ := Aside0.mk (below_step (by repeat (first | (with_reducible first | exact HB.out | apply below_alloc | apply pw_below_drewN | apply below_drew1 | refine below_set ?_ GE287.out) | exact HB.out)) hb)
                clear HO283
                clear HO286
                clear BK287
                clear HB
                have HO283 := n0_
                have HO286 := n1_
                have HO293 := n2_
                have BK287 := n3_
                have HB := n4_
                clear n0_ n1_ n2_ n3_ n4_
                clear hb ho42
                refine hK.out _ _ ⟨(blk_cell BK287.out 0).trans rfl, (blk_cell BK287.out 1).trans rfl⟩ (fun hHeld => ?_)
                clear hK K
                refine norm_ (a' := ?_) ?_ ?_
                rotate_left
                ·show Act.put _ (some 22) _ = _
                 simp only [Act.put, List.setIfInBounds_toArray, List.set_cons_zero, List.set_cons_succ, i64_w, i32_w]
                 rfl
                exact norm_ (by first | (simp only [putAll, Act.put, List.setIfInBounds_toArray, List.set_cons_zero, List.set_cons_succ]; done) | (simp only [putAll, Act.put, List.setIfInBounds_toArray, List.set_cons_zero, List.set_cons_succ]; rfl)) (hJ6 (v292) _ ⟨hHeld, (by (with_reducible repeat (first | apply Kd.N_alloc | apply Kd.N_drewN | apply Kd.N_drew)); exact Kd.N_mono HO283.out (fun _ hk => ⟨hk.1.1, ⟨hk.2, hk.1.2⟩⟩)), (by (with_reducible repeat (first | apply Kd.N_alloc | apply Kd.N_drewN | apply Kd.N_drew)); exact Kd.N_mono HO286.out (fun _ hk => ⟨hk.1.1, ⟨hk.2, hk.1.2⟩⟩)), (by (with_reducible repeat (first | apply Kd.N_alloc | apply Kd.N_drewN | apply Kd.N_drew)); exact HO293.out), (by (with_reducible repeat (first | refine blk_drewN ?_ _ | refine blk_drew ?_ | refine blk_alloc ?_ _)); exact BK287.out), (by repeat (first | (with_reducible first | exact HB.out | apply below_alloc | apply pw_below_drewN | apply below_drew1 | refine below_set ?_ GE287.out) | exact HB.out))⟩)
               ·skip
                refine Kd.R_lit_step (Kd.int .i64) _ 3 ?hg (N := 26) ?hd (xs := ([6] : List Int)) (inner := [.int .i64 6]) (ok := fun _ => True) (okp := fun _ => True) ?hr ?hp (fun _ hk => hk) trivial (Below.refl _ _) (Nat.le_refl _) (by simp) ?_; (case hd => rfl); (case hg => rfl); (case hr => first | (go_simp; done) | (go_simp; rfl)); (case hp => exact (Reps.one (show Kd.M (Kd.int .i64) _ _ _ 6 [.int .i64 6] from rfl) (Reps.none _ _)))
                intro v298 w41 ho42 hb hg_ hnew_
                clear hg_ hnew_
                (first | rw [← Ny297.out] at ho42 | (simp only [Int.reduceToNat] at ho42; rw [← Ny297.out] at ho42))
                have n0_ := Aside0.mk (Kd.N_elder' (by (with_reducible repeat (first | apply Kd.N_alloc | apply Kd.N_drewN | apply Kd.N_drew)); exact HO283.out) (Kd.R_base ho42) hb)
                have n1_ := Aside0.mk (Kd.N_elder' (by (with_reducible repeat (first | apply Kd.N_alloc | apply Kd.N_drewN | apply Kd.N_drew)); exact HO286.out) (Kd.R_base ho42) hb)
                have n2_ := Aside0.mk (Kd.R_lower ho42 (below_size (by repeat (first | (with_reducible first | exact HB.out | apply below_alloc | apply pw_below_drewN | apply below_drew1 | refine below_set ?_ GE287.out) | exact HB.out))))
                have n3_ := Aside0.mk (blk_below (g := gb287) (o := .cells #[.slice Ao33 t281.length co33, .slice Ao35 t284.length co35] 25 (0, 0)) (by (with_reducible repeat (first | refine blk_drewN ?_ _ | refine blk_drew ?_ | refine blk_alloc ?_ _)); exact BK287.out) hb)
                have n4_ := Aside0.mk (below_step (by repeat (first | (with_reducible first | exact HB.out | apply below_alloc | apply pw_below_drewN | apply below_drew1 | refine below_set ?_ GE287.out) | exact HB.out)) hb)
                clear HO283
                clear HO286
                clear BK287
                clear HB
                have HO283 := n0_
                have HO286 := n1_
                have HO299 := n2_
                have BK287 := n3_
                have HB := n4_
                clear n0_ n1_ n2_ n3_ n4_
                clear hb ho42
                refine hK.out _ _ ⟨(blk_cell BK287.out 0).trans rfl, (blk_cell BK287.out 1).trans rfl⟩ (fun hHeld => ?_)
                clear hK K
                refine norm_ (a' := ?_) ?_ ?_
                rotate_left
                ·show Act.put _ (some 26) _ = _
                 simp only [Act.put, List.setIfInBounds_toArray, List.set_cons_zero, List.set_cons_succ, i64_w, i32_w]
                 rfl
                exact norm_ (by first | (simp only [putAll, Act.put, List.setIfInBounds_toArray, List.set_cons_zero, List.set_cons_succ]; done) | (simp only [putAll, Act.put, List.setIfInBounds_toArray, List.set_cons_zero, List.set_cons_succ]; rfl)) (hJ10 (v298) _ ⟨hHeld, (by (with_reducible repeat (first | apply Kd.N_alloc | apply Kd.N_drewN | apply Kd.N_drew)); exact Kd.N_mono HO283.out (fun _ hk => ⟨hk.1.1, ⟨hk.2, hk.1.2⟩⟩)), (by (with_reducible repeat (first | apply Kd.N_alloc | apply Kd.N_drewN | apply Kd.N_drew)); exact Kd.N_mono HO286.out (fun _ hk => ⟨hk.1.1, ⟨hk.2, hk.1.2⟩⟩)), (by (with_reducible repeat (first | apply Kd.R_alloc | apply Kd.R_drewN | apply Kd.R_drew)); exact HO299.out), (by (with_reducible repeat (first | refine blk_drewN ?_ _ | refine blk_drew ?_ | refine blk_alloc ?_ _)); exact BK287.out), (by repeat (first | (with_reducible first | exact HB.out | apply below_alloc | apply pw_below_drewN | apply below_drew1 | refine below_set ?_ GE287.out) | exact HB.out))⟩)
              ·skip
               rintro v298 w43 ⟨hS_, h0_, h1_, h2_, h3_, h4_⟩
               have n0_ : Aside0 (Kd.N (Kd.slice 3 (Kd.int .i64)) 36 w43 w.heap.size (fun k_ => some k_ ≠ (.slice Ao35 t284.length co35 : Value).ownBlock ∧ some k_ ≠ (v298 : Value).ownBlock ∧ k_ ≠ gb287) (.slice Ao33 t281.length co33) t281) := ⟨h0_⟩
               have n1_ : Aside0 (Kd.N (Kd.slice 3 (Kd.int .i64)) 36 w43 w.heap.size (fun k_ => some k_ ≠ (.slice Ao33 t281.length co33 : Value).ownBlock ∧ some k_ ≠ (v298 : Value).ownBlock ∧ k_ ≠ gb287) (.slice Ao35 t284.length co35) t284) := ⟨h1_⟩
               have n2_ : Aside0 (Kd.R (Kd.int .i64) 3 w43 w.heap.size (fun _ => True) v298 y297) := ⟨h2_⟩
               have n3_ : Aside0 (w43.heap[gb287]? = some (.cells #[.slice Ao33 t281.length co33, .slice Ao35 t284.length co35] 25 (0, 0))) := ⟨h3_⟩
               have n4_ : Aside0 (Below w.heap.size w w43) := ⟨h4_⟩
               clear HO283
               clear HO286
               clear BK287
               clear HB
               clear h0_ h1_ h2_ h3_ h4_
               have HO283 := n0_
               have HO286 := n1_
               have HO299 := n2_
               have BK287 := n3_
               have HB := n4_
               clear n0_ n1_ n2_ n3_ n4_
               have hHeld : w43.cell? ⟨gb287, 0, none⟩ = some (.slice Ao33 t281.length co33) ∧ w43.cell? ⟨gb287, 1, none⟩ = some (.slice Ao35 t284.length co35) := hS_
               refine norm_ (a' := ?_) ?_ ?_
               rotate_left
               ·simp only [putAll, Act.put, List.setIfInBounds_toArray, List.set_cons_zero, List.set_cons_succ]
                rfl
               refine two_ (i := 6) (j := 11) (Ni := some 22) (Nj := some 27) #[true, true, true, true, true, true, true, true, true, false, true, false, false, true, true, false, false, false, false, false, false, false, false] #[true, true, true, true, true, true, false, true, true, false, true, true, false, true, true, false, false, false, false, false, false, false, false] rfl rfl rfl rfl (two_of HT_.out (by kernel_rfl)) (by decide) (by decide) (fun K hK => ?_) (fun K hK => ?_)
               ·skip
                refine Kd.N_lit_step (Kd.slice 3 (Kd.int .i64)) _ 36 ?hg (N' := 22) ?hd (xs := ([] : List (List Int))) (inner := []) (ok := (fun k_ => some k_ ≠ (.slice Ao33 t281.length co33 : Value).ownBlock ∧ some k_ ≠ (.slice Ao35 t284.length co35 : Value).ownBlock ∧ some k_ ≠ (v298 : Value).ownBlock ∧ k_ ≠ gb287)) (okp := (fun k_ => some k_ ≠ (.slice Ao33 t281.length co33 : Value).ownBlock ∧ some k_ ≠ (.slice Ao35 t284.length co35 : Value).ownBlock ∧ some k_ ≠ (v298 : Value).ownBlock ∧ k_ ≠ gb287)) ?hr ?hp (fun _ hk => hk) ((show ∀ k_, w43.heap.size ≤ k_ → (fun k_ => some k_ ≠ (.slice Ao33 t281.length co33 : Value).ownBlock ∧ some k_ ≠ (.slice Ao35 t284.length co35 : Value).ownBlock ∧ some k_ ≠ (v298 : Value).ownBlock ∧ k_ ≠ gb287) k_ from fun k_ hk => ⟨Kd.fresh' (Kd.N_lt (by (with_reducible repeat (first | apply Kd.N_alloc | apply Kd.N_drewN | apply Kd.N_drew)); exact HO283.out)) k_ hk, Kd.fresh' (Kd.N_lt (by (with_reducible repeat (first | apply Kd.N_alloc | apply Kd.N_drewN | apply Kd.N_drew)); exact HO286.out)) k_ hk, Kd.fresh' (Kd.R_lt (by (with_reducible repeat (first | apply Kd.R_alloc | apply Kd.R_drewN | apply Kd.R_drew)); exact HO299.out)) k_ hk, Kd.freshB (g := gb287) (o := .cells #[.slice Ao33 t281.length co33, .slice Ao35 t284.length co35] 25 (0, 0)) (by (with_reducible repeat (first | refine blk_drewN ?_ _ | refine blk_drew ?_ | refine blk_alloc ?_ _)); exact BK287.out) k_ hk⟩) _ (Nat.le_refl _)) (Below.refl _ _) (Nat.le_refl _) (by simp) ?_; (case hd => rfl); (case hg => rfl); (case hr => first | (go_simp; done) | (go_simp; rfl)); (case hp => exact (Reps.none _ _))
                intro v292 w44 ho45 hb hg_ hnew_
                clear hg_ hnew_
                (first | rw [← Ny291.out] at ho45 | (simp only [Int.reduceToNat] at ho45; rw [← Ny291.out] at ho45))
                have n0_ := Aside0.mk (Kd.N_elder' (by (with_reducible repeat (first | apply Kd.N_alloc | apply Kd.N_drewN | apply Kd.N_drew)); exact HO283.out) (Kd.N_base ho45) hb)
                have n1_ := Aside0.mk (Kd.N_elder' (by (with_reducible repeat (first | apply Kd.N_alloc | apply Kd.N_drewN | apply Kd.N_drew)); exact HO286.out) (Kd.N_base ho45) hb)
                have n2_ := Aside0.mk (Kd.R_below (by (with_reducible repeat (first | apply Kd.R_alloc | apply Kd.R_drewN | apply Kd.R_drew)); exact HO299.out) hb)
                have n3_ := Aside0.mk (Kd.N_lower ho45 (below_size (by repeat (first | (with_reducible first | exact HB.out | apply below_alloc | apply pw_below_drewN | apply below_drew1 | refine below_set ?_ GE287.out) | exact HB.out))))
                have n4_ := Aside0.mk (blk_below (g := gb287) (o := .cells #[.slice Ao33 t281.length co33, .slice Ao35 t284.length co35] 25 (0, 0)) (by (with_reducible repeat (first | refine blk_drewN ?_ _ | refine blk_drew ?_ | refine blk_alloc ?_ _)); exact BK287.out) hb)
                have n5_ := Aside0.mk (below_step (by repeat (first | (with_reducible first | exact HB.out | apply below_alloc | apply pw_below_drewN | apply below_drew1 | refine below_set ?_ GE287.out) | exact HB.out)) hb)
                clear HO283
                clear HO286
                clear HO299
                clear BK287
                clear HB
                have HO283 := n0_
                have HO286 := n1_
                have HO299 := n2_
                have HO293 := n3_
                have BK287 := n4_
                have HB := n5_
                clear n0_ n1_ n2_ n3_ n4_ n5_
                clear hb ho45
                refine hK.out _ _ ⟨(blk_cell BK287.out 0).trans rfl, (blk_cell BK287.out 1).trans rfl⟩ (fun hHeld => ?_)
                clear hK K
                refine norm_ (a' := ?_) ?_ ?_
                rotate_left
                ·show Act.put _ (some 22) _ = _
                 simp only [Act.put, List.setIfInBounds_toArray, List.set_cons_zero, List.set_cons_succ, i64_w, i32_w]
                 rfl
                exact norm_ (by first | (simp only [putAll, Act.put, List.setIfInBounds_toArray, List.set_cons_zero, List.set_cons_succ]; done) | (simp only [putAll, Act.put, List.setIfInBounds_toArray, List.set_cons_zero, List.set_cons_succ]; rfl)) (hJ6_10 (v292, v298) _ ⟨hHeld, (by (with_reducible repeat (first | apply Kd.N_alloc | apply Kd.N_drewN | apply Kd.N_drew)); exact Kd.N_mono HO283.out (fun _ hk => ⟨hk.1.1, ⟨hk.2, ⟨hk.1.2.1, hk.1.2.2⟩⟩⟩)), (by (with_reducible repeat (first | apply Kd.N_alloc | apply Kd.N_drewN | apply Kd.N_drew)); exact Kd.N_mono HO286.out (fun _ hk => ⟨hk.1.1, ⟨hk.2, ⟨hk.1.2.1, hk.1.2.2⟩⟩⟩)), (by (with_reducible repeat (first | apply Kd.N_alloc | apply Kd.N_drewN | apply Kd.N_drew)); exact HO293.out), (by (with_reducible repeat (first | apply Kd.R_alloc | apply Kd.R_drewN | apply Kd.R_drew)); exact HO299.out), (by (with_reducible repeat (first | refine blk_drewN ?_ _ | refine blk_drew ?_ | refine blk_alloc ?_ _)); exact BK287.out), (by repeat (first | (with_reducible first | exact HB.out | apply below_alloc | apply pw_below_drewN | apply below_drew1 | refine below_set ?_ GE287.out) | exact HB.out))⟩)
               ·skip
                obtain ⟨Ao44, co44, eo44⟩ := Kd.R_slice HO299.out
                subst eo44
                refine Kd.N_lit_step (Kd.slice 3 (Kd.int .i64)) _ 36 ?hg (N' := 27) ?hd (xs := ([y297] : List (List Int))) (inner := [.slice Ao44 y297.length co44]) (ok := (fun k_ => some k_ ≠ (.slice Ao33 t281.length co33 : Value).ownBlock ∧ some k_ ≠ (.slice Ao35 t284.length co35 : Value).ownBlock ∧ k_ ≠ gb287)) (okp := (fun k_ => some k_ ≠ (.slice Ao33 t281.length co33 : Value).ownBlock ∧ some k_ ≠ (.slice Ao35 t284.length co35 : Value).ownBlock ∧ k_ ≠ gb287)) ?hr ?hp (fun _ hk => hk) ((show ∀ k_, w43.heap.size ≤ k_ → (fun k_ => some k_ ≠ (.slice Ao33 t281.length co33 : Value).ownBlock ∧ some k_ ≠ (.slice Ao35 t284.length co35 : Value).ownBlock ∧ k_ ≠ gb287) k_ from fun k_ hk => ⟨Kd.fresh' (Kd.N_lt (by (with_reducible repeat (first | apply Kd.N_alloc | apply Kd.N_drewN | apply Kd.N_drew)); exact HO283.out)) k_ hk, Kd.fresh' (Kd.N_lt (by (with_reducible repeat (first | apply Kd.N_alloc | apply Kd.N_drewN | apply Kd.N_drew)); exact HO286.out)) k_ hk, Kd.freshB (g := gb287) (o := .cells #[.slice Ao33 t281.length co33, .slice Ao35 t284.length co35] 25 (0, 0)) (by (with_reducible repeat (first | refine blk_drewN ?_ _ | refine blk_drew ?_ | refine blk_alloc ?_ _)); exact BK287.out) k_ hk⟩) _ (Nat.le_refl _)) (Below.refl _ _) (Nat.le_refl _) (by simp) ?_; (case hd => rfl); (case hg => rfl); (case hr => first | (go_simp; done) | (go_simp; rfl) | (obtain ⟨A_, c_, e_⟩ := Kd.R_slice HO299.out; rw [e_]; go_simp; done) | (obtain ⟨A_, c_, e_⟩ := Kd.R_slice HO299.out; rw [e_]; go_simp; rfl)); (case hp => exact (Reps.one (show Kd.FK (Kd.slice 3 (Kd.int .i64)) _ _ y297 [.slice Ao44 y297.length co44] from (Kd.FK_slice_mk (Kd.R_reads' (Kd.R_mono (ok' := (fun k_ => some k_ ≠ (.slice Ao33 t281.length co33 : Value).ownBlock ∧ some k_ ≠ (.slice Ao35 t284.length co35 : Value).ownBlock ∧ k_ ≠ gb287)) (Kd.R_types (Kd.R_apart' (Kd.R_apart' (HO299.out) (Kd.N_typed HO283.out) (by decide)) (Kd.N_typed HO286.out) (by decide)) BK287.out (by decide)) (fun k_ hk => ⟨hk.1.1.2, ⟨hk.1.2, hk.2⟩⟩))).2.1 (Kd.R_F (Kd.R_mono (ok' := (fun k_ => some k_ ≠ (.slice Ao33 t281.length co33 : Value).ownBlock ∧ some k_ ≠ (.slice Ao35 t284.length co35 : Value).ownBlock ∧ k_ ≠ gb287)) (Kd.R_types (Kd.R_apart' (Kd.R_apart' (HO299.out) (Kd.N_typed HO283.out) (by decide)) (Kd.N_typed HO286.out) (by decide)) BK287.out (by decide)) (fun k_ hk => ⟨hk.1.1.2, ⟨hk.1.2, hk.2⟩⟩))))) (Reps.none _ _)))
                intro v301 w45 ho46 hb hg_ hnew_
                clear hg_ hnew_
                (first | rw [← Ny300.out] at ho46 | (simp only [Int.reduceToNat] at ho46; rw [← Ny300.out] at ho46))
                have n0_ := Aside0.mk (Kd.N_elder' (by (with_reducible repeat (first | apply Kd.N_alloc | apply Kd.N_drewN | apply Kd.N_drew)); exact HO283.out) (Kd.N_base ho46) hb)
                have n1_ := Aside0.mk (Kd.N_elder' (by (with_reducible repeat (first | apply Kd.N_alloc | apply Kd.N_drewN | apply Kd.N_drew)); exact HO286.out) (Kd.N_base ho46) hb)
                have n2_ := Aside0.mk (Kd.N_lower ho46 (below_size (by repeat (first | (with_reducible first | exact HB.out | apply below_alloc | apply pw_below_drewN | apply below_drew1 | refine below_set ?_ GE287.out) | exact HB.out))))
                have n3_ := Aside0.mk (blk_below (g := gb287) (o := .cells #[.slice Ao33 t281.length co33, .slice Ao35 t284.length co35] 25 (0, 0)) (by (with_reducible repeat (first | refine blk_drewN ?_ _ | refine blk_drew ?_ | refine blk_alloc ?_ _)); exact BK287.out) hb)
                have n4_ := Aside0.mk (below_step (by repeat (first | (with_reducible first | exact HB.out | apply below_alloc | apply pw_below_drewN | apply below_drew1 | refine below_set ?_ GE287.out) | exact HB.out)) hb)
                clear HO283
                clear HO286
                clear BK287
                clear HB
                clear HO299
                have HO283 := n0_
                have HO286 := n1_
                have HO302 := n2_
                have BK287 := n3_
                have HB := n4_
                clear n0_ n1_ n2_ n3_ n4_
                clear hb ho46
                refine hK.out _ _ ⟨(blk_cell BK287.out 0).trans rfl, (blk_cell BK287.out 1).trans rfl⟩ (fun hHeld => ?_)
                clear hK K
                refine norm_ (a' := ?_) ?_ ?_
                rotate_left
                ·show Act.put _ (some 27) _ = _
                 simp only [Act.put, List.setIfInBounds_toArray, List.set_cons_zero, List.set_cons_succ, i64_w, i32_w]
                 rfl
                exact norm_ (by first | (simp only [putAll, Act.put, List.setIfInBounds_toArray, List.set_cons_zero, List.set_cons_succ]; done) | (simp only [putAll, Act.put, List.setIfInBounds_toArray, List.set_cons_zero, List.set_cons_succ]; rfl)) (hJ10_11 (.slice Ao44 y297.length co44, v301) _ ⟨hHeld, (by (with_reducible repeat (first | apply Kd.N_alloc | apply Kd.N_drewN | apply Kd.N_drew)); exact Kd.N_mono HO283.out (fun _ hk => ⟨hk.1.1, ⟨hk.2, hk.1.2.2⟩⟩)), (by (with_reducible repeat (first | apply Kd.N_alloc | apply Kd.N_drewN | apply Kd.N_drew)); exact Kd.N_mono HO286.out (fun _ hk => ⟨hk.1.1, ⟨hk.2, hk.1.2.2⟩⟩)), (by (with_reducible repeat (first | apply Kd.N_alloc | apply Kd.N_drewN | apply Kd.N_drew)); exact HO302.out), (by (with_reducible repeat (first | refine blk_drewN ?_ _ | refine blk_drew ?_ | refine blk_alloc ?_ _)); exact BK287.out), (by repeat (first | (with_reducible first | exact HB.out | apply below_alloc | apply pw_below_drewN | apply below_drew1 | refine below_set ?_ GE287.out) | exact HB.out))⟩)
             ·skip
              rintro v292 w43 ⟨hS_, h0_, h1_, h2_, h3_, h4_⟩
              have n0_ : Aside0 (Kd.N (Kd.slice 3 (Kd.int .i64)) 36 w43 w.heap.size (fun k_ => some k_ ≠ (.slice Ao35 t284.length co35 : Value).ownBlock ∧ some k_ ≠ (v292 : Value).ownBlock ∧ k_ ≠ gb287) (.slice Ao33 t281.length co33) t281) := ⟨h0_⟩
              have n1_ : Aside0 (Kd.N (Kd.slice 3 (Kd.int .i64)) 36 w43 w.heap.size (fun k_ => some k_ ≠ (.slice Ao33 t281.length co33 : Value).ownBlock ∧ some k_ ≠ (v292 : Value).ownBlock ∧ k_ ≠ gb287) (.slice Ao35 t284.length co35) t284) := ⟨h1_⟩
              have n2_ : Aside0 (Kd.N (Kd.slice 3 (Kd.int .i64)) 36 w43 w.heap.size (fun k_ => some k_ ≠ (.slice Ao33 t281.length co33 : Value).ownBlock ∧ some k_ ≠ (.slice Ao35 t284.length co35 : Value).ownBlock ∧ k_ ≠ gb287) v292 y291) := ⟨h2_⟩
              have n3_ : Aside0 (w43.heap[gb287]? = some (.cells #[.slice Ao33 t281.length co33, .slice Ao35 t284.length co35] 25 (0, 0))) := ⟨h3_⟩
              have n4_ : Aside0 (Below w.heap.size w w43) := ⟨h4_⟩
              clear HO283
              clear HO286
              clear BK287
              clear HB
              clear h0_ h1_ h2_ h3_ h4_
              have HO283 := n0_
              have HO286 := n1_
              have HO293 := n2_
              have BK287 := n3_
              have HB := n4_
              clear n0_ n1_ n2_ n3_ n4_
              have hHeld : w43.cell? ⟨gb287, 0, none⟩ = some (.slice Ao33 t281.length co33) ∧ w43.cell? ⟨gb287, 1, none⟩ = some (.slice Ao35 t284.length co35) := hS_
              refine norm_ (a' := ?_) ?_ ?_
              rotate_left
              ·simp only [putAll, Act.put, List.setIfInBounds_toArray, List.set_cons_zero, List.set_cons_succ]
               rfl
              refine two_ (i := 9) (j := 10) (Ni := some 25) (Nj := some 26) #[true, true, true, true, true, true, true, true, true, true, false, false, false, true, true, false, false, false, false, false, false, false, false] #[true, true, true, true, true, true, true, true, true, false, true, false, false, true, true, false, false, false, false, false, false, false, false] rfl rfl rfl rfl (two_of HT_.out (by kernel_rfl)) (by decide) (by decide) (fun K hK => ?_) (fun K hK => ?_)
              ·skip
               refine Kd.N_append_rows_step (Kd.slice 3 (Kd.int .i64)) (w0 := w) w.heap.size (by rfl) (.tmp 22) (.tmp 24) 23 36 (.slice none 0 0) 24 rfl Try.underlying23 info36 rfl (by decide) (by omega) v292 y291 t281 _ _ _ (fun k_ => some k_ ≠ (.slice Ao35 t284.length co35 : Value).ownBlock ∧ k_ ≠ gb287) (fun k_ => ((fun k_ => some k_ ≠ (.slice Ao35 t284.length co35 : Value).ownBlock ∧ k_ ≠ gb287)) k_ ∧ some k_ ≠ (v292 : Value).ownBlock) rfl rfl ?aO ?aR (fun _ hk => hk) ?aF ?aB ?aS ?aL ?_
               (case aR => exact (by skip; exact Kd.N_F (Kd.N_mono (ok' := (fun k_ => ((fun k_ => some k_ ≠ (.slice Ao35 t284.length co35 : Value).ownBlock ∧ k_ ≠ gb287)) k_ ∧ some k_ ≠ (v292 : Value).ownBlock)) (HO283.out) (fun k_ hk => ⟨⟨hk.1, hk.2.2⟩, hk.2.1⟩))))
               (case aB => exact (by repeat (first | (with_reducible first | exact HB.out | apply below_alloc | apply pw_below_drewN | apply below_drew1 | refine below_set ?_ GE287.out) | exact HB.out)))
               (case aF => exact (fun k_ hk => ⟨Kd.fresh' (Kd.N_lt (by (with_reducible repeat (first | apply Kd.N_alloc | apply Kd.N_drewN | apply Kd.N_drew)); exact HO286.out)) k_ hk, Kd.freshB (g := gb287) (o := .cells #[.slice Ao33 t281.length co33, .slice Ao35 t284.length co35] 25 (0, 0)) (by (with_reducible repeat (first | refine blk_drewN ?_ _ | refine blk_drew ?_ | refine blk_alloc ?_ _)); exact BK287.out) k_ hk⟩))
               (case aO => exact (by (with_reducible repeat (first | apply Kd.N_alloc | apply Kd.N_drewN | apply Kd.N_drew)); exact Kd.N_mono HO293.out (fun _ hk => ⟨hk.2.1, hk.2.2⟩)))
               (case aS => exact (below_size (by repeat (first | (with_reducible first | exact HB.out | apply below_alloc | apply pw_below_drewN | apply below_drew1 | refine below_set ?_ GE287.out) | exact HB.out))))
               (case aL => have := LMc27.out; omega)
               intro v295 w44 ho hb hg hat
               rw [← Ny294.out] at ho
               have n0_ := Aside0.mk (Kd.N_afterv (ok := (fun k_ => some k_ ≠ (.slice Ao35 t284.length co35 : Value).ownBlock ∧ k_ ≠ gb287)) (by (with_reducible repeat (first | apply Kd.N_alloc | apply Kd.N_drewN | apply Kd.N_drew)); exact Kd.N_mono HO283.out (fun _ hk => ⟨⟨hk.1, hk.2.2⟩, hk.2.1⟩)) hg hat)
               have n1_ := Aside0.mk (Kd.N_afterv (ok := (fun k_ => some k_ ≠ (.slice Ao33 t281.length co33 : Value).ownBlock ∧ k_ ≠ gb287)) (by (with_reducible repeat (first | apply Kd.N_alloc | apply Kd.N_drewN | apply Kd.N_drew)); exact Kd.N_mono HO286.out (fun _ hk => ⟨⟨hk.1, hk.2.2⟩, hk.2.1⟩)) hg hat)
               have n2_ := Aside0.mk (blk_grown (g := gb287) (o := .cells #[.slice Ao33 t281.length co33, .slice Ao35 t284.length co35] 25 (0, 0)) (by (with_reducible repeat (first | refine blk_drewN ?_ _ | refine blk_drew ?_ | refine blk_alloc ?_ _)); exact BK287.out) hg (Kd.N_ne HO293.out BK287.out (by decide)))
               have n3_ := Aside0.mk (hb)
               have n4_ := Aside0.mk (ho)
               clear HO283
               clear HO286
               clear BK287
               clear HB
               clear HO293
               have HO283 := n0_
               have HO286 := n1_
               have BK287 := n2_
               have HB := n3_
               have HO296 := n4_
               clear n0_ n1_ n2_ n3_ n4_
               clear ho hb hg hat
               refine hK.out _ _ ⟨(blk_cell BK287.out 0).trans rfl, (blk_cell BK287.out 1).trans rfl⟩ (fun hHeld => ?_)
               clear hK K
               refine norm_ (a' := ?_) ?_ ?_
               rotate_left
               ·show Act.put _ (some 25) _ = _
                simp only [Act.put, List.setIfInBounds_toArray, List.set_cons_zero, List.set_cons_succ, i64_w, i32_w]
                rfl
               exact norm_ (by first | (simp only [putAll, Act.put, List.setIfInBounds_toArray, List.set_cons_zero, List.set_cons_succ]; done) | (simp only [putAll, Act.put, List.setIfInBounds_toArray, List.set_cons_zero, List.set_cons_succ]; rfl)) (hJ6_9 (v292, v295) _ ⟨hHeld, (by (with_reducible repeat (first | apply Kd.N_alloc | apply Kd.N_drewN | apply Kd.N_drew)); exact Kd.N_mono HO283.out (fun _ hk => ⟨hk.1.1, ⟨hk.2, hk.1.2⟩⟩)), (by (with_reducible repeat (first | apply Kd.N_alloc | apply Kd.N_drewN | apply Kd.N_drew)); exact Kd.N_mono HO286.out (fun _ hk => ⟨hk.1.1, ⟨hk.2, hk.1.2⟩⟩)), (by (with_reducible repeat (first | apply Kd.N_alloc | apply Kd.N_drewN | apply Kd.N_drew)); exact HO296.out), (by (with_reducible repeat (first | refine blk_drewN ?_ _ | refine blk_drew ?_ | refine blk_alloc ?_ _)); exact BK287.out), (by repeat (first | (with_reducible first | exact HB.out | apply below_alloc | apply pw_below_drewN | apply below_drew1 | refine below_set ?_ GE287.out) | exact HB.out))⟩)
              ·skip
               refine Kd.R_lit_step (Kd.int .i64) _ 3 ?hg (N := 26) ?hd (xs := ([6] : List Int)) (inner := [.int .i64 6]) (ok := fun _ => True) (okp := fun _ => True) ?hr ?hp (fun _ hk => hk) trivial (Below.refl _ _) (Nat.le_refl _) (by simp) ?_; (case hd => rfl); (case hg => rfl); (case hr => first | (go_simp; done) | (go_simp; rfl)); (case hp => exact (Reps.one (show Kd.M (Kd.int .i64) _ _ _ 6 [.int .i64 6] from rfl) (Reps.none _ _)))
               intro v298 w44 ho45 hb hg_ hnew_
               clear hg_ hnew_
               (first | rw [← Ny297.out] at ho45 | (simp only [Int.reduceToNat] at ho45; rw [← Ny297.out] at ho45))
               have n0_ := Aside0.mk (Kd.N_elder' (by (with_reducible repeat (first | apply Kd.N_alloc | apply Kd.N_drewN | apply Kd.N_drew)); exact HO283.out) (Kd.R_base ho45) hb)
               have n1_ := Aside0.mk (Kd.N_elder' (by (with_reducible repeat (first | apply Kd.N_alloc | apply Kd.N_drewN | apply Kd.N_drew)); exact HO286.out) (Kd.R_base ho45) hb)
               have n2_ := Aside0.mk (Kd.N_elder' (by (with_reducible repeat (first | apply Kd.N_alloc | apply Kd.N_drewN | apply Kd.N_drew)); exact HO293.out) (Kd.R_base ho45) hb)
               have n3_ := Aside0.mk (Kd.R_lower ho45 (below_size (by repeat (first | (with_reducible first | exact HB.out | apply below_alloc | apply pw_below_drewN | apply below_drew1 | refine below_set ?_ GE287.out) | exact HB.out))))
               have n4_ := Aside0.mk (blk_below (g := gb287) (o := .cells #[.slice Ao33 t281.length co33, .slice Ao35 t284.length co35] 25 (0, 0)) (by (with_reducible repeat (first | refine blk_drewN ?_ _ | refine blk_drew ?_ | refine blk_alloc ?_ _)); exact BK287.out) hb)
               have n5_ := Aside0.mk (below_step (by repeat (first | (with_reducible first | exact HB.out | apply below_alloc | apply pw_below_drewN | apply below_drew1 | refine below_set ?_ GE287.out) | exact HB.out)) hb)
               clear HO283
               clear HO286
               clear HO293
               clear BK287
               clear HB
               have HO283 := n0_
               have HO286 := n1_
               have HO293 := n2_
               have HO299 := n3_
               have BK287 := n4_
               have HB := n5_
               clear n0_ n1_ n2_ n3_ n4_ n5_
               clear hb ho45
               refine hK.out _ _ ⟨(blk_cell BK287.out 0).trans rfl, (blk_cell BK287.out 1).trans rfl⟩ (fun hHeld => ?_)
               clear hK K
               refine norm_ (a' := ?_) ?_ ?_
               rotate_left
               ·show Act.put _ (some 26) _ = _
                simp only [Act.put, List.setIfInBounds_toArray, List.set_cons_zero, List.set_cons_succ, i64_w, i32_w]
                rfl
               exact norm_ (by first | (simp only [putAll, Act.put, List.setIfInBounds_toArray, List.set_cons_zero, List.set_cons_succ]; done) | (simp only [putAll, Act.put, List.setIfInBounds_toArray, List.set_cons_zero, List.set_cons_succ]; rfl)) (hJ6_10 (v292, v298) _ ⟨hHeld, (by (with_reducible repeat (first | apply Kd.N_alloc | apply Kd.N_drewN | apply Kd.N_drew)); exact Kd.N_mono HO283.out (fun _ hk => ⟨hk.1.1, ⟨hk.1.2.1, ⟨hk.2, hk.1.2.2⟩⟩⟩)), (by (with_reducible repeat (first | apply Kd.N_alloc | apply Kd.N_drewN | apply Kd.N_drew)); exact Kd.N_mono HO286.out (fun _ hk => ⟨hk.1.1, ⟨hk.1.2.1, ⟨hk.2, hk.1.2.2⟩⟩⟩)), (by (with_reducible repeat (first | apply Kd.N_alloc | apply Kd.N_drewN | apply Kd.N_drew)); exact Kd.N_mono HO293.out (fun _ hk => ⟨hk.1.1, ⟨hk.1.2.1, ⟨hk.2, hk.1.2.2⟩⟩⟩)), (by (with_reducible repeat (first | apply Kd.R_alloc | apply Kd.R_drewN | apply Kd.R_drew)); exact HO299.out), (by (with_reducible repeat (first | refine blk_drewN ?_ _ | refine blk_drew ?_ | refine blk_alloc ?_ _)); exact BK287.out), (by repeat (first | (with_reducible first | exact HB.out | apply below_alloc | apply pw_below_drewN | apply below_drew1 | refine below_set ?_ GE287.out) | exact HB.out))⟩)
            ·skip
             rintro ⟨v298, v301⟩ w46 ⟨hS_, h0_, h1_, h2_, h3_, h4_⟩
             have n0_ : Aside0 (Kd.N (Kd.slice 3 (Kd.int .i64)) 36 w46 w.heap.size (fun k_ => some k_ ≠ (.slice Ao35 t284.length co35 : Value).ownBlock ∧ some k_ ≠ (v301 : Value).ownBlock ∧ k_ ≠ gb287) (.slice Ao33 t281.length co33) t281) := ⟨h0_⟩
             have n1_ : Aside0 (Kd.N (Kd.slice 3 (Kd.int .i64)) 36 w46 w.heap.size (fun k_ => some k_ ≠ (.slice Ao33 t281.length co33 : Value).ownBlock ∧ some k_ ≠ (v301 : Value).ownBlock ∧ k_ ≠ gb287) (.slice Ao35 t284.length co35) t284) := ⟨h1_⟩
             have n2_ : Aside0 (Kd.N (Kd.slice 3 (Kd.int .i64)) 36 w46 w.heap.size (fun k_ => some k_ ≠ (.slice Ao33 t281.length co33 : Value).ownBlock ∧ some k_ ≠ (.slice Ao35 t284.length co35 : Value).ownBlock ∧ k_ ≠ gb287) v301 y300) := ⟨h2_⟩
             have n3_ : Aside0 (w46.heap[gb287]? = some (.cells #[.slice Ao33 t281.length co33, .slice Ao35 t284.length co35] 25 (0, 0))) := ⟨h3_⟩
             have n4_ : Aside0 (Below w.heap.size w w46) := ⟨h4_⟩
             clear HO283
             clear HO286
             clear BK287
             clear HB
             clear h0_ h1_ h2_ h3_ h4_
             have HO283 := n0_
             have HO286 := n1_
             have HO302 := n2_
             have BK287 := n3_
             have HB := n4_
             clear n0_ n1_ n2_ n3_ n4_
             have hHeld : w46.cell? ⟨gb287, 0, none⟩ = some (.slice Ao33 t281.length co33) ∧ w46.cell? ⟨gb287, 1, none⟩ = some (.slice Ao35 t284.length co35) := hS_
             refine norm_ (a' := ?_) ?_ ?_
             rotate_left
             ·simp only [putAll, Act.put, List.setIfInBounds_toArray, List.set_cons_zero, List.set_cons_succ]
              rfl
             refine one_ (i := 6) (N := some 22) #[true, true, true, true, true, true, true, true, true, false, true, true, false, true, true, false, false, false, false, false, false, false, false] rfl rfl (one_of HT_.out (by kernel_rfl)) (by decide) (fun K hK => ?_)
             refine Kd.N_lit_step (Kd.slice 3 (Kd.int .i64)) _ 36 ?hg (N' := 22) ?hd (xs := ([] : List (List Int))) (inner := []) (ok := (fun k_ => some k_ ≠ (.slice Ao33 t281.length co33 : Value).ownBlock ∧ some k_ ≠ (.slice Ao35 t284.length co35 : Value).ownBlock ∧ some k_ ≠ (v301 : Value).ownBlock ∧ k_ ≠ gb287)) (okp := (fun k_ => some k_ ≠ (.slice Ao33 t281.length co33 : Value).ownBlock ∧ some k_ ≠ (.slice Ao35 t284.length co35 : Value).ownBlock ∧ some k_ ≠ (v301 : Value).ownBlock ∧ k_ ≠ gb287)) ?hr ?hp (fun _ hk => hk) ((show ∀ k_, w46.heap.size ≤ k_ → (fun k_ => some k_ ≠ (.slice Ao33 t281.length co33 : Value).ownBlock ∧ some k_ ≠ (.slice Ao35 t284.length co35 : Value).ownBlock ∧ some k_ ≠ (v301 : Value).ownBlock ∧ k_ ≠ gb287) k_ from fun k_ hk => ⟨Kd.fresh' (Kd.N_lt (by (with_reducible repeat (first | apply Kd.N_alloc | apply Kd.N_drewN | apply Kd.N_drew)); exact HO283.out)) k_ hk, Kd.fresh' (Kd.N_lt (by (with_reducible repeat (first | apply Kd.N_alloc | apply Kd.N_drewN | apply Kd.N_drew)); exact HO286.out)) k_ hk, Kd.fresh' (Kd.N_lt (by (with_reducible repeat (first | apply Kd.N_alloc | apply Kd.N_drewN | apply Kd.N_drew)); exact HO302.out)) k_ hk, Kd.freshB (g := gb287) (o := .cells #[.slice Ao33 t281.length co33, .slice Ao35 t284.length co35] 25 (0, 0)) (by (with_reducible repeat (first | refine blk_drewN ?_ _ | refine blk_drew ?_ | refine blk_alloc ?_ _)); exact BK287.out) k_ hk⟩) _ (Nat.le_refl _)) (Below.refl _ _) (Nat.le_refl _) (by simp) ?_; (case hd => rfl); (case hg => rfl); (case hr => first | (go_simp; done) | (go_simp; rfl)); (case hp => exact (Reps.none _ _))
             intro v292 w47 ho48 hb hg_ hnew_
             clear hg_ hnew_
             (first | rw [← Ny291.out] at ho48 | (simp only [Int.reduceToNat] at ho48; rw [← Ny291.out] at ho48))
             have n0_ := Aside0.mk (Kd.N_elder' (by (with_reducible repeat (first | apply Kd.N_alloc | apply Kd.N_drewN | apply Kd.N_drew)); exact HO283.out) (Kd.N_base ho48) hb)
             have n1_ := Aside0.mk (Kd.N_elder' (by (with_reducible repeat (first | apply Kd.N_alloc | apply Kd.N_drewN | apply Kd.N_drew)); exact HO286.out) (Kd.N_base ho48) hb)
             have n2_ := Aside0.mk (Kd.N_elder' (by (with_reducible repeat (first | apply Kd.N_alloc | apply Kd.N_drewN | apply Kd.N_drew)); exact HO302.out) (Kd.N_base ho48) hb)
             have n3_ := Aside0.mk (Kd.N_lower ho48 (below_size (by repeat (first | (with_reducible first | exact HB.out | apply below_alloc | apply pw_below_drewN | apply below_drew1 | refine below_set ?_ GE287.out) | exact HB.out))))
             have n4_ := Aside0.mk (blk_below (g := gb287) (o := .cells #[.slice Ao33 t281.length co33, .slice Ao35 t284.length co35] 25 (0, 0)) (by (with_reducible repeat (first | refine blk_drewN ?_ _ | refine blk_drew ?_ | refine blk_alloc ?_ _)); exact BK287.out) hb)
             have n5_ := Aside0.mk (below_step (by repeat (first | (with_reducible first | exact HB.out | apply below_alloc | apply pw_below_drewN | apply below_drew1 | refine below_set ?_ GE287.out) | exact HB.out)) hb)
             clear HO283
             clear HO286
             clear HO302
             clear BK287
             clear HB
             have HO283 := n0_
             have HO286 := n1_
             have HO302 := n2_
             have HO293 := n3_
             have BK287 := n4_
             have HB := n5_
             clear n0_ n1_ n2_ n3_ n4_ n5_
             clear hb ho48
             refine hK.out _ _ ⟨(blk_cell BK287.out 0).trans rfl, (blk_cell BK287.out 1).trans rfl⟩ (fun hHeld => ?_)
             clear hK K
             refine norm_ (a' := ?_) ?_ ?_
             rotate_left
             ·show Act.put _ (some 22) _ = _
              simp only [Act.put, List.setIfInBounds_toArray, List.set_cons_zero, List.set_cons_succ, i64_w, i32_w]
              rfl
             exact norm_ (by first | (simp only [putAll, Act.put, List.setIfInBounds_toArray, List.set_cons_zero, List.set_cons_succ]; done) | (simp only [putAll, Act.put, List.setIfInBounds_toArray, List.set_cons_zero, List.set_cons_succ]; rfl)) (hJ6_10_11 (v292, v298, v301) _ ⟨hHeld, (by (with_reducible repeat (first | apply Kd.N_alloc | apply Kd.N_drewN | apply Kd.N_drew)); exact Kd.N_mono HO283.out (fun _ hk => ⟨hk.1.1, ⟨hk.2, ⟨hk.1.2.1, hk.1.2.2⟩⟩⟩)), (by (with_reducible repeat (first | apply Kd.N_alloc | apply Kd.N_drewN | apply Kd.N_drew)); exact Kd.N_mono HO286.out (fun _ hk => ⟨hk.1.1, ⟨hk.2, ⟨hk.1.2.1, hk.1.2.2⟩⟩⟩)), (by (with_reducible repeat (first | apply Kd.N_alloc | apply Kd.N_drewN | apply Kd.N_drew)); exact HO293.out), (by (with_reducible repeat (first | apply Kd.N_alloc | apply Kd.N_drewN | apply Kd.N_drew)); exact Kd.N_mono HO302.out (fun _ hk => ⟨hk.1.1, ⟨hk.1.2.1, ⟨hk.2, hk.1.2.2⟩⟩⟩)), (by (with_reducible repeat (first | refine blk_drewN ?_ _ | refine blk_drew ?_ | refine blk_alloc ?_ _)); exact BK287.out), (by repeat (first | (with_reducible first | exact HB.out | apply below_alloc | apply pw_below_drewN | apply below_drew1 | refine below_set ?_ GE287.out) | exact HB.out))⟩)
           ·skip
            rintro ⟨v292, v298⟩ w45 ⟨hS_, h0_, h1_, h2_, h3_, h4_, h5_⟩
            have n0_ : Aside0 (Kd.N (Kd.slice 3 (Kd.int .i64)) 36 w45 w.heap.size (fun k_ => some k_ ≠ (.slice Ao35 t284.length co35 : Value).ownBlock ∧ some k_ ≠ (v292 : Value).ownBlock ∧ some k_ ≠ (v298 : Value).ownBlock ∧ k_ ≠ gb287) (.slice Ao33 t281.length co33) t281) := ⟨h0_⟩
            have n1_ : Aside0 (Kd.N (Kd.slice 3 (Kd.int .i64)) 36 w45 w.heap.size (fun k_ => some k_ ≠ (.slice Ao33 t281.length co33 : Value).ownBlock ∧ some k_ ≠ (v292 : Value).ownBlock ∧ some k_ ≠ (v298 : Value).ownBlock ∧ k_ ≠ gb287) (.slice Ao35 t284.length co35) t284) := ⟨h1_⟩
            have n2_ : Aside0 (Kd.N (Kd.slice 3 (Kd.int .i64)) 36 w45 w.heap.size (fun k_ => some k_ ≠ (.slice Ao33 t281.length co33 : Value).ownBlock ∧ some k_ ≠ (.slice Ao35 t284.length co35 : Value).ownBlock ∧ some k_ ≠ (v298 : Value).ownBlock ∧ k_ ≠ gb287) v292 y291) := ⟨h2_⟩
            have n3_ : Aside0 (Kd.R (Kd.int .i64) 3 w45 w.heap.size (fun _ => True) v298 y297) := ⟨h3_⟩
            have n4_ : Aside0 (w45.heap[gb287]? = some (.cells #[.slice Ao33 t281.length co33, .slice Ao35 t284.length co35] 25 (0, 0))) := ⟨h4_⟩
            have n5_ : Aside0 (Below w.heap.size w w45) := ⟨h5_⟩
            clear HO283
            clear HO286
            clear BK287
            clear HB
            clear h0_ h1_ h2_ h3_ h4_ h5_
            have HO283 := n0_
            have HO286 := n1_
            have HO293 := n2_
            have HO299 := n3_
            have BK287 := n4_
            have HB := n5_
            clear n0_ n1_ n2_ n3_ n4_ n5_
            have hHeld : w45.cell? ⟨gb287, 0, none⟩ = some (.slice Ao33 t281.length co33) ∧ w45.cell? ⟨gb287, 1, none⟩ = some (.slice Ao35 t284.length co35) := hS_
            refine norm_ (a' := ?_) ?_ ?_
            rotate_left
            ·simp only [putAll, Act.put, List.setIfInBounds_toArray, List.set_cons_zero, List.set_cons_succ]
             rfl
            refine two_ (i := 9) (j := 11) (Ni := some 25) (Nj := some 27) #[true, true, true, true, true, true, true, true, true, true, true, false, false, true, true, false, false, false, false, false, false, false, false] #[true, true, true, true, true, true, true, true, true, false, true, true, false, true, true, false, false, false, false, false, false, false, false] rfl rfl rfl rfl (two_of HT_.out (by kernel_rfl)) (by decide) (by decide) (fun K hK => ?_) (fun K hK => ?_)
            ·skip
             refine Kd.N_append_rows_step (Kd.slice 3 (Kd.int .i64)) (w0 := w) w.heap.size (by rfl) (.tmp 22) (.tmp 24) 23 36 (.slice none 0 0) 24 rfl Try.underlying23 info36 rfl (by decide) (by omega) v292 y291 t281 _ _ _ (fun k_ => some k_ ≠ (.slice Ao35 t284.length co35 : Value).ownBlock ∧ some k_ ≠ (v298 : Value).ownBlock ∧ k_ ≠ gb287) (fun k_ => ((fun k_ => some k_ ≠ (.slice Ao35 t284.length co35 : Value).ownBlock ∧ some k_ ≠ (v298 : Value).ownBlock ∧ k_ ≠ gb287)) k_ ∧ some k_ ≠ (v292 : Value).ownBlock) rfl rfl ?aO ?aR (fun _ hk => hk) ?aF ?aB ?aS ?aL ?_
             (case aR => exact (by skip; exact Kd.N_F (Kd.N_mono (ok' := (fun k_ => ((fun k_ => some k_ ≠ (.slice Ao35 t284.length co35 : Value).ownBlock ∧ some k_ ≠ (v298 : Value).ownBlock ∧ k_ ≠ gb287)) k_ ∧ some k_ ≠ (v292 : Value).ownBlock)) (HO283.out) (fun k_ hk => ⟨⟨hk.1, ⟨hk.2.2.1, hk.2.2.2⟩⟩, hk.2.1⟩))))
             (case aB => exact (by repeat (first | (with_reducible first | exact HB.out | apply below_alloc | apply pw_below_drewN | apply below_drew1 | refine below_set ?_ GE287.out) | exact HB.out)))
             (case aF => exact (fun k_ hk => ⟨Kd.fresh' (Kd.N_lt (by (with_reducible repeat (first | apply Kd.N_alloc | apply Kd.N_drewN | apply Kd.N_drew)); exact HO286.out)) k_ hk, Kd.fresh' (Kd.R_lt (by (with_reducible repeat (first | apply Kd.R_alloc | apply Kd.R_drewN | apply Kd.R_drew)); exact HO299.out)) k_ hk, Kd.freshB (g := gb287) (o := .cells #[.slice Ao33 t281.length co33, .slice Ao35 t284.length co35] 25 (0, 0)) (by (with_reducible repeat (first | refine blk_drewN ?_ _ | refine blk_drew ?_ | refine blk_alloc ?_ _)); exact BK287.out) k_ hk⟩))
             (case aO => exact (by (with_reducible repeat (first | apply Kd.N_alloc | apply Kd.N_drewN | apply Kd.N_drew)); exact Kd.N_mono HO293.out (fun _ hk => ⟨hk.2.1, ⟨hk.2.2.1, hk.2.2.2⟩⟩)))
             (case aS => exact (below_size (by repeat (first | (with_reducible first | exact HB.out | apply below_alloc | apply pw_below_drewN | apply below_drew1 | refine below_set ?_ GE287.out) | exact HB.out))))
             (case aL => have := LMc27.out; omega)
             intro v295 w46 ho hb hg hat
             rw [← Ny294.out] at ho
             have n0_ := Aside0.mk (Kd.N_afterv (ok := (fun k_ => some k_ ≠ (.slice Ao35 t284.length co35 : Value).ownBlock ∧ some k_ ≠ (v298 : Value).ownBlock ∧ k_ ≠ gb287)) (by (with_reducible repeat (first | apply Kd.N_alloc | apply Kd.N_drewN | apply Kd.N_drew)); exact Kd.N_mono HO283.out (fun _ hk => ⟨⟨hk.1, ⟨hk.2.2.1, hk.2.2.2⟩⟩, hk.2.1⟩)) hg hat)
             have n1_ := Aside0.mk (Kd.N_afterv (ok := (fun k_ => some k_ ≠ (.slice Ao33 t281.length co33 : Value).ownBlock ∧ some k_ ≠ (v298 : Value).ownBlock ∧ k_ ≠ gb287)) (by (with_reducible repeat (first | apply Kd.N_alloc | apply Kd.N_drewN | apply Kd.N_drew)); exact Kd.N_mono HO286.out (fun _ hk => ⟨⟨hk.1, ⟨hk.2.2.1, hk.2.2.2⟩⟩, hk.2.1⟩)) hg hat)
             have n2_ := Aside0.mk (blk_grown (g := gb287) (o := .cells #[.slice Ao33 t281.length co33, .slice Ao35 t284.length co35] 25 (0, 0)) (by (with_reducible repeat (first | refine blk_drewN ?_ _ | refine blk_drew ?_ | refine blk_alloc ?_ _)); exact BK287.out) hg (Kd.N_ne HO293.out BK287.out (by decide)))
             have n3_ := Aside0.mk (Kd.R_over' (by (with_reducible repeat (first | apply Kd.R_alloc | apply Kd.R_drewN | apply Kd.R_drew)); exact HO299.out) (Kd.N_typed (by (with_reducible repeat (first | apply Kd.N_alloc | apply Kd.N_drewN | apply Kd.N_drew)); exact HO293.out)) (by decide) hg)
             have n4_ := Aside0.mk (hb)
             have n5_ := Aside0.mk (ho)
             clear HO283
             clear HO286
             clear BK287
             clear HO299
             clear HB
             clear HO293
             have HO283 := n0_
             have HO286 := n1_
             have BK287 := n2_
             have HO299 := n3_
             have HB := n4_
             have HO296 := n5_
             clear n0_ n1_ n2_ n3_ n4_ n5_
             clear ho hb hg hat
             refine hK.out _ _ ⟨(blk_cell BK287.out 0).trans rfl, (blk_cell BK287.out 1).trans rfl⟩ (fun hHeld => ?_)
             clear hK K
             refine norm_ (a' := ?_) ?_ ?_
             rotate_left
             ·show Act.put _ (some 25) _ = _
              simp only [Act.put, List.setIfInBounds_toArray, List.set_cons_zero, List.set_cons_succ, i64_w, i32_w]
              rfl
             exact norm_ (by first | (simp only [putAll, Act.put, List.setIfInBounds_toArray, List.set_cons_zero, List.set_cons_succ]; done) | (simp only [putAll, Act.put, List.setIfInBounds_toArray, List.set_cons_zero, List.set_cons_succ]; rfl)) (hJ6_9_10 (v292, v295, v298) _ ⟨hHeld, (by (with_reducible repeat (first | apply Kd.N_alloc | apply Kd.N_drewN | apply Kd.N_drew)); exact Kd.N_mono HO283.out (fun _ hk => ⟨hk.1.1, ⟨hk.2, ⟨hk.1.2.1, hk.1.2.2⟩⟩⟩)), (by (with_reducible repeat (first | apply Kd.N_alloc | apply Kd.N_drewN | apply Kd.N_drew)); exact Kd.N_mono HO286.out (fun _ hk => ⟨hk.1.1, ⟨hk.2, ⟨hk.1.2.1, hk.1.2.2⟩⟩⟩)), (by (with_reducible repeat (first | apply Kd.N_alloc | apply Kd.N_drewN | apply Kd.N_drew)); exact HO296.out), (by (with_reducible repeat (first | apply Kd.R_alloc | apply Kd.R_drewN | apply Kd.R_drew)); exact HO299.out), (by (with_reducible repeat (first | refine blk_drewN ?_ _ | refine blk_drew ?_ | refine blk_alloc ?_ _)); exact BK287.out), (by repeat (first | (with_reducible first | exact HB.out | apply below_alloc | apply pw_below_drewN | apply below_drew1 | refine below_set ?_ GE287.out) | exact HB.out))⟩)
            ·skip
             obtain ⟨Ao46, co46, eo46⟩ := Kd.R_slice HO299.out
             subst eo46
             refine Kd.N_lit_step (Kd.slice 3 (Kd.int .i64)) _ 36 ?hg (N' := 27) ?hd (xs := ([y297] : List (List Int))) (inner := [.slice Ao46 y297.length co46]) (ok := (fun k_ => some k_ ≠ (.slice Ao33 t281.length co33 : Value).ownBlock ∧ some k_ ≠ (.slice Ao35 t284.length co35 : Value).ownBlock ∧ some k_ ≠ (v292 : Value).ownBlock ∧ k_ ≠ gb287)) (okp := (fun k_ => some k_ ≠ (.slice Ao33 t281.length co33 : Value).ownBlock ∧ some k_ ≠ (.slice Ao35 t284.length co35 : Value).ownBlock ∧ some k_ ≠ (v292 : Value).ownBlock ∧ k_ ≠ gb287)) ?hr ?hp (fun _ hk => hk) ((show ∀ k_, w45.heap.size ≤ k_ → (fun k_ => some k_ ≠ (.slice Ao33 t281.length co33 : Value).ownBlock ∧ some k_ ≠ (.slice Ao35 t284.length co35 : Value).ownBlock ∧ some k_ ≠ (v292 : Value).ownBlock ∧ k_ ≠ gb287) k_ from fun k_ hk => ⟨Kd.fresh' (Kd.N_lt (by (with_reducible repeat (first | apply Kd.N_alloc | apply Kd.N_drewN | apply Kd.N_drew)); exact HO283.out)) k_ hk, Kd.fresh' (Kd.N_lt (by (with_reducible repeat (first | apply Kd.N_alloc | apply Kd.N_drewN | apply Kd.N_drew)); exact HO286.out)) k_ hk, Kd.fresh' (Kd.N_lt (by (with_reducible repeat (first | apply Kd.N_alloc | apply Kd.N_drewN | apply Kd.N_drew)); exact HO293.out)) k_ hk, Kd.freshB (g := gb287) (o := .cells #[.slice Ao33 t281.length co33, .slice Ao35 t284.length co35] 25 (0, 0)) (by (with_reducible repeat (first | refine blk_drewN ?_ _ | refine blk_drew ?_ | refine blk_alloc ?_ _)); exact BK287.out) k_ hk⟩) _ (Nat.le_refl _)) (Below.refl _ _) (Nat.le_refl _) (by simp) ?_; (case hd => rfl); (case hg => rfl); (case hr => first | (go_simp; done) | (go_simp; rfl) | (obtain ⟨A_, c_, e_⟩ := Kd.R_slice HO299.out; rw [e_]; go_simp; done) | (obtain ⟨A_, c_, e_⟩ := Kd.R_slice HO299.out; rw [e_]; go_simp; rfl)); (case hp => exact (Reps.one (show Kd.FK (Kd.slice 3 (Kd.int .i64)) _ _ y297 [.slice Ao46 y297.length co46] from (Kd.FK_slice_mk (Kd.R_reads' (Kd.R_mono (ok' := (fun k_ => some k_ ≠ (.slice Ao33 t281.length co33 : Value).ownBlock ∧ some k_ ≠ (.slice Ao35 t284.length co35 : Value).ownBlock ∧ some k_ ≠ (v292 : Value).ownBlock ∧ k_ ≠ gb287)) (Kd.R_types (Kd.R_apart' (Kd.R_apart' (Kd.R_apart' (HO299.out) (Kd.N_typed HO283.out) (by decide)) (Kd.N_typed HO286.out) (by decide)) (Kd.N_typed HO293.out) (by decide)) BK287.out (by decide)) (fun k_ hk => ⟨hk.1.1.1.2, ⟨hk.1.1.2, ⟨hk.1.2, hk.2⟩⟩⟩))).2.1 (Kd.R_F (Kd.R_mono (ok' := (fun k_ => some k_ ≠ (.slice Ao33 t281.length co33 : Value).ownBlock ∧ some k_ ≠ (.slice Ao35 t284.length co35 : Value).ownBlock ∧ some k_ ≠ (v292 : Value).ownBlock ∧ k_ ≠ gb287)) (Kd.R_types (Kd.R_apart' (Kd.R_apart' (Kd.R_apart' (HO299.out) (Kd.N_typed HO283.out) (by decide)) (Kd.N_typed HO286.out) (by decide)) (Kd.N_typed HO293.out) (by decide)) BK287.out (by decide)) (fun k_ hk => ⟨hk.1.1.1.2, ⟨hk.1.1.2, ⟨hk.1.2, hk.2⟩⟩⟩))))) (Reps.none _ _)))
             intro v301 w47 ho48 hb hg_ hnew_
             clear hg_ hnew_
             (first | rw [← Ny300.out] at ho48 | (simp only [Int.reduceToNat] at ho48; rw [← Ny300.out] at ho48))
             have n0_ := Aside0.mk (Kd.N_elder' (by (with_reducible repeat (first | apply Kd.N_alloc | apply Kd.N_drewN | apply Kd.N_drew)); exact HO283.out) (Kd.N_base ho48) hb)
             have n1_ := Aside0.mk (Kd.N_elder' (by (with_reducible repeat (first | apply Kd.N_alloc | apply Kd.N_drewN | apply Kd.N_drew)); exact HO286.out) (Kd.N_base ho48) hb)
             have n2_ := Aside0.mk (Kd.N_elder' (by (with_reducible repeat (first | apply Kd.N_alloc | apply Kd.N_drewN | apply Kd.N_drew)); exact HO293.out) (Kd.N_base ho48) hb)
             have n3_ := Aside0.mk (Kd.N_lower ho48 (below_size (by repeat (first | (with_reducible first | exact HB.out | apply below_alloc | apply pw_below_drewN | apply below_drew1 | refine below_set ?_ GE287.out) | exact HB.out))))
             have n4_ := Aside0.mk (blk_below (g := gb287) (o := .cells #[.slice Ao33 t281.length co33, .slice Ao35 t284.length co35] 25 (0, 0)) (by (with_reducible repeat (first | refine blk_drewN ?_ _ | refine blk_drew ?_ | refine blk_alloc ?_ _)); exact BK287.out) hb)
             have n5_ := Aside0.mk (below_step (by repeat (first | (with_reducible first | exact HB.out | apply below_alloc | apply pw_below_drewN | apply below_drew1 | refine below_set ?_ GE287.out) | exact HB.out)) hb)
             clear HO283
             clear HO286
             clear HO293
             clear BK287
             clear HB
             clear HO299
             have HO283 := n0_
             have HO286 := n1_
             have HO293 := n2_
             have HO302 := n3_
             have BK287 := n4_
             have HB := n5_
             clear n0_ n1_ n2_ n3_ n4_ n5_
             clear hb ho48
             refine hK.out _ _ ⟨(blk_cell BK287.out 0).trans rfl, (blk_cell BK287.out 1).trans rfl⟩ (fun hHeld => ?_)
             clear hK K
             refine norm_ (a' := ?_) ?_ ?_
             rotate_left
             ·show Act.put _ (some 27) _ = _
              simp only [Act.put, List.setIfInBounds_toArray, List.set_cons_zero, List.set_cons_succ, i64_w, i32_w]
              rfl
             exact norm_ (by first | (simp only [putAll, Act.put, List.setIfInBounds_toArray, List.set_cons_zero, List.set_cons_succ]; done) | (simp only [putAll, Act.put, List.setIfInBounds_toArray, List.set_cons_zero, List.set_cons_succ]; rfl)) (hJ6_10_11 (v292, .slice Ao46 y297.length co46, v301) _ ⟨hHeld, (by (with_reducible repeat (first | apply Kd.N_alloc | apply Kd.N_drewN | apply Kd.N_drew)); exact Kd.N_mono HO283.out (fun _ hk => ⟨hk.1.1, ⟨hk.1.2.1, ⟨hk.2, hk.1.2.2.2⟩⟩⟩)), (by (with_reducible repeat (first | apply Kd.N_alloc | apply Kd.N_drewN | apply Kd.N_drew)); exact Kd.N_mono HO286.out (fun _ hk => ⟨hk.1.1, ⟨hk.1.2.1, ⟨hk.2, hk.1.2.2.2⟩⟩⟩)), (by (with_reducible repeat (first | apply Kd.N_alloc | apply Kd.N_drewN | apply Kd.N_drew)); exact Kd.N_mono HO293.out (fun _ hk => ⟨hk.1.1, ⟨hk.1.2.1, ⟨hk.2, hk.1.2.2.2⟩⟩⟩)), (by (with_reducible repeat (first | apply Kd.N_alloc | apply Kd.N_drewN | apply Kd.N_drew)); exact HO302.out), (by (with_reducible repeat (first | refine blk_drewN ?_ _ | refine blk_drew ?_ | refine blk_alloc ?_ _)); exact BK287.out), (by repeat (first | (with_reducible first | exact HB.out | apply below_alloc | apply pw_below_drewN | apply below_drew1 | refine below_set ?_ GE287.out) | exact HB.out))⟩)
          ·skip
           rintro ⟨v292, v295⟩ w44 ⟨hS_, h0_, h1_, h2_, h3_, h4_⟩
           have n0_ : Aside0 (Kd.N (Kd.slice 3 (Kd.int .i64)) 36 w44 w.heap.size (fun k_ => some k_ ≠ (.slice Ao35 t284.length co35 : Value).ownBlock ∧ some k_ ≠ (v295 : Value).ownBlock ∧ k_ ≠ gb287) (.slice Ao33 t281.length co33) t281) := ⟨h0_⟩
           have n1_ : Aside0 (Kd.N (Kd.slice 3 (Kd.int .i64)) 36 w44 w.heap.size (fun k_ => some k_ ≠ (.slice Ao33 t281.length co33 : Value).ownBlock ∧ some k_ ≠ (v295 : Value).ownBlock ∧ k_ ≠ gb287) (.slice Ao35 t284.length co35) t284) := ⟨h1_⟩
           have n2_ : Aside0 (Kd.N (Kd.slice 3 (Kd.int .i64)) 36 w44 w.heap.size (fun k_ => some k_ ≠ (.slice Ao35 t284.length co35 : Value).ownBlock ∧ k_ ≠ gb287) v295 y294) := ⟨h2_⟩
           have n3_ : Aside0 (w44.heap[gb287]? = some (.cells #[.slice Ao33 t281.length co33, .slice Ao35 t284.length co35] 25 (0, 0))) := ⟨h3_⟩
           have n4_ : Aside0 (Below w.heap.size w w44) := ⟨h4_⟩
           clear HO283
           clear HO286
           clear BK287
           clear HB
           clear h0_ h1_ h2_ h3_ h4_
           have HO283 := n0_
           have HO286 := n1_
           have HO296 := n2_
           have BK287 := n3_
           have HB := n4_
           clear n0_ n1_ n2_ n3_ n4_
           have hHeld : w44.cell? ⟨gb287, 0, none⟩ = some (.slice Ao33 t281.length co33) ∧ w44.cell? ⟨gb287, 1, none⟩ = some (.slice Ao35 t284.length co35) := hS_
           refine norm_ (a' := ?_) ?_ ?_
           rotate_left
           ·simp only [putAll, Act.put, List.setIfInBounds_toArray, List.set_cons_zero, List.set_cons_succ]
            rfl
           refine one_ (i := 10) (N := some 26) #[true, true, true, true, true, true, true, true, true, true, true, false, false, true, true, false, false, false, false, false, false, false, false] rfl rfl (one_of HT_.out (by kernel_rfl)) (by decide) (fun K hK => ?_)
           refine Kd.R_lit_step (Kd.int .i64) _ 3 ?hg (N := 26) ?hd (xs := ([6] : List Int)) (inner := [.int .i64 6]) (ok := fun _ => True) (okp := fun _ => True) ?hr ?hp (fun _ hk => hk) trivial (Below.refl _ _) (Nat.le_refl _) (by simp) ?_; (case hd => rfl); (case hg => rfl); (case hr => first | (go_simp; done) | (go_simp; rfl)); (case hp => exact (Reps.one (show Kd.M (Kd.int .i64) _ _ _ 6 [.int .i64 6] from rfl) (Reps.none _ _)))
           intro v298 w45 ho46 hb hg_ hnew_
           clear hg_ hnew_
           (first | rw [← Ny297.out] at ho46 | (simp only [Int.reduceToNat] at ho46; rw [← Ny297.out] at ho46))
           have n0_ := Aside0.mk (Kd.N_elder' (by (with_reducible repeat (first | apply Kd.N_alloc | apply Kd.N_drewN | apply Kd.N_drew)); exact HO283.out) (Kd.R_base ho46) hb)
           have n1_ := Aside0.mk (Kd.N_elder' (by (with_reducible repeat (first | apply Kd.N_alloc | apply Kd.N_drewN | apply Kd.N_drew)); exact HO286.out) (Kd.R_base ho46) hb)
           have n2_ := Aside0.mk (Kd.N_elder' (by (with_reducible repeat (first | apply Kd.N_alloc | apply Kd.N_drewN | apply Kd.N_drew)); exact HO296.out) (Kd.R_base ho46) hb)
           have n3_ := Aside0.mk (Kd.R_lower ho46 (below_size (by repeat (first | (with_reducible first | exact HB.out | apply below_alloc | apply pw_below_drewN | apply below_drew1 | refine below_set ?_ GE287.out) | exact HB.out))))
           have n4_ := Aside0.mk (blk_below (g := gb287) (o := .cells #[.slice Ao33 t281.length co33, .slice Ao35 t284.length co35] 25 (0, 0)) (by (with_reducible repeat (first | refine blk_drewN ?_ _ | refine blk_drew ?_ | refine blk_alloc ?_ _)); exact BK287.out) hb)
           have n5_ := Aside0.mk (below_step (by repeat (first | (with_reducible first | exact HB.out | apply below_alloc | apply pw_below_drewN | apply below_drew1 | refine below_set ?_ GE287.out) | exact HB.out)) hb)
           clear HO283
           clear HO286
           clear HO296
           clear BK287
           clear HB
           have HO283 := n0_
           have HO286 := n1_
           have HO296 := n2_
           have HO299 := n3_
           have BK287 := n4_
           have HB := n5_
           clear n0_ n1_ n2_ n3_ n4_ n5_
           clear hb ho46
           refine hK.out _ _ ⟨(blk_cell BK287.out 0).trans rfl, (blk_cell BK287.out 1).trans rfl⟩ (fun hHeld => ?_)
           clear hK K
           refine norm_ (a' := ?_) ?_ ?_
           rotate_left
           ·show Act.put _ (some 26) _ = _
            simp only [Act.put, List.setIfInBounds_toArray, List.set_cons_zero, List.set_cons_succ, i64_w, i32_w]
            rfl
           exact norm_ (by first | (simp only [putAll, Act.put, List.setIfInBounds_toArray, List.set_cons_zero, List.set_cons_succ]; done) | (simp only [putAll, Act.put, List.setIfInBounds_toArray, List.set_cons_zero, List.set_cons_succ]; rfl)) (hJ6_9_10 (v292, v295, v298) _ ⟨hHeld, (by (with_reducible repeat (first | apply Kd.N_alloc | apply Kd.N_drewN | apply Kd.N_drew)); exact Kd.N_mono HO283.out (fun _ hk => ⟨hk.1.1, ⟨hk.1.2.1, ⟨hk.2, hk.1.2.2⟩⟩⟩)), (by (with_reducible repeat (first | apply Kd.N_alloc | apply Kd.N_drewN | apply Kd.N_drew)); exact Kd.N_mono HO286.out (fun _ hk => ⟨hk.1.1, ⟨hk.1.2.1, ⟨hk.2, hk.1.2.2⟩⟩⟩)), (by (with_reducible repeat (first | apply Kd.N_alloc | apply Kd.N_drewN | apply Kd.N_drew)); exact Kd.N_mono HO296.out (fun _ hk => ⟨hk.1.1, ⟨hk.2, hk.1.2⟩⟩)), (by (with_reducible repeat (first | apply Kd.R_alloc | apply Kd.R_drewN | apply Kd.R_drew)); exact HO299.out), (by (with_reducible repeat (first | refine blk_drewN ?_ _ | refine blk_drew ?_ | refine blk_alloc ?_ _)); exact BK287.out), (by repeat (first | (with_reducible first | exact HB.out | apply below_alloc | apply pw_below_drewN | apply below_drew1 | refine below_set ?_ GE287.out) | exact HB.out))⟩)
         ·skip
          rintro ⟨v292, v298, v301⟩ w48 ⟨hS_, h0_, h1_, h2_, h3_, h4_, h5_⟩
          have n0_ : Aside0 (Kd.N (Kd.slice 3 (Kd.int .i64)) 36 w48 w.heap.size (fun k_ => some k_ ≠ (.slice Ao35 t284.length co35 : Value).ownBlock ∧ some k_ ≠ (v292 : Value).ownBlock ∧ some k_ ≠ (v301 : Value).ownBlock ∧ k_ ≠ gb287) (.slice Ao33 t281.length co33) t281) := ⟨h0_⟩
          have n1_ : Aside0 (Kd.N (Kd.slice 3 (Kd.int .i64)) 36 w48 w.heap.size (fun k_ => some k_ ≠ (.slice Ao33 t281.length co33 : Value).ownBlock ∧ some k_ ≠ (v292 : Value).ownBlock ∧ some k_ ≠ (v301 : Value).ownBlock ∧ k_ ≠ gb287) (.slice Ao35 t284.length co35) t284) := ⟨h1_⟩
          have n2_ : Aside0 (Kd.N (Kd.slice 3 (Kd.int .i64)) 36 w48 w.heap.size (fun k_ => some k_ ≠ (.slice Ao33 t281.length co33 : Value).ownBlock ∧ some k_ ≠ (.slice Ao35 t284.length co35 : Value).ownBlock ∧ some k_ ≠ (v301 : Value).ownBlock ∧ k_ ≠ gb287) v292 y291) := ⟨h2_⟩
          have n3_ : Aside0 (Kd.N (Kd.slice 3 (Kd.int .i64)) 36 w48 w.heap.size (fun k_ => some k_ ≠ (.slice Ao33 t281.length co33 : Value).ownBlock ∧ some k_ ≠ (.slice Ao35 t284.length co35 : Value).ownBlock ∧ some k_ ≠ (v292 : Value).ownBlock ∧ k_ ≠ gb287) v301 y300) := ⟨h3_⟩
          have n4_ : Aside0 (w48.heap[gb287]? = some (.cells #[.slice Ao33 t281.length co33, .slice Ao35 t284.length co35] 25 (0, 0))) := ⟨h4_⟩
          have n5_ : Aside0 (Below w.heap.size w w48) := ⟨h5_⟩
          clear HO283
          clear HO286
          clear BK287
          clear HB
          clear h0_ h1_ h2_ h3_ h4_ h5_
          have HO283 := n0_
          have HO286 := n1_
          have HO293 := n2_
          have HO302 := n3_
          have BK287 := n4_
          have HB := n5_
          clear n0_ n1_ n2_ n3_ n4_ n5_
          have hHeld : w48.cell? ⟨gb287, 0, none⟩ = some (.slice Ao33 t281.length co33) ∧ w48.cell? ⟨gb287, 1, none⟩ = some (.slice Ao35 t284.length co35) := hS_
          refine norm_ (a' := ?_) ?_ ?_
          rotate_left
          ·simp only [putAll, Act.put, List.setIfInBounds_toArray, List.set_cons_zero, List.set_cons_succ]
           rfl
          refine one_ (i := 9) (N := some 25) #[true, true, true, true, true, true, true, true, true, true, true, true, false, true, true, false, false, false, false, false, false, false, false] rfl rfl (one_of HT_.out (by kernel_rfl)) (by decide) (fun K hK => ?_)
          refine Kd.N_append_rows_step (Kd.slice 3 (Kd.int .i64)) (w0 := w) w.heap.size (by rfl) (.tmp 22) (.tmp 24) 23 36 (.slice none 0 0) 24 rfl Try.underlying23 info36 rfl (by decide) (by omega) v292 y291 t281 _ _ _ (fun k_ => some k_ ≠ (.slice Ao35 t284.length co35 : Value).ownBlock ∧ some k_ ≠ (v301 : Value).ownBlock ∧ k_ ≠ gb287) (fun k_ => ((fun k_ => some k_ ≠ (.slice Ao35 t284.length co35 : Value).ownBlock ∧ some k_ ≠ (v301 : Value).ownBlock ∧ k_ ≠ gb287)) k_ ∧ some k_ ≠ (v292 : Value).ownBlock) rfl rfl ?aO ?aR (fun _ hk => hk) ?aF ?aB ?aS ?aL ?_
          (case aR => exact (by skip; exact Kd.N_F (Kd.N_mono (ok' := (fun k_ => ((fun k_ => some k_ ≠ (.slice Ao35 t284.length co35 : Value).ownBlock ∧ some k_ ≠ (v301 : Value).ownBlock ∧ k_ ≠ gb287)) k_ ∧ some k_ ≠ (v292 : Value).ownBlock)) (HO283.out) (fun k_ hk => ⟨⟨hk.1, ⟨hk.2.2.1, hk.2.2.2⟩⟩, hk.2.1⟩))))
          (case aB => exact (by repeat (first | (with_reducible first | exact HB.out | apply below_alloc | apply pw_below_drewN | apply below_drew1 | refine below_set ?_ GE287.out) | exact HB.out)))
          (case aF => exact (fun k_ hk => ⟨Kd.fresh' (Kd.N_lt (by (with_reducible repeat (first | apply Kd.N_alloc | apply Kd.N_drewN | apply Kd.N_drew)); exact HO286.out)) k_ hk, Kd.fresh' (Kd.N_lt (by (with_reducible repeat (first | apply Kd.N_alloc | apply Kd.N_drewN | apply Kd.N_drew)); exact HO302.out)) k_ hk, Kd.freshB (g := gb287) (o := .cells #[.slice Ao33 t281.length co33, .slice Ao35 t284.length co35] 25 (0, 0)) (by (with_reducible repeat (first | refine blk_drewN ?_ _ | refine blk_drew ?_ | refine blk_alloc ?_ _)); exact BK287.out) k_ hk⟩))
          (case aO => exact (by (with_reducible repeat (first | apply Kd.N_alloc | apply Kd.N_drewN | apply Kd.N_drew)); exact Kd.N_mono HO293.out (fun _ hk => ⟨hk.2.1, ⟨hk.2.2.1, hk.2.2.2⟩⟩)))
          (case aS => exact (below_size (by repeat (first | (with_reducible first | exact HB.out | apply below_alloc | apply pw_below_drewN | apply below_drew1 | refine below_set ?_ GE287.out) | exact HB.out))))
          (case aL => have := LMc27.out; omega)
          intro v295 w49 ho hb hg hat
          rw [← Ny294.out] at ho
          have n0_ := Aside0.mk (Kd.N_afterv (ok := (fun k_ => some k_ ≠ (.slice Ao35 t284.length co35 : Value).ownBlock ∧ some k_ ≠ (v301 : Value).ownBlock ∧ k_ ≠ gb287)) (by (with_reducible repeat (first | apply Kd.N_alloc | apply Kd.N_drewN | apply Kd.N_drew)); exact Kd.N_mono HO283.out (fun _ hk => ⟨⟨hk.1, ⟨hk.2.2.1, hk.2.2.2⟩⟩, hk.2.1⟩)) hg hat)
          have n1_ := Aside0.mk (Kd.N_afterv (ok := (fun k_ => some k_ ≠ (.slice Ao33 t281.length co33 : Value).ownBlock ∧ some k_ ≠ (v301 : Value).ownBlock ∧ k_ ≠ gb287)) (by (with_reducible repeat (first | apply Kd.N_alloc | apply Kd.N_drewN | apply Kd.N_drew)); exact Kd.N_mono HO286.out (fun _ hk => ⟨⟨hk.1, ⟨hk.2.2.1, hk.2.2.2⟩⟩, hk.2.1⟩)) hg hat)
          have n2_ := Aside0.mk (blk_grown (g := gb287) (o := .cells #[.slice Ao33 t281.length co33, .slice Ao35 t284.length co35] 25 (0, 0)) (by (with_reducible repeat (first | refine blk_drewN ?_ _ | refine blk_drew ?_ | refine blk_alloc ?_ _)); exact BK287.out) hg (Kd.N_ne HO293.out BK287.out (by decide)))
          have n3_ := Aside0.mk (Kd.N_afterv (ok := (fun k_ => some k_ ≠ (.slice Ao33 t281.length co33 : Value).ownBlock ∧ some k_ ≠ (.slice Ao35 t284.length co35 : Value).ownBlock ∧ k_ ≠ gb287)) (by (with_reducible repeat (first | apply Kd.N_alloc | apply Kd.N_drewN | apply Kd.N_drew)); exact Kd.N_mono HO302.out (fun _ hk => ⟨⟨hk.1, ⟨hk.2.1, hk.2.2.2⟩⟩, hk.2.2.1⟩)) hg hat)
          have n4_ := Aside0.mk (hb)
          have n5_ := Aside0.mk (ho)
          clear HO283
          clear HO286
          clear BK287
          clear HO302
          clear HB
          clear HO293
          have HO283 := n0_
          have HO286 := n1_
          have BK287 := n2_
          have HO302 := n3_
          have HB := n4_
          have HO296 := n5_
          clear n0_ n1_ n2_ n3_ n4_ n5_
          clear ho hb hg hat
          refine hK.out _ _ ⟨(blk_cell BK287.out 0).trans rfl, (blk_cell BK287.out 1).trans rfl⟩ (fun hHeld => ?_)
          clear hK K
          refine norm_ (a' := ?_) ?_ ?_
          rotate_left
          ·show Act.put _ (some 25) _ = _
           simp only [Act.put, List.setIfInBounds_toArray, List.set_cons_zero, List.set_cons_succ, i64_w, i32_w]
           rfl
          exact norm_ (by first | (simp only [putAll, Act.put, List.setIfInBounds_toArray, List.set_cons_zero, List.set_cons_succ]; done) | (simp only [putAll, Act.put, List.setIfInBounds_toArray, List.set_cons_zero, List.set_cons_succ]; rfl)) (hJ6_9_10_11 (v292, v295, v298, v301) _ ⟨hHeld, (by (with_reducible repeat (first | apply Kd.N_alloc | apply Kd.N_drewN | apply Kd.N_drew)); exact Kd.N_mono HO283.out (fun _ hk => ⟨hk.1.1, ⟨hk.2, ⟨hk.1.2.1, hk.1.2.2⟩⟩⟩)), (by (with_reducible repeat (first | apply Kd.N_alloc | apply Kd.N_drewN | apply Kd.N_drew)); exact Kd.N_mono HO286.out (fun _ hk => ⟨hk.1.1, ⟨hk.2, ⟨hk.1.2.1, hk.1.2.2⟩⟩⟩)), (by (with_reducible repeat (first | apply Kd.N_alloc | apply Kd.N_drewN | apply Kd.N_drew)); exact HO296.out), (by (with_reducible repeat (first | apply Kd.N_alloc | apply Kd.N_drewN | apply Kd.N_drew)); exact Kd.N_mono HO302.out (fun _ hk => ⟨hk.1.1, ⟨hk.1.2.1, ⟨hk.2, hk.1.2.2⟩⟩⟩)), (by (with_reducible repeat (first | refine blk_drewN ?_ _ | refine blk_drew ?_ | refine blk_alloc ?_ _)); exact BK287.out), (by repeat (first | (with_reducible first | exact HB.out | apply below_alloc | apply pw_below_drewN | apply below_drew1 | refine below_set ?_ GE287.out) | exact HB.out))⟩)
        ·skip
         rintro ⟨v292, v295, v298⟩ w46 ⟨hS_, h0_, h1_, h2_, h3_, h4_, h5_⟩
         have n0_ : Aside0 (Kd.N (Kd.slice 3 (Kd.int .i64)) 36 w46 w.heap.size (fun k_ => some k_ ≠ (.slice Ao35 t284.length co35 : Value).ownBlock ∧ some k_ ≠ (v295 : Value).ownBlock ∧ some k_ ≠ (v298 : Value).ownBlock ∧ k_ ≠ gb287) (.slice Ao33 t281.length co33) t281) := ⟨h0_⟩
         have n1_ : Aside0 (Kd.N (Kd.slice 3 (Kd.int .i64)) 36 w46 w.heap.size (fun k_ => some k_ ≠ (.slice Ao33 t281.length co33 : Value).ownBlock ∧ some k_ ≠ (v295 : Value).ownBlock ∧ some k_ ≠ (v298 : Value).ownBlock ∧ k_ ≠ gb287) (.slice Ao35 t284.length co35) t284) := ⟨h1_⟩
         have n2_ : Aside0 (Kd.N (Kd.slice 3 (Kd.int .i64)) 36 w46 w.heap.size (fun k_ => some k_ ≠ (.slice Ao35 t284.length co35 : Value).ownBlock ∧ some k_ ≠ (v298 : Value).ownBlock ∧ k_ ≠ gb287) v295 y294) := ⟨h2_⟩
         have n3_ : Aside0 (Kd.R (Kd.int .i64) 3 w46 w.heap.size (fun _ => True) v298 y297) := ⟨h3_⟩
         have n4_ : Aside0 (w46.heap[gb287]? = some (.cells #[.slice Ao33 t281.length co33, .slice Ao35 t284.length co35] 25 (0, 0))) := ⟨h4_⟩
         have n5_ : Aside0 (Below w.heap.size w w46) := ⟨h5_⟩
         clear HO283
         clear HO286
         clear BK287
         clear HB
         clear h0_ h1_ h2_ h3_ h4_ h5_
         have HO283 := n0_
         have HO286 := n1_
         have HO296 := n2_
         have HO299 := n3_
         have BK287 := n4_
         have HB := n5_
         clear n0_ n1_ n2_ n3_ n4_ n5_
         have hHeld : w46.cell? ⟨gb287, 0, none⟩ = some (.slice Ao33 t281.length co33) ∧ w46.cell? ⟨gb287, 1, none⟩ = some (.slice Ao35 t284.length co35) := hS_
         obtain ⟨Ao47, co47, eo47⟩ := Kd.R_slice HO299.out
         (first | subst eo47 | (injection eo47 with f1_ f2_ f3_; have f4_ := f1_.symm; have f5_ := f3_.symm; clear f1_ f2_ f3_; subst f4_; subst f5_))
         refine norm_ (a' := ?_) ?_ ?_
         rotate_left
         ·simp only [putAll, Act.put, List.setIfInBounds_toArray, List.set_cons_zero, List.set_cons_succ]
          rfl
         refine one_ (i := 11) (N := some 27) #[true, true, true, true, true, true, true, true, true, true, true, true, false, true, true, false, false, false, false, false, false, false, false] rfl rfl (one_of HT_.out (by kernel_rfl)) (by decide) (fun K hK => ?_)
         refine Kd.N_lit_step (Kd.slice 3 (Kd.int .i64)) _ 36 ?hg (N' := 27) ?hd (xs := ([y297] : List (List Int))) (inner := [.slice Ao47 y297.length co47]) (ok := (fun k_ => some k_ ≠ (.slice Ao33 t281.length co33 : Value).ownBlock ∧ some k_ ≠ (.slice Ao35 t284.length co35 : Value).ownBlock ∧ some k_ ≠ (v295 : Value).ownBlock ∧ k_ ≠ gb287)) (okp := (fun k_ => some k_ ≠ (.slice Ao33 t281.length co33 : Value).ownBlock ∧ some k_ ≠ (.slice Ao35 t284.length co35 : Value).ownBlock ∧ some k_ ≠ (v295 : Value).ownBlock ∧ k_ ≠ gb287)) ?hr ?hp (fun _ hk => hk) ((show ∀ k_, w46.heap.size ≤ k_ → (fun k_ => some k_ ≠ (.slice Ao33 t281.length co33 : Value).ownBlock ∧ some k_ ≠ (.slice Ao35 t284.length co35 : Value).ownBlock ∧ some k_ ≠ (v295 : Value).ownBlock ∧ k_ ≠ gb287) k_ from fun k_ hk => ⟨Kd.fresh' (Kd.N_lt (by (with_reducible repeat (first | apply Kd.N_alloc | apply Kd.N_drewN | apply Kd.N_drew)); exact HO283.out)) k_ hk, Kd.fresh' (Kd.N_lt (by (with_reducible repeat (first | apply Kd.N_alloc | apply Kd.N_drewN | apply Kd.N_drew)); exact HO286.out)) k_ hk, Kd.fresh' (Kd.N_lt (by (with_reducible repeat (first | apply Kd.N_alloc | apply Kd.N_drewN | apply Kd.N_drew)); exact HO296.out)) k_ hk, Kd.freshB (g := gb287) (o := .cells #[.slice Ao33 t281.length co33, .slice Ao35 t284.length co35] 25 (0, 0)) (by (with_reducible repeat (first | refine blk_drewN ?_ _ | refine blk_drew ?_ | refine blk_alloc ?_ _)); exact BK287.out) k_ hk⟩) _ (Nat.le_refl _)) (Below.refl _ _) (Nat.le_refl _) (by simp) ?_; (case hd => rfl); (case hg => rfl); (case hr => first | (go_simp; done) | (go_simp; rfl) | (obtain ⟨A_, c_, e_⟩ := Kd.R_slice HO299.out; rw [e_]; go_simp; done) | (obtain ⟨A_, c_, e_⟩ := Kd.R_slice HO299.out; rw [e_]; go_simp; rfl)); (case hp => exact (Reps.one (show Kd.FK (Kd.slice 3 (Kd.int .i64)) _ _ y297 [.slice Ao47 y297.length co47] from (Kd.FK_slice_mk (Kd.R_reads' (Kd.R_mono (ok' := (fun k_ => some k_ ≠ (.slice Ao33 t281.length co33 : Value).ownBlock ∧ some k_ ≠ (.slice Ao35 t284.length co35 : Value).ownBlock ∧ some k_ ≠ (v295 : Value).ownBlock ∧ k_ ≠ gb287)) (Kd.R_types (Kd.R_apart' (Kd.R_apart' (Kd.R_apart' (HO299.out) (Kd.N_typed HO283.out) (by decide)) (Kd.N_typed HO286.out) (by decide)) (Kd.N_typed HO296.out) (by decide)) BK287.out (by decide)) (fun k_ hk => ⟨hk.1.1.1.2, ⟨hk.1.1.2, ⟨hk.1.2, hk.2⟩⟩⟩))).2.1 (Kd.R_F (Kd.R_mono (ok' := (fun k_ => some k_ ≠ (.slice Ao33 t281.length co33 : Value).ownBlock ∧ some k_ ≠ (.slice Ao35 t284.length co35 : Value).ownBlock ∧ some k_ ≠ (v295 : Value).ownBlock ∧ k_ ≠ gb287)) (Kd.R_types (Kd.R_apart' (Kd.R_apart' (Kd.R_apart' (HO299.out) (Kd.N_typed HO283.out) (by decide)) (Kd.N_typed HO286.out) (by decide)) (Kd.N_typed HO296.out) (by decide)) BK287.out (by decide)) (fun k_ hk => ⟨hk.1.1.1.2, ⟨hk.1.1.2, ⟨hk.1.2, hk.2⟩⟩⟩))))) (Reps.none _ _)))
         intro v301 w48 ho49 hb hg_ hnew_
         clear hg_ hnew_
         (first | rw [← Ny300.out] at ho49 | (simp only [Int.reduceToNat] at ho49; rw [← Ny300.out] at ho49))
         have n0_ := Aside0.mk (Kd.N_elder' (by (with_reducible repeat (first | apply Kd.N_alloc | apply Kd.N_drewN | apply Kd.N_drew)); exact HO283.out) (Kd.N_base ho49) hb)
         have n1_ := Aside0.mk (Kd.N_elder' (by (with_reducible repeat (first | apply Kd.N_alloc | apply Kd.N_drewN | apply Kd.N_drew)); exact HO286.out) (Kd.N_base ho49) hb)
         have n2_ := Aside0.mk (Kd.N_elder' (by (with_reducible repeat (first | apply Kd.N_alloc | apply Kd.N_drewN | apply Kd.N_drew)); exact HO296.out) (Kd.N_base ho49) hb)
         have n3_ := Aside0.mk (Kd.N_lower ho49 (below_size (by repeat (first | (with_reducible first | exact HB.out | apply below_alloc | apply pw_below_drewN | apply below_drew1 | refine below_set ?_ GE287.out) | exact HB.out))))
         have n4_ := Aside0.mk (blk_below (g := gb287) (o := .cells #[.slice Ao33 t281.length co33, .slice Ao35 t284.length co35] 25 (0, 0)) (by (with_reducible repeat (first | refine blk_drewN ?_ _ | refine blk_drew ?_ | refine blk_alloc ?_ _)); exact BK287.out) hb)
         have n5_ := Aside0.mk (below_step (by repeat (first | (with_reducible first | exact HB.out | apply below_alloc | apply pw_below_drewN | apply below_drew1 | refine below_set ?_ GE287.out) | exact HB.out)) hb)
         clear HO283
         clear HO286
         clear HO296
         clear BK287
         clear HB
         clear HO299
         have HO283 := n0_
         have HO286 := n1_
         have HO296 := n2_
         have HO302 := n3_
         have BK287 := n4_
         have HB := n5_
         clear n0_ n1_ n2_ n3_ n4_ n5_
         clear hb ho49
         refine hK.out _ _ ⟨(blk_cell BK287.out 0).trans rfl, (blk_cell BK287.out 1).trans rfl⟩ (fun hHeld => ?_)
         clear hK K
         refine norm_ (a' := ?_) ?_ ?_
         rotate_left
         ·show Act.put _ (some 27) _ = _
          simp only [Act.put, List.setIfInBounds_toArray, List.set_cons_zero, List.set_cons_succ, i64_w, i32_w]
          rfl
         exact norm_ (by first | (simp only [putAll, Act.put, List.setIfInBounds_toArray, List.set_cons_zero, List.set_cons_succ]; done) | (simp only [putAll, Act.put, List.setIfInBounds_toArray, List.set_cons_zero, List.set_cons_succ]; rfl)) (hJ6_9_10_11 (v292, v295, .slice Ao47 y297.length co47, v301) _ ⟨hHeld, (by (with_reducible repeat (first | apply Kd.N_alloc | apply Kd.N_drewN | apply Kd.N_drew)); exact Kd.N_mono HO283.out (fun _ hk => ⟨hk.1.1, ⟨hk.1.2.1, ⟨hk.2, hk.1.2.2.2⟩⟩⟩)), (by (with_reducible repeat (first | apply Kd.N_alloc | apply Kd.N_drewN | apply Kd.N_drew)); exact Kd.N_mono HO286.out (fun _ hk => ⟨hk.1.1, ⟨hk.1.2.1, ⟨hk.2, hk.1.2.2.2⟩⟩⟩)), (by (with_reducible repeat (first | apply Kd.N_alloc | apply Kd.N_drewN | apply Kd.N_drew)); exact Kd.N_mono HO296.out (fun _ hk => ⟨hk.1.1, ⟨hk.2, hk.1.2.2⟩⟩)), (by (with_reducible repeat (first | apply Kd.N_alloc | apply Kd.N_drewN | apply Kd.N_drew)); exact HO302.out), (by (with_reducible repeat (first | refine blk_drewN ?_ _ | refine blk_drew ?_ | refine blk_alloc ?_ _)); exact BK287.out), (by repeat (first | (with_reducible first | exact HB.out | apply below_alloc | apply pw_below_drewN | apply below_drew1 | refine below_set ?_ GE287.out) | exact HB.out))⟩)
       rintro ⟨v292, v295, v298, v301⟩ w49 ⟨hS_, h0_, h1_, h2_, h3_, h4_, h5_⟩
       have n0_ : Aside0 (Kd.N (Kd.slice 3 (Kd.int .i64)) 36 w49 w.heap.size (fun k_ => some k_ ≠ (.slice Ao35 t284.length co35 : Value).ownBlock ∧ some k_ ≠ (v295 : Value).ownBlock ∧ some k_ ≠ (v301 : Value).ownBlock ∧ k_ ≠ gb287) (.slice Ao33 t281.length co33) t281) := ⟨h0_⟩
       have n1_ : Aside0 (Kd.N (Kd.slice 3 (Kd.int .i64)) 36 w49 w.heap.size (fun k_ => some k_ ≠ (.slice Ao33 t281.length co33 : Value).ownBlock ∧ some k_ ≠ (v295 : Value).ownBlock ∧ some k_ ≠ (v301 : Value).ownBlock ∧ k_ ≠ gb287) (.slice Ao35 t284.length co35) t284) := ⟨h1_⟩
       have n2_ : Aside0 (Kd.N (Kd.slice 3 (Kd.int .i64)) 36 w49 w.heap.size (fun k_ => some k_ ≠ (.slice Ao35 t284.length co35 : Value).ownBlock ∧ some k_ ≠ (v301 : Value).ownBlock ∧ k_ ≠ gb287) v295 y294) := ⟨h2_⟩
       have n3_ : Aside0 (Kd.N (Kd.slice 3 (Kd.int .i64)) 36 w49 w.heap.size (fun k_ => some k_ ≠ (.slice Ao33 t281.length co33 : Value).ownBlock ∧ some k_ ≠ (.slice Ao35 t284.length co35 : Value).ownBlock ∧ some k_ ≠ (v295 : Value).ownBlock ∧ k_ ≠ gb287) v301 y300) := ⟨h3_⟩
       have n4_ : Aside0 (w49.heap[gb287]? = some (.cells #[.slice Ao33 t281.length co33, .slice Ao35 t284.length co35] 25 (0, 0))) := ⟨h4_⟩
       have n5_ : Aside0 (Below w.heap.size w w49) := ⟨h5_⟩
       clear HO283
       clear HO286
       clear BK287
       clear HB
       clear h0_ h1_ h2_ h3_ h4_ h5_
       have HO283 := n0_
       have HO286 := n1_
       have HO296 := n2_
       have HO302 := n3_
       have BK287 := n4_
       have HB := n5_
       clear n0_ n1_ n2_ n3_ n4_ n5_
       have hHeld : w49.cell? ⟨gb287, 0, none⟩ = some (.slice Ao33 t281.length co33) ∧ w49.cell? ⟨gb287, 1, none⟩ = some (.slice Ao35 t284.length co35) := hS_
       obtain ⟨Ao51, co51, eo51⟩ := Kd.N_slice HO302.out
       (first | subst eo51 | (injection eo51 with f1_ f2_ f3_; have f4_ := f1_.symm; have f5_ := f3_.symm; clear f1_ f2_ f3_; subst f4_; subst f5_))
       refine norm_ (a' := ?_) ?_ ?_
       rotate_left
       ·simp only [putAll, Act.put, List.setIfInBounds_toArray, List.set_cons_zero, List.set_cons_succ]
        rfl
       refine one_ (i := 12) (N := some 28) #[true, true, true, true, true, true, true, true, true, true, true, true, true, true, true, false, false, false, false, false, false, false, false] rfl rfl (one_of HT_.out (by kernel_rfl)) (by decide) (fun K hK => ?_)
       refine Kd.N_append_rows_step (Kd.slice 3 (Kd.int .i64)) (w0 := w) w.heap.size (by rfl) (.tmp 25) (.tmp 27) 23 36 (.slice none 0 0) 24 rfl Try.underlying23 info36 rfl (by decide) (by omega) v295 y294 y300 _ _ _ (fun k_ => some k_ ≠ (.slice Ao35 t284.length co35 : Value).ownBlock ∧ k_ ≠ gb287) (fun k_ => ((fun k_ => some k_ ≠ (.slice Ao35 t284.length co35 : Value).ownBlock ∧ k_ ≠ gb287)) k_ ∧ some k_ ≠ (v295 : Value).ownBlock) rfl rfl ?aO ?aR (fun _ hk => hk) ?aF ?aB ?aS ?aL ?_
       (case aR => exact (by skip; exact Kd.N_F (Kd.N_mono (ok' := (fun k_ => ((fun k_ => some k_ ≠ (.slice Ao35 t284.length co35 : Value).ownBlock ∧ k_ ≠ gb287)) k_ ∧ some k_ ≠ (v295 : Value).ownBlock)) (HO302.out) (fun k_ hk => ⟨⟨hk.2.1, hk.2.2.2⟩, hk.2.2.1⟩))))
       (case aB => exact (by repeat (first | (with_reducible first | exact HB.out | apply below_alloc | apply pw_below_drewN | apply below_drew1 | refine below_set ?_ GE287.out) | exact HB.out)))
       (case aF => exact (fun k_ hk => ⟨Kd.fresh' (Kd.N_lt (by (with_reducible repeat (first | apply Kd.N_alloc | apply Kd.N_drewN | apply Kd.N_drew)); exact HO286.out)) k_ hk, Kd.freshB (g := gb287) (o := .cells #[.slice Ao33 t281.length co33, .slice Ao35 t284.length co35] 25 (0, 0)) (by (with_reducible repeat (first | refine blk_drewN ?_ _ | refine blk_drew ?_ | refine blk_alloc ?_ _)); exact BK287.out) k_ hk⟩))
       (case aO => exact (by (with_reducible repeat (first | apply Kd.N_alloc | apply Kd.N_drewN | apply Kd.N_drew)); exact Kd.N_mono HO296.out (fun _ hk => ⟨hk.1, hk.2.2⟩)))
       (case aS => exact (below_size (by repeat (first | (with_reducible first | exact HB.out | apply below_alloc | apply pw_below_drewN | apply below_drew1 | refine below_set ?_ GE287.out) | exact HB.out))))
       (case aL => have := LMc28.out; omega)
       intro v304 w50 ho hb hg hat
       rw [← Ny303.out] at ho
       have n0_ := Aside0.mk (Kd.N_afterv (ok := (fun k_ => some k_ ≠ (.slice Ao35 t284.length co35 : Value).ownBlock ∧ some k_ ≠ (.slice Ao51 y300.length co51 : Value).ownBlock ∧ k_ ≠ gb287)) (by (with_reducible repeat (first | apply Kd.N_alloc | apply Kd.N_drewN | apply Kd.N_drew)); exact Kd.N_mono HO283.out (fun _ hk => ⟨⟨hk.1, ⟨hk.2.2.1, hk.2.2.2⟩⟩, hk.2.1⟩)) hg hat)
       have n1_ := Aside0.mk (Kd.N_afterv (ok := (fun k_ => some k_ ≠ (.slice Ao33 t281.length co33 : Value).ownBlock ∧ some k_ ≠ (.slice Ao51 y300.length co51 : Value).ownBlock ∧ k_ ≠ gb287)) (by (with_reducible repeat (first | apply Kd.N_alloc | apply Kd.N_drewN | apply Kd.N_drew)); exact Kd.N_mono HO286.out (fun _ hk => ⟨⟨hk.1, ⟨hk.2.2.1, hk.2.2.2⟩⟩, hk.2.1⟩)) hg hat)
       have n2_ := Aside0.mk (blk_grown (g := gb287) (o := .cells #[.slice Ao33 t281.length co33, .slice Ao35 t284.length co35] 25 (0, 0)) (by (with_reducible repeat (first | refine blk_drewN ?_ _ | refine blk_drew ?_ | refine blk_alloc ?_ _)); exact BK287.out) hg (Kd.N_ne HO296.out BK287.out (by decide)))
       have n3_ := Aside0.mk (Kd.N_afterv (ok := (fun k_ => some k_ ≠ (.slice Ao33 t281.length co33 : Value).ownBlock ∧ some k_ ≠ (.slice Ao35 t284.length co35 : Value).ownBlock ∧ k_ ≠ gb287)) (by (with_reducible repeat (first | apply Kd.N_alloc | apply Kd.N_drewN | apply Kd.N_drew)); exact Kd.N_mono HO302.out (fun _ hk => ⟨⟨hk.1, ⟨hk.2.1, hk.2.2.2⟩⟩, hk.2.2.1⟩)) hg hat)
       have n4_ := Aside0.mk (hb)
       have n5_ := Aside0.mk (ho)
       clear HO283
       clear HO286
       clear BK287
       clear HO302
       clear HB
       clear HO296
       have HO283 := n0_
       have HO286 := n1_
       have BK287 := n2_
       have HO302 := n3_
       have HB := n4_
       have HO305 := n5_
       clear n0_ n1_ n2_ n3_ n4_ n5_
       clear ho hb hg hat
       obtain ⟨Ao52, co52, eo52⟩ := Kd.N_slice HO305.out
       (first | subst eo52 | (injection eo52 with f1_ f2_ f3_; have f4_ := f1_.symm; have f5_ := f3_.symm; clear f1_ f2_ f3_; subst f4_; subst f5_))
       refine hK.out _ _ ⟨(blk_cell BK287.out 0).trans rfl, (blk_cell BK287.out 1).trans rfl⟩ (fun hHeld => ?_)
       clear hK K
       refine norm_ (a' := ?_) ?_ ?_
       rotate_left
       ·show Act.put _ (some 28) _ = _
        simp only [Act.put, List.setIfInBounds_toArray, List.set_cons_zero, List.set_cons_succ, i64_w, i32_w]
        rfl
       refine pure_ (i := 15) (N := some 31) (v := ?_) (a' := ?_) #[true, true, true, true, true, true, true, true, true, true, true, true, true, true, true, true, false, false, false, false, false, false, false] rfl rfl (any_of HT_.out (by kernel_rfl)) (fun _ _ _ h => h) (Or.inl ⟨by rfl, ?_⟩) ?_ ?_
       rotate_left
       ·intro w'
        go_simp
        with_reducible rfl
       rotate_left
       ·simp only [Act.put, List.setIfInBounds_toArray, List.set_cons_zero, List.set_cons_succ, i64_w, i32_w]
        rfl
       refine one_ (i := 16) (N := some 32) #[true, true, true, true, true, true, true, true, true, true, true, true, true, true, true, true, true, false, false, false, false, false, false] rfl rfl (one_of HT_.out (by kernel_rfl)) (by decide) (fun K hK => ?_)
       refine goes_ Try.func24 (by kernel_rfl) rfl #[.agg #[.slice Ao52 y303.length co52, .slice Ao35 t284.length co35]] (by rfl) rfl rfl (by (try simp only [List.map_toArray, List.map_cons, List.map_nil]); first | done | rfl | (simp only [List.length_drop, List.length_take]; rfl)) ?_
       with_reducible refine (impl_PictureValid.calls k _ _ y303 _ _ t284 true _ ?side1 ?side2 ?side3 ?side4 A29.out).mono ?_
       (case side1 => repeat (first | exact (Kd.N_reads' HO305.out).2.2 | (with_reducible refine Kd.C_alloc ?_ _) | (with_reducible refine Kd.C_drewN ?_ _) | (with_reducible refine Kd.C_drew ?_)))
       (case side2 => exact (Kd.N_reads' HO305.out).2.1)
       (case side3 => repeat (first | exact (Kd.N_reads' HO286.out).2.2 | (with_reducible refine Kd.C_alloc ?_ _) | (with_reducible refine Kd.C_drewN ?_ _) | (with_reducible refine Kd.C_drew ?_)))
       (case side4 => exact (Kd.N_reads' HO286.out).2.1)
       rintro e w53 ⟨rfl, hb⟩
       refine ⟨_, rfl, ?_⟩
       have n0_ := Aside0.mk (Kd.N_below (by (with_reducible repeat (first | apply Kd.N_alloc | apply Kd.N_drewN | apply Kd.N_drew)); exact HO283.out) hb)
       have n1_ := Aside0.mk (Kd.N_below (by (with_reducible repeat (first | apply Kd.N_alloc | apply Kd.N_drewN | apply Kd.N_drew)); exact HO286.out) hb)
       have n2_ := Aside0.mk (Kd.N_below (by (with_reducible repeat (first | apply Kd.N_alloc | apply Kd.N_drewN | apply Kd.N_drew)); exact HO302.out) hb)
       have n3_ := Aside0.mk (Kd.N_below (by (with_reducible repeat (first | apply Kd.N_alloc | apply Kd.N_drewN | apply Kd.N_drew)); exact HO305.out) hb)
       have n4_ := Aside0.mk (blk_below (g := gb287) (o := .cells #[.slice Ao33 t281.length co33, .slice Ao35 t284.length co35] 25 (0, 0)) (by (with_reducible repeat (first | refine blk_drewN ?_ _ | refine blk_drew ?_ | refine blk_alloc ?_ _)); exact BK287.out) hb)
       have n5_ := Aside0.mk (below_step (by repeat (first | (with_reducible first | exact HB.out | apply below_alloc | apply pw_below_drewN | apply below_drew1 | refine below_set ?_ GE287.out) | exact HB.out)) hb)
       clear HO283
       clear HO286
       clear HO302
       clear HO305
       clear BK287
       clear HB
       have HO283 := n0_
       have HO286 := n1_
       have HO302 := n2_
       have HO305 := n3_
       have BK287 := n4_
       have HB := n5_
       clear n0_ n1_ n2_ n3_ n4_ n5_
       (try clear hb)
       (try clear hb2)
       (try clear hk)
       (try clear hi)
       refine hK.out _ _ ⟨(blk_cell BK287.out 0).trans rfl, (blk_cell BK287.out 1).trans rfl⟩ (fun hHeld => ?_)
       clear hK K
       refine norm_ (a' := ?_) ?_ ?_
       rotate_left
       ·show Act.put _ (some 32) _ = _
        simp only [Act.put, List.setIfInBounds_toArray, List.set_cons_zero, List.set_cons_succ, i64_w, i32_w]
        rfl
       refine pure_ (i := 17) (N := some 33) (v := ?_) (a' := ?_) #[true, true, true, true, true, true, true, true, true, true, true, true, true, true, true, true, true, true, false, false, false, false, false] rfl rfl (any_of HT_.out (by kernel_rfl)) (fun _ _ _ h => h) (Or.inl ⟨by rfl, ?_⟩) ?_ ?_
       rotate_left
       ·intro w'
        go_simp
        with_reducible rfl
       rotate_left
       ·simp only [Act.put, List.setIfInBounds_toArray, List.set_cons_zero, List.set_cons_succ, i64_w, i32_w]
        rfl
       refine pure_ (i := 18) (N := some 34) (v := ?_) (a' := ?_) #[true, true, true, true, true, true, true, true, true, true, true, true, true, true, true, true, true, true, true, false, false, false, false] rfl rfl (any_of HT_.out (by kernel_rfl)) (fun _ _ _ h => h) (Or.inl ⟨by rfl, ?_⟩) ?_ ?_
       rotate_left
       ·intro w'
        go_simp
        with_reducible rfl
       rotate_left
       ·simp only [Act.put, List.setIfInBounds_toArray, List.set_cons_zero, List.set_cons_succ, i64_w, i32_w]
        rfl
       refine pure_ (i := 19) (N := some 35) (v := ?_) (a' := ?_) #[true, true, true, true, true, true, true, true, true, true, true, true, true, true, true, true, true, true, true, true, false, false, false] rfl rfl (any_of HT_.out (by kernel_rfl)) (fun _ _ _ h => h) (Or.inl ⟨by rfl, ?_⟩) ?_ ?_
       rotate_left
       ·intro w'
        go_simp
        with_reducible rfl
       rotate_left
       ·simp only [Act.put, List.setIfInBounds_toArray, List.set_cons_zero, List.set_cons_succ, i64_w, i32_w]
        rfl
       refine pure_ (i := 20) (N := some 36) (v := undef) (a' := ?_) #[true, true, true, true, true, true, true, true, true, true, true, true, true, true, true, true, true, true, true, true, true, false, false] rfl rfl (any_of HT_.out (by kernel_rfl)) (fun _ _ _ h => h) (Or.inr ⟨by rfl, rfl⟩) ?_ ?_
       rotate_left
       ·simp only [Act.put, List.setIfInBounds_toArray, List.set_cons_zero, List.set_cons_succ, i64_w, i32_w]
        rfl
       refine pure_ (i := 21) (N := some 37) (v := ?_) (a' := ?_) #[true, true, true, true, true, true, true, true, true, true, true, true, true, true, true, true, true, true, true, true, true, true, false] rfl rfl (any_of HT_.out (by kernel_rfl)) (fun _ _ _ h => h) (Or.inl ⟨by rfl, ?_⟩) ?_ ?_
       rotate_left
       ·intro w'
        go_simp
        with_reducible rfl
       rotate_left
       ·simp only [Act.put, List.setIfInBounds_toArray, List.set_cons_zero, List.set_cons_succ, i64_w, i32_w]
        rfl
       refine pure_ (i := 22) (N := some 2) (v := ?_) (a' := ?_) #[true, true, true, true, true, true, true, true, true, true, true, true, true, true, true, true, true, true, true, true, true, true, true] rfl rfl (any_of HT_.out (by kernel_rfl)) (fun _ _ _ h => h) (Or.inl ⟨by rfl, ?_⟩) ?_ ?_
       rotate_left
       ·intro w'
        go_simp
        with_reducible rfl
       rotate_left
       ·simp only [Act.put, List.setIfInBounds_toArray, List.set_cons_zero, List.set_cons_succ, i64_w, i32_w]
        rfl
       refine done_ (done_of HT_.out (by kernel_rfl)) ?_
       try go_wp2
       go_ret
       exact ⟨by first | rfl | (simp [errW_none, errW_some] <;> rfl) | (simp [*, errW_none, errW_some] <;> rfl), by repeat (first | (with_reducible first | exact HB.out | apply below_alloc | apply pw_below_drewN | apply below_drew1 | refine below_set ?_ GE287.out) | exact HB.out)⟩
      ·replace c30 := Bool.eq_false_iff.mpr c30
       subst c30
       have H1 : ((laws_alive.f k).bind fun t307 => (some t307)) = some r := by rw [if_neg (show ¬ (false = true) by decide)] at H; exact H
       clear H
       have H := H1
       clear H1
       replace H := Option.bind_eq_some_iff.mp H
       obtain ⟨t307, A540, H⟩ := H
       replace H : (some t307) = some r := H
       have A54 := Aside0.mk A540
       clear A540
       obtain rfl := Option.some.inj H
       go_enter Try.func5, Try.ntmps5
       try go_wp2_with (first | ((with_reducible refine gate_callee (f := 26) rfl ?_); refine goesL_ (some 9) rfl rfl Try.func26 (by kernel_rfl) rfl #[.slice A0 l0.length c0] rfl (by (try simp only [List.map_toArray, List.map_cons, List.map_nil]); first | done | rfl | (simp only [List.length_drop, List.length_take]; rfl)) ?_; (with_reducible refine (spec_DrawPictureValid.calls k _ _ l0 t281 t284 _ ?side1 ?side2 A3.out).mono ?_); (case side1 => repeat (first | exact HR0.out | (with_reducible refine Kd.C_alloc ?_ _) | (with_reducible refine Kd.C_drewN ?_ _) | (with_reducible refine Kd.C_drew ?_))); (case side2 => exact HC0.out); rintro e w55 ⟨v282, v285, rfl, ho0, ho1, hb⟩; refine ⟨_, rfl, ?_⟩; have n0_ := Aside0.mk (Kd.N_lower (Kd.N_mono (ok' := fun k_ => some k_ ≠ (v285 : Value).ownBlock) ho0 (fun k_ hk_ => hk_.2)) (below_size (by repeat (first | (with_reducible first | exact HB.out | apply below_alloc | apply pw_below_drewN | apply below_drew1) | exact HB.out)))); have n1_ := Aside0.mk (Kd.N_lower (Kd.N_mono (ok' := fun k_ => some k_ ≠ (v282 : Value).ownBlock) ho1 (fun k_ hk_ => hk_.2)) (below_size (by repeat (first | (with_reducible first | exact HB.out | apply below_alloc | apply pw_below_drewN | apply below_drew1) | exact HB.out)))); have n2_ := Aside0.mk (below_step (by repeat (first | (with_reducible first | exact HB.out | apply below_alloc | apply pw_below_drewN | apply below_drew1) | exact HB.out)) hb); clear HB; have HO283 := n0_; have HO286 := n1_; have HB := n2_; clear n0_ n1_ n2_; (try clear hb); (try clear hb2); (try clear hk); (try clear hi); (try clear ho0); (try clear ho1)) | ((with_reducible refine gate_dst (N := 3) rfl ?_); (try (refine gate_guard (by rfl) ?_; dsimp only)); refine box_event ?hg (N := 3) ?hd (cs := #[.slice none 0 0, .slice none 0 0]) (t := 25) ?hr ?_; (case hd => rfl); (case hg => rfl); (case hr => first | (go_simp; done) | (go_simp; rfl)); intro gb287 hg w56 hbox hb; have n0_ := Aside0.mk (Kd.N_below (Kd.N_elderB (by (with_reducible repeat (first | apply Kd.N_alloc | apply Kd.N_drewN | apply Kd.N_drew)); exact HO283.out) gb287 (Nat.le_of_eq hg.symm)) hb); have n1_ := Aside0.mk (Kd.N_below (Kd.N_elderB (by (with_reducible repeat (first | apply Kd.N_alloc | apply Kd.N_drewN | apply Kd.N_drew)); exact HO286.out) gb287 (Nat.le_of_eq hg.symm)) hb); have n2_ := Aside0.mk (below_step (by repeat (first | (with_reducible first | exact HB.out | apply below_alloc | apply pw_below_drewN | apply below_drew1) | exact HB.out)) hb); have n3_ := Aside0.mk (hbox); have n4_ := Aside0.mk ((by rw [hg]; exact (below_size (by repeat (first | (with_reducible first | exact HB.out | apply below_alloc | apply pw_below_drewN | apply below_drew1) | exact HB.out))) : w.heap.size ≤ gb287)); have n5_ := Aside0.mk ((by rw [hg]; exact (below_size (by repeat (first | (with_reducible first | exact HB.out | apply below_alloc | apply pw_below_drewN | apply below_drew1) | exact HB.out))) : w.heap.size ≤ gb287)); clear HO283; clear HO286; clear HB; have HO283 := n0_; have HO286 := n1_; have HB := n2_; have BK287 := n3_; have GW287 := n4_; have GE287 := n5_; clear n0_ n1_ n2_ n3_ n4_ n5_; clear hb hbox hg; obtain ⟨Ao57, co57, eo57⟩ := Kd.N_slice HO283.out; subst eo57; have hcz58_0 : w56.cell? ⟨gb287, 0, none⟩ = some (.slice none 0 0) := (blk_cell BK287.out 0).trans rfl; have hcz58_1 : w56.cell? ⟨gb287, 1, none⟩ = some (.slice none 0 0) := (blk_cell BK287.out 1).trans rfl; have hfz58_0 := blk_frozen BK287.out 0; have hfz58_1 := blk_frozen BK287.out 1; obtain ⟨Ao59, co59, eo59⟩ := Kd.N_slice HO286.out; subst eo59) | ((with_reducible refine gate_callee (f := 24) rfl ?_); refine goesL_ (some 11) rfl rfl Try.func24 (by kernel_rfl) rfl #[.agg #[.slice Ao57 t281.length co57, .slice Ao59 t284.length co59]] rfl (by (try simp only [List.map_toArray, List.map_cons, List.map_nil]); first | done | rfl | (simp only [List.length_drop, List.length_take]; rfl)) ?_; (with_reducible refine (impl_PictureValid.calls k _ _ t281 _ _ t284 t288 _ ?side1 ?side2 ?side3 ?side4 A4.out).mono ?_); (case side1 => refine (Kd.N_reads' (e := 36) (base := w.heap.size) (ok := fun k_ => (some k_ ≠ (.slice Ao59 t284.length co59 : Value).ownBlock ∧ k_ ≠ gb287)) (n := t281.length) (c := co57) ?_).2.2; exact (by (with_reducible repeat (first | apply Kd.N_alloc | apply Kd.N_drewN | apply Kd.N_drew)); exact (Kd.N_mono (Kd.N_far (p := ⟨gb287, 1, none⟩) (Kd.N_far (p := ⟨gb287, 0, none⟩) (Kd.N_mono HO283.out (fun k_ hk => (⟨hk, hk.2⟩ : _ ∧ k_ ≠ gb287))) (fun _ hk => hk.2) (.slice Ao57 t281.length co57)) (fun _ hk => hk.2) (.slice Ao59 t284.length co59)) (fun _ h_ => h_.1)))); (case side2 => exact (Kd.N_reads' HO283.out).2.1); (case side3 => refine (Kd.N_reads' (e := 36) (base := w.heap.size) (ok := fun k_ => (some k_ ≠ (.slice Ao57 t281.length co57 : Value).ownBlock ∧ k_ ≠ gb287)) (n := t284.length) (c := co59) ?_).2.2; exact (by (with_reducible repeat (first | apply Kd.N_alloc | apply Kd.N_drewN | apply Kd.N_drew)); exact (Kd.N_mono (Kd.N_far (p := ⟨gb287, 1, none⟩) (Kd.N_far (p := ⟨gb287, 0, none⟩) (Kd.N_mono HO286.out (fun k_ hk => (⟨hk, hk.2⟩ : _ ∧ k_ ≠ gb287))) (fun _ hk => hk.2) (.slice Ao57 t281.length co57)) (fun _ hk => hk.2) (.slice Ao59 t284.length co59)) (fun _ h_ => h_.1)))); (case side4 => exact (Kd.N_reads' HO286.out).2.1); rintro e w60 ⟨rfl, hb⟩; refine ⟨_, rfl, ?_⟩; have n0_ := Aside0.mk (Kd.N_below (by (with_reducible repeat (first | apply Kd.N_alloc | apply Kd.N_drewN | apply Kd.N_drew)); exact (Kd.N_mono (Kd.N_far (p := ⟨gb287, 1, none⟩) (Kd.N_far (p := ⟨gb287, 0, none⟩) (Kd.N_mono HO283.out (fun k_ hk => (⟨hk, hk.2⟩ : _ ∧ k_ ≠ gb287))) (fun _ hk => hk.2) (.slice Ao57 t281.length co57)) (fun _ hk => hk.2) (.slice Ao59 t284.length co59)) (fun _ h_ => h_.1))) hb); have n1_ := Aside0.mk (Kd.N_below (by (with_reducible repeat (first | apply Kd.N_alloc | apply Kd.N_drewN | apply Kd.N_drew)); exact (Kd.N_mono (Kd.N_far (p := ⟨gb287, 1, none⟩) (Kd.N_far (p := ⟨gb287, 0, none⟩) (Kd.N_mono HO286.out (fun k_ hk => (⟨hk, hk.2⟩ : _ ∧ k_ ≠ gb287))) (fun _ hk => hk.2) (.slice Ao57 t281.length co57)) (fun _ hk => hk.2) (.slice Ao59 t284.length co59)) (fun _ h_ => h_.1))) hb); have n2_ := Aside0.mk (blk_below (g := gb287) (o := .cells #[.slice Ao57 t281.length co57, .slice Ao59 t284.length co59] 25 (0, 0)) (by (with_reducible repeat (first | refine blk_drewN ?_ _ | refine blk_drew ?_ | refine blk_alloc ?_ _)); refine blk_put (cs := #[.slice Ao57 t281.length co57, .slice none 0 0]) ?_ 1 _ rfl; (with_reducible repeat (first | refine blk_drewN ?_ _ | refine blk_drew ?_ | refine blk_alloc ?_ _)); refine blk_put (cs := #[.slice none 0 0, .slice none 0 0]) ?_ 0 _ rfl; (with_reducible repeat (first | refine blk_drewN ?_ _ | refine blk_drew ?_ | refine blk_alloc ?_ _)); exact BK287.out) hb); have n3_ := Aside0.mk (below_step (by repeat (first | (with_reducible first | exact HB.out | apply below_alloc | apply pw_below_drewN | apply below_drew1 | refine below_set ?_ GE287.out) | exact HB.out)) hb); clear HO283; clear HO286; clear BK287; clear HB; have HO283 := n0_; have HO286 := n1_; have BK287 := n2_; have HB := n3_; clear n0_ n1_ n2_ n3_; (try clear hb); (try clear hb2); (try clear hk); (try clear hi); have hcz61_0 : w60.cell? ⟨gb287, 0, none⟩ = some (.slice Ao57 t281.length co57) := (blk_cell BK287.out 0).trans rfl; have hcz61_1 : w60.cell? ⟨gb287, 1, none⟩ = some (.slice Ao59 t284.length co59) := (blk_cell BK287.out 1).trans rfl; have hfz61_0 := blk_frozen BK287.out 0; have hfz61_1 := blk_frozen BK287.out 1) | ((with_reducible refine gate_callee (f := 17) rfl ?_); refine goesL_ (some 14) rfl rfl Try.func17 (by kernel_rfl) rfl #[.agg #[.slice Ao57 t281.length co57, .slice Ao59 t284.length co59]] rfl (by (try simp only [List.map_toArray, List.map_cons, List.map_nil]); first | done | rfl | (simp only [List.length_drop, List.length_take]; rfl)) ?_; (with_reducible refine (spec_PictureValid.calls k _ _ t281 _ _ t284 t289 _ ?side1 ?side2 ?side3 ?side4 A5.out).mono ?_); (case side1 => repeat (first | exact (Kd.N_reads' HO283.out).2.2 | (with_reducible refine Kd.C_alloc ?_ _) | (with_reducible refine Kd.C_drewN ?_ _) | (with_reducible refine Kd.C_drew ?_))); (case side2 => exact (Kd.N_reads' HO283.out).2.1); (case side3 => repeat (first | exact (Kd.N_reads' HO286.out).2.2 | (with_reducible refine Kd.C_alloc ?_ _) | (with_reducible refine Kd.C_drewN ?_ _) | (with_reducible refine Kd.C_drew ?_))); (case side4 => exact (Kd.N_reads' HO286.out).2.1); rintro e w62 ⟨rfl, hb⟩; refine ⟨_, rfl, ?_⟩; have n0_ := Aside0.mk (Kd.N_below (by (with_reducible repeat (first | apply Kd.N_alloc | apply Kd.N_drewN | apply Kd.N_drew)); exact HO283.out) hb); have n1_ := Aside0.mk (Kd.N_below (by (with_reducible repeat (first | apply Kd.N_alloc | apply Kd.N_drewN | apply Kd.N_drew)); exact HO286.out) hb); have n2_ := Aside0.mk (blk_below (g := gb287) (o := .cells #[.slice Ao57 t281.length co57, .slice Ao59 t284.length co59] 25 (0, 0)) (by (with_reducible repeat (first | refine blk_drewN ?_ _ | refine blk_drew ?_ | refine blk_alloc ?_ _)); exact BK287.out) hb); have n3_ := Aside0.mk (below_step (by repeat (first | (with_reducible first | exact HB.out | apply below_alloc | apply pw_below_drewN | apply below_drew1 | refine below_set ?_ GE287.out) | exact HB.out)) hb); clear HO283; clear HO286; clear BK287; clear HB; have HO283 := n0_; have HO286 := n1_; have BK287 := n2_; have HB := n3_; clear n0_ n1_ n2_ n3_; (try clear hb); (try clear hb2); (try clear hk); (try clear hi)))
       have n0_ := Aside0.mk (Kd.N_drew HO283.out)
       have n1_ := Aside0.mk (Kd.N_drew HO286.out)
       have n2_ := Aside0.mk (blk_drew BK287.out)
       have n3_ := Aside0.mk (below_drew1 HB.out)
       clear HO283
       clear HO286
       clear BK287
       clear HB
       have HO283 := n0_
       have HO286 := n1_
       have BK287 := n2_
       have HB := n3_
       clear n0_ n1_ n2_ n3_
       refine start_ (n := 23) (S := fun w' => w'.cell? ⟨gb287, 0, none⟩ = some (.slice Ao57 t281.length co57) ∧ w'.cell? ⟨gb287, 1, none⟩ = some (.slice Ao59 t284.length co59)) (ds := []) #[false, false, false, false, false, false, false, false, false, false, false, false, false, false, false, false, false, false, false, false, false, false, false] (by kernel_rfl) rfl rfl ⟨(blk_cell BK287.out 0).trans rfl, (blk_cell BK287.out 1).trans rfl⟩ (fun hHeld => ?_); refine with_tabW laws_FnPictureValid.tab7 laws_FnPictureValid.bits7 (fun HT_ HW_ => ?_)
       generalize w62.drew = w63 at HO283 HO286 BK287 HB hHeld ⊢
       refine pure_ (i := 0) (N := some 16) (v := ?_) (a' := ?_) #[true, false, false, false, false, false, false, false, false, false, false, false, false, false, false, false, false, false, false, false, false, false, false] rfl rfl (any_of HT_.out (by kernel_rfl)) (fun _ _ _ h => h) (Or.inl ⟨by rfl, ?_⟩) ?_ ?_
       rotate_left
       ·intro w'
        go_simp
        with_reducible rfl
       rotate_left
       ·simp only [Act.put, List.setIfInBounds_toArray, List.set_cons_zero, List.set_cons_succ, i64_w, i32_w]
        rfl
       refine take_ (i := 1) (N := some 17) (v := ?_) (a' := ?_) #[true, true, false, false, false, false, false, false, false, false, false, false, false, false, false, false, false, false, false, false, false, false, false] rfl rfl (take_ofW HT_.out HW_.out (by kernel_rfl)) (fun _ _ _ h => h) (Or.inl ⟨by rfl, ?_⟩) hHeld ?_ ?_
       rotate_left
       ·rintro w' ⟨s0, s1⟩
        go_simp
        with_reducible rfl
       rotate_left
       ·simp only [Act.put, List.setIfInBounds_toArray, List.set_cons_zero, List.set_cons_succ, i64_w, i32_w]
        rfl
       refine pure_ (i := 2) (N := some 18) (v := ?_) (a' := ?_) #[true, true, true, false, false, false, false, false, false, false, false, false, false, false, false, false, false, false, false, false, false, false, false] rfl rfl (any_of HT_.out (by kernel_rfl)) (fun _ _ _ h => h) (Or.inl ⟨by rfl, ?_⟩) ?_ ?_
       rotate_left
       ·intro w'
        go_simp
        with_reducible rfl
       rotate_left
       ·simp only [Act.put, List.setIfInBounds_toArray, List.set_cons_zero, List.set_cons_succ, i64_w, i32_w]
        rfl
       refine one_ (i := 3) (N := some 19) #[true, true, true, true, false, false, false, false, false, false, false, false, false, false, false, false, false, false, false, false, false, false, false] rfl rfl (one_of HT_.out (by kernel_rfl)) (by decide) (fun K hK => ?_)
       refine goes_ Try.func24 (by kernel_rfl) rfl #[.agg #[.slice none 0 0, .slice Ao59 t284.length co59]] (by rfl) rfl rfl (by (try simp only [List.map_toArray, List.map_cons, List.map_nil]); first | done | rfl | (simp only [List.length_drop, List.length_take]; rfl)) ?_
       refine (impl_PictureValid.calls k _ _ ([] : List (List Int)) _ _ t284 false _ ?side1 ?side2 ?side3 ?side4 A15.out).mono ?_
       (case side1 => exact Kd.C_nil _ _)
       (case side2 => exact Nat.le_refl _)
       (case side3 => repeat (first | exact (Kd.N_reads' HO286.out).2.2 | (with_reducible refine Kd.C_alloc ?_ _) | (with_reducible refine Kd.C_drewN ?_ _) | (with_reducible refine Kd.C_drew ?_)))
       (case side4 => exact (Kd.N_reads' HO286.out).2.1)
       rintro e w64 ⟨rfl, hb⟩
       refine ⟨_, rfl, ?_⟩
       have n0_ := Aside0.mk (Kd.N_below (by (with_reducible repeat (first | apply Kd.N_alloc | apply Kd.N_drewN | apply Kd.N_drew)); exact HO283.out) hb)
       have n1_ := Aside0.mk (Kd.N_below (by (with_reducible repeat (first | apply Kd.N_alloc | apply Kd.N_drewN | apply Kd.N_drew)); exact HO286.out) hb)
       have n2_ := Aside0.mk (blk_below (g := gb287) (o := .cells #[.slice Ao57 t281.length co57, .slice Ao59 t284.length co59] 25 (0, 0)) (by (with_reducible repeat (first | refine blk_drewN ?_ _ | refine blk_drew ?_ | refine blk_alloc ?_ _)); exact BK287.out) hb)
       have n3_ := Aside0.mk (below_step (by repeat (first | (with_reducible first | exact HB.out | apply below_alloc | apply pw_below_drewN | apply below_drew1 | refine below_set ?_ GE287.out) | exact HB.out)) hb)
       clear HO283
       clear HO286
       clear BK287
       clear HB
       have HO283 := n0_
       have HO286 := n1_
       have BK287 := n2_
       have HB := n3_
       clear n0_ n1_ n2_ n3_
       (try clear hb)
       (try clear hb2)
       (try clear hk)
       (try clear hi)
       refine hK.out _ _ ⟨(blk_cell BK287.out 0).trans rfl, (blk_cell BK287.out 1).trans rfl⟩ (fun hHeld => ?_)
       clear hK K
       refine norm_ (a' := ?_) ?_ ?_
       rotate_left
       ·show Act.put _ (some 19) _ = _
        simp only [Act.put, List.setIfInBounds_toArray, List.set_cons_zero, List.set_cons_succ, i64_w, i32_w]
        rfl
       refine pure_ (i := 4) (N := some 20) (v := ?_) (a' := ?_) #[true, true, true, true, true, false, false, false, false, false, false, false, false, false, false, false, false, false, false, false, false, false, false] rfl rfl (any_of HT_.out (by kernel_rfl)) (fun _ _ _ h => h) (Or.inl ⟨by rfl, ?_⟩) ?_ ?_
       rotate_left
       ·intro w'
        go_simp
        with_reducible rfl
       rotate_left
       ·simp only [Act.put, List.setIfInBounds_toArray, List.set_cons_zero, List.set_cons_succ, i64_w, i32_w]
        rfl
       refine pure_ (i := 5) (N := some 21) (v := ?_) (a' := ?_) #[true, true, true, true, true, true, false, false, false, false, false, false, false, false, false, false, false, false, false, false, false, false, false] rfl rfl (any_of HT_.out (by kernel_rfl)) (fun _ _ _ h => h) (Or.inl ⟨by rfl, ?_⟩) ?_ ?_
       rotate_left
       ·intro w'
        go_simp
        with_reducible rfl
       rotate_left
       ·simp only [Act.put, List.setIfInBounds_toArray, List.set_cons_zero, List.set_cons_succ, i64_w, i32_w]
        rfl
       refine pure_ (i := 7) (N := some 23) (v := ?_) (a' := ?_) #[true, true, true, true, true, true, false, true, false, false, false, false, false, false, false, false, false, false, false, false, false, false, false] rfl rfl (any_of HT_.out (by kernel_rfl)) (fun _ _ _ h => h) (Or.inl ⟨by rfl, ?_⟩) ?_ ?_
       rotate_left
       ·intro w'
        go_simp
        with_reducible rfl
       rotate_left
       ·simp only [Act.put, List.setIfInBounds_toArray, List.set_cons_zero, List.set_cons_succ, i64_w, i32_w]
        rfl
       refine pure_ (i := 13) (N := some 29) (v := ?_) (a' := ?_) #[true, true, true, true, true, true, false, true, false, false, false, false, false, true, false, false, false, false, false, false, false, false, false] rfl rfl (any_of HT_.out (by kernel_rfl)) (fun _ _ _ h => h) (Or.inl ⟨by rfl, ?_⟩) ?_ ?_
       rotate_left
       ·intro w'
        go_simp
        with_reducible rfl
       rotate_left
       ·simp only [Act.put, List.setIfInBounds_toArray, List.set_cons_zero, List.set_cons_succ, i64_w, i32_w]
        rfl
       refine take_ (i := 8) (N := some 24) (v := ?_) (a' := ?_) #[true, true, true, true, true, true, false, true, true, false, false, false, false, true, false, false, false, false, false, false, false, false, false] rfl rfl (take_ofW HT_.out HW_.out (by kernel_rfl)) (fun _ _ _ h => h) (Or.inl ⟨by rfl, ?_⟩) hHeld ?_ ?_
       rotate_left
       ·rintro w' ⟨s0, s1⟩
        go_simp
        with_reducible rfl
       rotate_left
       ·simp only [Act.put, List.setIfInBounds_toArray, List.set_cons_zero, List.set_cons_succ, i64_w, i32_w]
        rfl
       refine take_ (i := 14) (N := some 30) (v := ?_) (a' := ?_) #[true, true, true, true, true, true, false, true, true, false, false, false, false, true, true, false, false, false, false, false, false, false, false] rfl rfl (take_ofW HT_.out HW_.out (by kernel_rfl)) (fun _ _ _ h => h) (Or.inl ⟨by rfl, ?_⟩) hHeld ?_ ?_
       rotate_left
       ·rintro w' ⟨s0, s1⟩
        go_simp
        with_reducible rfl
       rotate_left
       ·simp only [Act.put, List.setIfInBounds_toArray, List.set_cons_zero, List.set_cons_succ, i64_w, i32_w]
        rfl
       refine join_ (σ := Value × Value × Value × Value) 9 #[true, true, true, true, true, true, true, true, true, true, true, true, false, true, true, false, false, false, false, false, false, false, false] (fun s_ => [(22, s_.1), (25, s_.2.1), (26, s_.2.2.1), (27, s_.2.2.2)]) (fun s_ w' => (w'.cell? ⟨gb287, 0, none⟩ = some (.slice Ao57 t281.length co57) ∧ w'.cell? ⟨gb287, 1, none⟩ = some (.slice Ao59 t284.length co59)) ∧ (Kd.N (Kd.slice 3 (Kd.int .i64)) 36 w' w.heap.size (fun k_ => some k_ ≠ (.slice Ao59 t284.length co59 : Value).ownBlock ∧ some k_ ≠ (s_.2.1 : Value).ownBlock ∧ some k_ ≠ (s_.2.2.2 : Value).ownBlock ∧ k_ ≠ gb287) (.slice Ao57 t281.length co57) t281) ∧ (Kd.N (Kd.slice 3 (Kd.int .i64)) 36 w' w.heap.size (fun k_ => some k_ ≠ (.slice Ao57 t281.length co57 : Value).ownBlock ∧ some k_ ≠ (s_.2.1 : Value).ownBlock ∧ some k_ ≠ (s_.2.2.2 : Value).ownBlock ∧ k_ ≠ gb287) (.slice Ao59 t284.length co59) t284) ∧ (Kd.N (Kd.slice 3 (Kd.int .i64)) 36 w' w.heap.size (fun k_ => some k_ ≠ (.slice Ao59 t284.length co59 : Value).ownBlock ∧ some k_ ≠ (s_.2.2.2 : Value).ownBlock ∧ k_ ≠ gb287) s_.2.1 y294) ∧ (Kd.N (Kd.slice 3 (Kd.int .i64)) 36 w' w.heap.size (fun k_ => some k_ ≠ (.slice Ao57 t281.length co57 : Value).ownBlock ∧ some k_ ≠ (.slice Ao59 t284.length co59 : Value).ownBlock ∧ some k_ ≠ (s_.2.1 : Value).ownBlock ∧ k_ ≠ gb287) s_.2.2.2 y300) ∧ (w'.heap[gb287]? = some (.cells #[.slice Ao57 t281.length co57, .slice Ao59 t284.length co59] 25 (0, 0))) ∧ (Below w.heap.size w w')) ?_ ?_
       rotate_left
       ·intro hJ6_9_10_11
        refine join_ (σ := Value × Value × Value) 10 #[true, true, true, true, true, true, true, true, true, true, true, false, false, true, true, false, false, false, false, false, false, false, false] (fun s_ => [(22, s_.1), (25, s_.2.1), (26, s_.2.2)]) (fun s_ w' => (w'.cell? ⟨gb287, 0, none⟩ = some (.slice Ao57 t281.length co57) ∧ w'.cell? ⟨gb287, 1, none⟩ = some (.slice Ao59 t284.length co59)) ∧ (Kd.N (Kd.slice 3 (Kd.int .i64)) 36 w' w.heap.size (fun k_ => some k_ ≠ (.slice Ao59 t284.length co59 : Value).ownBlock ∧ some k_ ≠ (s_.2.1 : Value).ownBlock ∧ some k_ ≠ (s_.2.2 : Value).ownBlock ∧ k_ ≠ gb287) (.slice Ao57 t281.length co57) t281) ∧ (Kd.N (Kd.slice 3 (Kd.int .i64)) 36 w' w.heap.size (fun k_ => some k_ ≠ (.slice Ao57 t281.length co57 : Value).ownBlock ∧ some k_ ≠ (s_.2.1 : Value).ownBlock ∧ some k_ ≠ (s_.2.2 : Value).ownBlock ∧ k_ ≠ gb287) (.slice Ao59 t284.length co59) t284) ∧ (Kd.N (Kd.slice 3 (Kd.int .i64)) 36 w' w.heap.size (fun k_ => some k_ ≠ (.slice Ao59 t284.length co59 : Value).ownBlock ∧ some k_ ≠ (s_.2.2 : Value).ownBlock ∧ k_ ≠ gb287) s_.2.1 y294) ∧ (Kd.R (Kd.int .i64) 3 w' w.heap.size (fun _ => True) s_.2.2 y297) ∧ (w'.heap[gb287]? = some (.cells #[.slice Ao57 t281.length co57, .slice Ao59 t284.length co59] 25 (0, 0))) ∧ (Below w.heap.size w w')) ?_ ?_
        rotate_left
        ·intro hJ6_9_10
         refine join_ (σ := Value × Value × Value) 10 #[true, true, true, true, true, true, true, true, true, false, true, true, false, true, true, false, false, false, false, false, false, false, false] (fun s_ => [(22, s_.1), (26, s_.2.1), (27, s_.2.2)]) (fun s_ w' => (w'.cell? ⟨gb287, 0, none⟩ = some (.slice Ao57 t281.length co57) ∧ w'.cell? ⟨gb287, 1, none⟩ = some (.slice Ao59 t284.length co59)) ∧ (Kd.N (Kd.slice 3 (Kd.int .i64)) 36 w' w.heap.size (fun k_ => some k_ ≠ (.slice Ao59 t284.length co59 : Value).ownBlock ∧ some k_ ≠ (s_.1 : Value).ownBlock ∧ some k_ ≠ (s_.2.2 : Value).ownBlock ∧ k_ ≠ gb287) (.slice Ao57 t281.length co57) t281) ∧ (Kd.N (Kd.slice 3 (Kd.int .i64)) 36 w' w.heap.size (fun k_ => some k_ ≠ (.slice Ao57 t281.length co57 : Value).ownBlock ∧ some k_ ≠ (s_.1 : Value).ownBlock ∧ some k_ ≠ (s_.2.2 : Value).ownBlock ∧ k_ ≠ gb287) (.slice Ao59 t284.length co59) t284) ∧ (Kd.N (Kd.slice 3 (Kd.int .i64)) 36 w' w.heap.size (fun k_ => some k_ ≠ (.slice Ao57 t281.length co57 : Value).ownBlock ∧ some k_ ≠ (.slice Ao59 t284.length co59 : Value).ownBlock ∧ some k_ ≠ (s_.2.2 : Value).ownBlock ∧ k_ ≠ gb287) s_.1 y291) ∧ (Kd.N (Kd.slice 3 (Kd.int .i64)) 36 w' w.heap.size (fun k_ => some k_ ≠ (.slice Ao57 t281.length co57 : Value).ownBlock ∧ some k_ ≠ (.slice Ao59 t284.length co59 : Value).ownBlock ∧ some k_ ≠ (s_.1 : Value).ownBlock ∧ k_ ≠ gb287) s_.2.2 y300) ∧ (w'.heap[gb287]? = some (.cells #[.slice Ao57 t281.length co57, .slice Ao59 t284.length co59] 25 (0, 0))) ∧ (Below w.heap.size w w')) ?_ ?_
         rotate_left
         ·intro hJ6_10_11
          refine join_ (σ := Value × Value) 11 #[true, true, true, true, true, true, true, true, true, true, false, false, false, true, true, false, false, false, false, false, false, false, false] (fun s_ => [(22, s_.1), (25, s_.2)]) (fun s_ w' => (w'.cell? ⟨gb287, 0, none⟩ = some (.slice Ao57 t281.length co57) ∧ w'.cell? ⟨gb287, 1, none⟩ = some (.slice Ao59 t284.length co59)) ∧ (Kd.N (Kd.slice 3 (Kd.int .i64)) 36 w' w.heap.size (fun k_ => some k_ ≠ (.slice Ao59 t284.length co59 : Value).ownBlock ∧ some k_ ≠ (s_.2 : Value).ownBlock ∧ k_ ≠ gb287) (.slice Ao57 t281.length co57) t281) ∧ (Kd.N (Kd.slice 3 (Kd.int .i64)) 36 w' w.heap.size (fun k_ => some k_ ≠ (.slice Ao57 t281.length co57 : Value).ownBlock ∧ some k_ ≠ (s_.2 : Value).ownBlock ∧ k_ ≠ gb287) (.slice Ao59 t284.length co59) t284) ∧ (Kd.N (Kd.slice 3 (Kd.int .i64)) 36 w' w.heap.size (fun k_ => some k_ ≠ (.slice Ao59 t284.length co59 : Value).ownBlock ∧ k_ ≠ gb287) s_.2 y294) ∧ (w'.heap[gb287]? = some (.cells #[.slice Ao57 t281.length co57, .slice Ao59 t284.length co59] 25 (0, 0))) ∧ (Below w.heap.size w w')) ?_ ?_
          rotate_left
          ·intro hJ6_9
           refine join_ (σ := Value × Value) 11 #[true, true, true, true, true, true, true, true, true, false, true, false, false, true, true, false, false, false, false, false, false, false, false] (fun s_ => [(22, s_.1), (26, s_.2)]) (fun s_ w' => (w'.cell? ⟨gb287, 0, none⟩ = some (.slice Ao57 t281.length co57) ∧ w'.cell? ⟨gb287, 1, none⟩ = some (.slice Ao59 t284.length co59)) ∧ (Kd.N (Kd.slice 3 (Kd.int .i64)) 36 w' w.heap.size (fun k_ => some k_ ≠ (.slice Ao59 t284.length co59 : Value).ownBlock ∧ some k_ ≠ (s_.1 : Value).ownBlock ∧ some k_ ≠ (s_.2 : Value).ownBlock ∧ k_ ≠ gb287) (.slice Ao57 t281.length co57) t281) ∧ (Kd.N (Kd.slice 3 (Kd.int .i64)) 36 w' w.heap.size (fun k_ => some k_ ≠ (.slice Ao57 t281.length co57 : Value).ownBlock ∧ some k_ ≠ (s_.1 : Value).ownBlock ∧ some k_ ≠ (s_.2 : Value).ownBlock ∧ k_ ≠ gb287) (.slice Ao59 t284.length co59) t284) ∧ (Kd.N (Kd.slice 3 (Kd.int .i64)) 36 w' w.heap.size (fun k_ => some k_ ≠ (.slice Ao57 t281.length co57 : Value).ownBlock ∧ some k_ ≠ (.slice Ao59 t284.length co59 : Value).ownBlock ∧ some k_ ≠ (s_.2 : Value).ownBlock ∧ k_ ≠ gb287) s_.1 y291) ∧ (Kd.R (Kd.int .i64) 3 w' w.heap.size (fun _ => True) s_.2 y297) ∧ (w'.heap[gb287]? = some (.cells #[.slice Ao57 t281.length co57, .slice Ao59 t284.length co59] 25 (0, 0))) ∧ (Below w.heap.size w w')) ?_ ?_
           rotate_left
           ·intro hJ6_10
            refine join_ (σ := Value × Value) 11 #[true, true, true, true, true, true, false, true, true, false, true, true, false, true, true, false, false, false, false, false, false, false, false] (fun s_ => [(26, s_.1), (27, s_.2)]) (fun s_ w' => (w'.cell? ⟨gb287, 0, none⟩ = some (.slice Ao57 t281.length co57) ∧ w'.cell? ⟨gb287, 1, none⟩ = some (.slice Ao59 t284.length co59)) ∧ (Kd.N (Kd.slice 3 (Kd.int .i64)) 36 w' w.heap.size (fun k_ => some k_ ≠ (.slice Ao59 t284.length co59 : Value).ownBlock ∧ some k_ ≠ (s_.2 : Value).ownBlock ∧ k_ ≠ gb287) (.slice Ao57 t281.length co57) t281) ∧ (Kd.N (Kd.slice 3 (Kd.int .i64)) 36 w' w.heap.size (fun k_ => some k_ ≠ (.slice Ao57 t281.length co57 : Value).ownBlock ∧ some k_ ≠ (s_.2 : Value).ownBlock ∧ k_ ≠ gb287) (.slice Ao59 t284.length co59) t284) ∧ (Kd.N (Kd.slice 3 (Kd.int .i64)) 36 w' w.heap.size (fun k_ => some k_ ≠ (.slice Ao57 t281.length co57 : Value).ownBlock ∧ some k_ ≠ (.slice Ao59 t284.length co59 : Value).ownBlock ∧ k_ ≠ gb287) s_.2 y300) ∧ (w'.heap[gb287]? = some (.cells #[.slice Ao57 t281.length co57, .slice Ao59 t284.length co59] 25 (0, 0))) ∧ (Below w.heap.size w w')) ?_ ?_
            rotate_left
            ·intro hJ10_11
             refine join_ (σ := Value) 12 #[true, true, true, true, true, true, true, true, true, false, false, false, false, true, true, false, false, false, false, false, false, false, false] (fun s_ => [(22, s_)]) (fun s_ w' => (w'.cell? ⟨gb287, 0, none⟩ = some (.slice Ao57 t281.length co57) ∧ w'.cell? ⟨gb287, 1, none⟩ = some (.slice Ao59 t284.length co59)) ∧ (Kd.N (Kd.slice 3 (Kd.int .i64)) 36 w' w.heap.size (fun k_ => some k_ ≠ (.slice Ao59 t284.length co59 : Value).ownBlock ∧ some k_ ≠ (s_ : Value).ownBlock ∧ k_ ≠ gb287) (.slice Ao57 t281.length co57) t281) ∧ (Kd.N (Kd.slice 3 (Kd.int .i64)) 36 w' w.heap.size (fun k_ => some k_ ≠ (.slice Ao57 t281.length co57 : Value).ownBlock ∧ some k_ ≠ (s_ : Value).ownBlock ∧ k_ ≠ gb287) (.slice Ao59 t284.length co59) t284) ∧ (Kd.N (Kd.slice 3 (Kd.int .i64)) 36 w' w.heap.size (fun k_ => some k_ ≠ (.slice Ao57 t281.length co57 : Value).ownBlock ∧ some k_ ≠ (.slice Ao59 t284.length co59 : Value).ownBlock ∧ k_ ≠ gb287) s_ y291) ∧ (w'.heap[gb287]? = some (.cells #[.slice Ao57 t281.length co57, .slice Ao59 t284.length co59] 25 (0, 0))) ∧ (Below w.heap.size w w')) ?_ ?_
             rotate_left
             ·intro hJ6
              refine join_ (σ := Value) 12 #[true, true, true, true, true, true, false, true, true, false, true, false, false, true, true, false, false, false, false, false, false, false, false] (fun s_ => [(26, s_)]) (fun s_ w' => (w'.cell? ⟨gb287, 0, none⟩ = some (.slice Ao57 t281.length co57) ∧ w'.cell? ⟨gb287, 1, none⟩ = some (.slice Ao59 t284.length co59)) ∧ (Kd.N (Kd.slice 3 (Kd.int .i64)) 36 w' w.heap.size (fun k_ => some k_ ≠ (.slice Ao59 t284.length co59 : Value).ownBlock ∧ some k_ ≠ (s_ : Value).ownBlock ∧ k_ ≠ gb287) (.slice Ao57 t281.length co57) t281) ∧ (Kd.N (Kd.slice 3 (Kd.int .i64)) 36 w' w.heap.size (fun k_ => some k_ ≠ (.slice Ao57 t281.length co57 : Value).ownBlock ∧ some k_ ≠ (s_ : Value).ownBlock ∧ k_ ≠ gb287) (.slice Ao59 t284.length co59) t284) ∧ (Kd.R (Kd.int .i64) 3 w' w.heap.size (fun _ => True) s_ y297) ∧ (w'.heap[gb287]? = some (.cells #[.slice Ao57 t281.length co57, .slice Ao59 t284.length co59] 25 (0, 0))) ∧ (Below w.heap.size w w')) ?_ ?_
              rotate_left
              ·intro hJ10
               refine two_ (i := 6) (j := 10) (Ni := some 22) (Nj := some 26) #[true, true, true, true, true, true, true, true, true, false, false, false, false, true, true, false, false, false, false, false, false, false, false] #[true, true, true, true, true, true, false, true, true, false, true, false, false, true, true, false, false, false, false, false, false, false, false] rfl rfl rfl rfl (two_of HT_.out (by kernel_rfl)) (by decide) (by decide) (fun K hK => ?_) (fun K hK => ?_)
               ·skip
                refine Kd.N_lit_step (Kd.slice 3 (Kd.int .i64)) _ 36 ?hg (N' := 22) ?hd (xs := ([] : List (List Int))) (inner := []) (ok := (fun k_ => some k_ ≠ (.slice Ao57 t281.length co57 : Value).ownBlock ∧ some k_ ≠ (.slice Ao59 t284.length co59 : Value).ownBlock ∧ k_ ≠ gb287)) (okp := (fun k_ => some k_ ≠ (.slice Ao57 t281.length co57 : Value).ownBlock ∧ some k_ ≠ (.slice Ao59 t284.length co59 : Value).ownBlock ∧ k_ ≠ gb287)) ?hr ?hp (fun _ hk => hk) ((show ∀ k_, w64.heap.size ≤ k_ → (fun k_ => some k_ ≠ (.slice Ao57 t281.length co57 : Value).ownBlock ∧ some k_ ≠ (.slice Ao59 t284.length co59 : Value).ownBlock ∧ k_ ≠ gb287) k_ from fun k_ hk => ⟨Kd.fresh' (Kd.N_lt (by (with_reducible repeat (first | apply Kd.N_alloc | apply Kd.N_drewN | apply Kd.N_drew)); exact HO283.out)) k_ hk, Kd.fresh' (Kd.N_lt (by (with_reducible repeat (first | apply Kd.N_alloc | apply Kd.N_drewN | apply Kd.N_drew)); exact HO286.out)) k_ hk, Kd.freshB (g := gb287) (o := .cells #[.slice Ao57 t281.length co57, .slice Ao59 t284.length co59] 25 (0, 0)) (by (with_reducible repeat (first | refine blk_drewN ?_ _ | refine blk_drew ?_ | refine blk_alloc ?_ _)); exact BK287.out) k_ hk⟩) _ (Nat.le_refl _)) (Below.refl _ _) (Nat.le_refl _) (by simp) ?_; (case hd => rfl); (case hg => rfl); (case hr => first | (go_simp; done) | (go_simp; rfl)); (case hp => exact (Reps.none _ _))
                intro v292 w65 ho66 hb hg_ hnew_
                clear hg_ hnew_
                (first | rw [← Ny291.out] at ho66 | (simp only [Int.reduceToNat] at ho66; rw [← Ny291.out] at ho66))
                have n0_ := Aside0.mk (Kd.N_elder' (by (with_reducible repeat (first | apply Kd.N_alloc | apply Kd.N_drewN | apply Kd.N_drew)); exact HO283.out) (Kd.N_base ho66) hb)
                have n1_ := Aside0.mk (Kd.N_elder' (by (with_reducible repeat (first | apply Kd.N_alloc | apply Kd.N_drewN | apply Kd.N_drew)); exact HO286.out) (Kd.N_base ho66) hb)
                have n2_ := Aside0.mk (Kd.N_lower ho66 (below_size (by repeat (first | (with_reducible first | exact HB.out | apply below_alloc | apply pw_below_drewN | apply below_drew1 | refine below_set ?_ GE287.out) | exact HB.out))))
                have n3_ := Aside0.mk (blk_below (g := gb287) (o := .cells #[.slice Ao57 t281.length co57, .slice Ao59 t284.length co59] 25 (0, 0)) (by (with_reducible repeat (first | refine blk_drewN ?_ _ | refine blk_drew ?_ | refine blk_alloc ?_ _)); exact BK287.out) hb)
                have n4_ := Aside0.mk (below_step (by repeat (first | (with_reducible first | exact HB.out | apply below_alloc | apply pw_below_drewN | apply below_drew1 | refine below_set ?_ GE287.out) | exact HB.out)) hb)
                clear HO283
                clear HO286
                clear BK287
                clear HB
                have HO283 := n0_
                have HO286 := n1_
                have HO293 := n2_
                have BK287 := n3_
                have HB := n4_
                clear n0_ n1_ n2_ n3_ n4_
                clear hb ho66
                refine hK.out _ _ ⟨(blk_cell BK287.out 0).trans rfl, (blk_cell BK287.out 1).trans rfl⟩ (fun hHeld => ?_)
                clear hK K
                refine norm_ (a' := ?_) ?_ ?_
                rotate_left
                ·show Act.put _ (some 22) _ = _
                 simp only [Act.put, List.setIfInBounds_toArray, List.set_cons_zero, List.set_cons_succ, i64_w, i32_w]
                 rfl
                exact norm_ (by first | (simp only [putAll, Act.put, List.setIfInBounds_toArray, List.set_cons_zero, List.set_cons_succ]; done) | (simp only [putAll, Act.put, List.setIfInBounds_toArray, List.set_cons_zero, List.set_cons_succ]; rfl)) (hJ6 (v292) _ ⟨hHeld, (by (with_reducible repeat (first | apply Kd.N_alloc | apply Kd.N_drewN | apply Kd.N_drew)); exact Kd.N_mono HO283.out (fun _ hk => ⟨hk.1.1, ⟨hk.2, hk.1.2⟩⟩)), (by (with_reducible repeat (first | apply Kd.N_alloc | apply Kd.N_drewN | apply Kd.N_drew)); exact Kd.N_mono HO286.out (fun _ hk => ⟨hk.1.1, ⟨hk.2, hk.1.2⟩⟩)), (by (with_reducible repeat (first | apply Kd.N_alloc | apply Kd.N_drewN | apply Kd.N_drew)); exact HO293.out), (by (with_reducible repeat (first | refine blk_drewN ?_ _ | refine blk_drew ?_ | refine blk_alloc ?_ _)); exact BK287.out), (by repeat (first | (with_reducible first | exact HB.out | apply below_alloc | apply pw_below_drewN | apply below_drew1 | refine below_set ?_ GE287.out) | exact HB.out))⟩)
               ·skip
                refine Kd.R_lit_step (Kd.int .i64) _ 3 ?hg (N := 26) ?hd (xs := ([6] : List Int)) (inner := [.int .i64 6]) (ok := fun _ => True) (okp := fun _ => True) ?hr ?hp (fun _ hk => hk) trivial (Below.refl _ _) (Nat.le_refl _) (by simp) ?_; (case hd => rfl); (case hg => rfl); (case hr => first | (go_simp; done) | (go_simp; rfl)); (case hp => exact (Reps.one (show Kd.M (Kd.int .i64) _ _ _ 6 [.int .i64 6] from rfl) (Reps.none _ _)))
                intro v298 w65 ho66 hb hg_ hnew_
                clear hg_ hnew_
                (first | rw [← Ny297.out] at ho66 | (simp only [Int.reduceToNat] at ho66; rw [← Ny297.out] at ho66))
                have n0_ := Aside0.mk (Kd.N_elder' (by (with_reducible repeat (first | apply Kd.N_alloc | apply Kd.N_drewN | apply Kd.N_drew)); exact HO283.out) (Kd.R_base ho66) hb)
                have n1_ := Aside0.mk (Kd.N_elder' (by (with_reducible repeat (first | apply Kd.N_alloc | apply Kd.N_drewN | apply Kd.N_drew)); exact HO286.out) (Kd.R_base ho66) hb)
                have n2_ := Aside0.mk (Kd.R_lower ho66 (below_size (by repeat (first | (with_reducible first | exact HB.out | apply below_alloc | apply pw_below_drewN | apply below_drew1 | refine below_set ?_ GE287.out) | exact HB.out))))
                have n3_ := Aside0.mk (blk_below (g := gb287) (o := .cells #[.slice Ao57 t281.length co57, .slice Ao59 t284.length co59] 25 (0, 0)) (by (with_reducible repeat (first | refine blk_drewN ?_ _ | refine blk_drew ?_ | refine blk_alloc ?_ _)); exact BK287.out) hb)
                have n4_ := Aside0.mk (below_step (by repeat (first | (with_reducible first | exact HB.out | apply below_alloc | apply pw_below_drewN | apply below_drew1 | refine below_set ?_ GE287.out) | exact HB.out)) hb)
                clear HO283
                clear HO286
                clear BK287
                clear HB
                have HO283 := n0_
                have HO286 := n1_
                have HO299 := n2_
                have BK287 := n3_
                have HB := n4_
                clear n0_ n1_ n2_ n3_ n4_
                clear hb ho66
                refine hK.out _ _ ⟨(blk_cell BK287.out 0).trans rfl, (blk_cell BK287.out 1).trans rfl⟩ (fun hHeld => ?_)
                clear hK K
                refine norm_ (a' := ?_) ?_ ?_
                rotate_left
                ·show Act.put _ (some 26) _ = _
                 simp only [Act.put, List.setIfInBounds_toArray, List.set_cons_zero, List.set_cons_succ, i64_w, i32_w]
                 rfl
                exact norm_ (by first | (simp only [putAll, Act.put, List.setIfInBounds_toArray, List.set_cons_zero, List.set_cons_succ]; done) | (simp only [putAll, Act.put, List.setIfInBounds_toArray, List.set_cons_zero, List.set_cons_succ]; rfl)) (hJ10 (v298) _ ⟨hHeld, (by (with_reducible repeat (first | apply Kd.N_alloc | apply Kd.N_drewN | apply Kd.N_drew)); exact Kd.N_mono HO283.out (fun _ hk => ⟨hk.1.1, ⟨hk.2, hk.1.2⟩⟩)), (by (with_reducible repeat (first | apply Kd.N_alloc | apply Kd.N_drewN | apply Kd.N_drew)); exact Kd.N_mono HO286.out (fun _ hk => ⟨hk.1.1, ⟨hk.2, hk.1.2⟩⟩)), (by (with_reducible repeat (first | apply Kd.R_alloc | apply Kd.R_drewN | apply Kd.R_drew)); exact HO299.out), (by (with_reducible repeat (first | refine blk_drewN ?_ _ | refine blk_drew ?_ | refine blk_alloc ?_ _)); exact BK287.out), (by repeat (first | (with_reducible first | exact HB.out | apply below_alloc | apply pw_below_drewN | apply below_drew1 | refine below_set ?_ GE287.out) | exact HB.out))⟩)
              ·skip
               rintro v298 w67 ⟨hS_, h0_, h1_, h2_, h3_, h4_⟩
               have n0_ : Aside0 (Kd.N (Kd.slice 3 (Kd.int .i64)) 36 w67 w.heap.size (fun k_ => some k_ ≠ (.slice Ao59 t284.length co59 : Value).ownBlock ∧ some k_ ≠ (v298 : Value).ownBlock ∧ k_ ≠ gb287) (.slice Ao57 t281.length co57) t281) := ⟨h0_⟩
               have n1_ : Aside0 (Kd.N (Kd.slice 3 (Kd.int .i64)) 36 w67 w.heap.size (fun k_ => some k_ ≠ (.slice Ao57 t281.length co57 : Value).ownBlock ∧ some k_ ≠ (v298 : Value).ownBlock ∧ k_ ≠ gb287) (.slice Ao59 t284.length co59) t284) := ⟨h1_⟩
               have n2_ : Aside0 (Kd.R (Kd.int .i64) 3 w67 w.heap.size (fun _ => True) v298 y297) := ⟨h2_⟩
               have n3_ : Aside0 (w67.heap[gb287]? = some (.cells #[.slice Ao57 t281.length co57, .slice Ao59 t284.length co59] 25 (0, 0))) := ⟨h3_⟩
               have n4_ : Aside0 (Below w.heap.size w w67) := ⟨h4_⟩
               clear HO283
               clear HO286
               clear BK287
               clear HB
               clear h0_ h1_ h2_ h3_ h4_
               have HO283 := n0_
               have HO286 := n1_
               have HO299 := n2_
               have BK287 := n3_
               have HB := n4_
               clear n0_ n1_ n2_ n3_ n4_
               have hHeld : w67.cell? ⟨gb287, 0, none⟩ = some (.slice Ao57 t281.length co57) ∧ w67.cell? ⟨gb287, 1, none⟩ = some (.slice Ao59 t284.length co59) := hS_
               refine norm_ (a' := ?_) ?_ ?_
               rotate_left
               ·simp only [putAll, Act.put, List.setIfInBounds_toArray, List.set_cons_zero, List.set_cons_succ]
                rfl
               refine two_ (i := 6) (j := 11) (Ni := some 22) (Nj := some 27) #[true, true, true, true, true, true, true, true, true, false, true, false, false, true, true, false, false, false, false, false, false, false, false] #[true, true, true, true, true, true, false, true, true, false, true, true, false, true, true, false, false, false, false, false, false, false, false] rfl rfl rfl rfl (two_of HT_.out (by kernel_rfl)) (by decide) (by decide) (fun K hK => ?_) (fun K hK => ?_)
               ·skip
                refine Kd.N_lit_step (Kd.slice 3 (Kd.int .i64)) _ 36 ?hg (N' := 22) ?hd (xs := ([] : List (List Int))) (inner := []) (ok := (fun k_ => some k_ ≠ (.slice Ao57 t281.length co57 : Value).ownBlock ∧ some k_ ≠ (.slice Ao59 t284.length co59 : Value).ownBlock ∧ some k_ ≠ (v298 : Value).ownBlock ∧ k_ ≠ gb287)) (okp := (fun k_ => some k_ ≠ (.slice Ao57 t281.length co57 : Value).ownBlock ∧ some k_ ≠ (.slice Ao59 t284.length co59 : Value).ownBlock ∧ some k_ ≠ (v298 : Value).ownBlock ∧ k_ ≠ gb287)) ?hr ?hp (fun _ hk => hk) ((show ∀ k_, w67.heap.size ≤ k_ → (fun k_ => some k_ ≠ (.slice Ao57 t281.length co57 : Value).ownBlock ∧ some k_ ≠ (.slice Ao59 t284.length co59 : Value).ownBlock ∧ some k_ ≠ (v298 : Value).ownBlock ∧ k_ ≠ gb287) k_ from fun k_ hk => ⟨Kd.fresh' (Kd.N_lt (by (with_reducible repeat (first | apply Kd.N_alloc | apply Kd.N_drewN | apply Kd.N_drew)); exact HO283.out)) k_ hk, Kd.fresh' (Kd.N_lt (by (with_reducible repeat (first | apply Kd.N_alloc | apply Kd.N_drewN | apply Kd.N_drew)); exact HO286.out)) k_ hk, Kd.fresh' (Kd.R_lt (by (with_reducible repeat (first | apply Kd.R_alloc | apply Kd.R_drewN | apply Kd.R_drew)); exact HO299.out)) k_ hk, Kd.freshB (g := gb287) (o := .cells #[.slice Ao57 t281.length co57, .slice Ao59 t284.length co59] 25 (0, 0)) (by (with_reducible repeat (first | refine blk_drewN ?_ _ | refine blk_drew ?_ | refine blk_alloc ?_ _)); exact BK287.out) k_ hk⟩) _ (Nat.le_refl _)) (Below.refl _ _) (Nat.le_refl _) (by simp) ?_; (case hd => rfl); (case hg => rfl); (case hr => first | (go_simp; done) | (go_simp; rfl)); (case hp => exact (Reps.none _ _))
                intro v292 w68 ho69 hb hg_ hnew_
                clear hg_ hnew_
                (first | rw [← Ny291.out] at ho69 | (simp only [Int.reduceToNat] at ho69; rw [← Ny291.out] at ho69))
                have n0_ := Aside0.mk (Kd.N_elder' (by (with_reducible repeat (first | apply Kd.N_alloc | apply Kd.N_drewN | apply Kd.N_drew)); exact HO283.out) (Kd.N_base ho69) hb)
                have n1_ := Aside0.mk (Kd.N_elder' (by (with_reducible repeat (first | apply Kd.N_alloc | apply Kd.N_drewN | apply Kd.N_drew)); exact HO286.out) (Kd.N_base ho69) hb)
                have n2_ := Aside0.mk (Kd.R_below (by (with_reducible repeat (first | apply Kd.R_alloc | apply Kd.R_drewN | apply Kd.R_drew)); exact HO299.out) hb)
                have n3_ := Aside0.mk (Kd.N_lower ho69 (below_size (by repeat (first | (with_reducible first | exact HB.out | apply below_alloc | apply pw_below_drewN | apply below_drew1 | refine below_set ?_ GE287.out) | exact HB.out))))
                have n4_ := Aside0.mk (blk_below (g := gb287) (o := .cells #[.slice Ao57 t281.length co57, .slice Ao59 t284.length co59] 25 (0, 0)) (by (with_reducible repeat (first | refine blk_drewN ?_ _ | refine blk_drew ?_ | refine blk_alloc ?_ _)); exact BK287.out) hb)
                have n5_ := Aside0.mk (below_step (by repeat (first | (with_reducible first | exact HB.out | apply below_alloc | apply pw_below_drewN | apply below_drew1 | refine below_set ?_ GE287.out) | exact HB.out)) hb)
                clear HO283
                clear HO286
                clear HO299
                clear BK287
                clear HB
                have HO283 := n0_
                have HO286 := n1_
                have HO299 := n2_
                have HO293 := n3_
                have BK287 := n4_
                have HB := n5_
                clear n0_ n1_ n2_ n3_ n4_ n5_
                clear hb ho69
                refine hK.out _ _ ⟨(blk_cell BK287.out 0).trans rfl, (blk_cell BK287.out 1).trans rfl⟩ (fun hHeld => ?_)
                clear hK K
                refine norm_ (a' := ?_) ?_ ?_
                rotate_left
                ·show Act.put _ (some 22) _ = _
                 simp only [Act.put, List.setIfInBounds_toArray, List.set_cons_zero, List.set_cons_succ, i64_w, i32_w]
                 rfl
                exact norm_ (by first | (simp only [putAll, Act.put, List.setIfInBounds_toArray, List.set_cons_zero, List.set_cons_succ]; done) | (simp only [putAll, Act.put, List.setIfInBounds_toArray, List.set_cons_zero, List.set_cons_succ]; rfl)) (hJ6_10 (v292, v298) _ ⟨hHeld, (by (with_reducible repeat (first | apply Kd.N_alloc | apply Kd.N_drewN | apply Kd.N_drew)); exact Kd.N_mono HO283.out (fun _ hk => ⟨hk.1.1, ⟨hk.2, ⟨hk.1.2.1, hk.1.2.2⟩⟩⟩)), (by (with_reducible repeat (first | apply Kd.N_alloc | apply Kd.N_drewN | apply Kd.N_drew)); exact Kd.N_mono HO286.out (fun _ hk => ⟨hk.1.1, ⟨hk.2, ⟨hk.1.2.1, hk.1.2.2⟩⟩⟩)), (by (with_reducible repeat (first | apply Kd.N_alloc | apply Kd.N_drewN | apply Kd.N_drew)); exact HO293.out), (by (with_reducible repeat (first | apply Kd.R_alloc | apply Kd.R_drewN | apply Kd.R_drew)); exact HO299.out), (by (with_reducible repeat (first | refine blk_drewN ?_ _ | refine blk_drew ?_ | refine blk_alloc ?_ _)); exact BK287.out), (by repeat (first | (with_reducible first | exact HB.out | apply below_alloc | apply pw_below_drewN | apply below_drew1 | refine below_set ?_ GE287.out) | exact HB.out))⟩)
               ·skip
                obtain ⟨Ao68, co68, eo68⟩ := Kd.R_slice HO299.out
                subst eo68
                refine Kd.N_lit_step (Kd.slice 3 (Kd.int .i64)) _ 36 ?hg (N' := 27) ?hd (xs := ([y297] : List (List Int))) (inner := [.slice Ao68 y297.length co68]) (ok := (fun k_ => some k_ ≠ (.slice Ao57 t281.length co57 : Value).ownBlock ∧ some k_ ≠ (.slice Ao59 t284.length co59 : Value).ownBlock ∧ k_ ≠ gb287)) (okp := (fun k_ => some k_ ≠ (.slice Ao57 t281.length co57 : Value).ownBlock ∧ some k_ ≠ (.slice Ao59 t284.length co59 : Value).ownBlock ∧ k_ ≠ gb287)) ?hr ?hp (fun _ hk => hk) ((show ∀ k_, w67.heap.size ≤ k_ → (fun k_ => some k_ ≠ (.slice Ao57 t281.length co57 : Value).ownBlock ∧ some k_ ≠ (.slice Ao59 t284.length co59 : Value).ownBlock ∧ k_ ≠ gb287) k_ from fun k_ hk => ⟨Kd.fresh' (Kd.N_lt (by (with_reducible repeat (first | apply Kd.N_alloc | apply Kd.N_drewN | apply Kd.N_drew)); exact HO283.out)) k_ hk, Kd.fresh' (Kd.N_lt (by (with_reducible repeat (first | apply Kd.N_alloc | apply Kd.N_drewN | apply Kd.N_drew)); exact HO286.out)) k_ hk, Kd.freshB (g := gb287) (o := .cells #[.slice Ao57 t281.length co57, .slice Ao59 t284.length co59] 25 (0, 0)) (by (with_reducible repeat (first | refine blk_drewN ?_ _ | refine blk_drew ?_ | refine blk_alloc ?_ _)); exact BK287.out) k_ hk⟩) _ (Nat.le_refl _)) (Below.refl _ _) (Nat.le_refl _) (by simp) ?_; (case hd => rfl); (case hg => rfl); (case hr => first | (go_simp; done) | (go_simp; rfl) | (obtain ⟨A_, c_, e_⟩ := Kd.R_slice HO299.out; rw [e_]; go_simp; done) | (obtain ⟨A_, c_, e_⟩ := Kd.R_slice HO299.out; rw [e_]; go_simp; rfl)); (case hp => exact (Reps.one (show Kd.FK (Kd.slice 3 (Kd.int .i64)) _ _ y297 [.slice Ao68 y297.length co68] from (Kd.FK_slice_mk (Kd.R_reads' (Kd.R_mono (ok' := (fun k_ => some k_ ≠ (.slice Ao57 t281.length co57 : Value).ownBlock ∧ some k_ ≠ (.slice Ao59 t284.length co59 : Value).ownBlock ∧ k_ ≠ gb287)) (Kd.R_types (Kd.R_apart' (Kd.R_apart' (HO299.out) (Kd.N_typed HO283.out) (by decide)) (Kd.N_typed HO286.out) (by decide)) BK287.out (by decide)) (fun k_ hk => ⟨hk.1.1.2, ⟨hk.1.2, hk.2⟩⟩))).2.1 (Kd.R_F (Kd.R_mono (ok' := (fun k_ => some k_ ≠ (.slice Ao57 t281.length co57 : Value).ownBlock ∧ some k_ ≠ (.slice Ao59 t284.length co59 : Value).ownBlock ∧ k_ ≠ gb287)) (Kd.R_types (Kd.R_apart' (Kd.R_apart' (HO299.out) (Kd.N_typed HO283.out) (by decide)) (Kd.N_typed HO286.out) (by decide)) BK287.out (by decide)) (fun k_ hk => ⟨hk.1.1.2, ⟨hk.1.2, hk.2⟩⟩))))) (Reps.none _ _)))
                intro v301 w69 ho70 hb hg_ hnew_
                clear hg_ hnew_
                (first | rw [← Ny300.out] at ho70 | (simp only [Int.reduceToNat] at ho70; rw [← Ny300.out] at ho70))
                have n0_ := Aside0.mk (Kd.N_elder' (by (with_reducible repeat (first | apply Kd.N_alloc | apply Kd.N_drewN | apply Kd.N_drew)); exact HO283.out) (Kd.N_base ho70) hb)
                have n1_ := Aside0.mk (Kd.N_elder' (by (with_reducible repeat (first | apply Kd.N_alloc | apply Kd.N_drewN | apply Kd.N_drew)); exact HO286.out) (Kd.N_base ho70) hb)
                have n2_ := Aside0.mk (Kd.N_lower ho70 (below_size (by repeat (first | (with_reducible first | exact HB.out | apply below_alloc | apply pw_below_drewN | apply below_drew1 | refine below_set ?_ GE287.out) | exact HB.out))))
                have n3_ := Aside0.mk (blk_below (g := gb287) (o := .cells #[.slice Ao57 t281.length co57, .slice Ao59 t284.length co59] 25 (0, 0)) (by (with_reducible repeat (first | refine blk_drewN ?_ _ | refine blk_drew ?_ | refine blk_alloc ?_ _)); exact BK287.out) hb)
                have n4_ := Aside0.mk (below_step (by repeat (first | (with_reducible first | exact HB.out | apply below_alloc | apply pw_below_drewN | apply below_drew1 | refine below_set ?_ GE287.out) | exact HB.out)) hb)
                clear HO283
                clear HO286
                clear BK287
                clear HB
                clear HO299
                have HO283 := n0_
                have HO286 := n1_
                have HO302 := n2_
                have BK287 := n3_
                have HB := n4_
                clear n0_ n1_ n2_ n3_ n4_
                clear hb ho70
                refine hK.out _ _ ⟨(blk_cell BK287.out 0).trans rfl, (blk_cell BK287.out 1).trans rfl⟩ (fun hHeld => ?_)
                clear hK K
                refine norm_ (a' := ?_) ?_ ?_
                rotate_left
                ·show Act.put _ (some 27) _ = _
                 simp only [Act.put, List.setIfInBounds_toArray, List.set_cons_zero, List.set_cons_succ, i64_w, i32_w]
                 rfl
                exact norm_ (by first | (simp only [putAll, Act.put, List.setIfInBounds_toArray, List.set_cons_zero, List.set_cons_succ]; done) | (simp only [putAll, Act.put, List.setIfInBounds_toArray, List.set_cons_zero, List.set_cons_succ]; rfl)) (hJ10_11 (.slice Ao68 y297.length co68, v301) _ ⟨hHeld, (by (with_reducible repeat (first | apply Kd.N_alloc | apply Kd.N_drewN | apply Kd.N_drew)); exact Kd.N_mono HO283.out (fun _ hk => ⟨hk.1.1, ⟨hk.2, hk.1.2.2⟩⟩)), (by (with_reducible repeat (first | apply Kd.N_alloc | apply Kd.N_drewN | apply Kd.N_drew)); exact Kd.N_mono HO286.out (fun _ hk => ⟨hk.1.1, ⟨hk.2, hk.1.2.2⟩⟩)), (by (with_reducible repeat (first | apply Kd.N_alloc | apply Kd.N_drewN | apply Kd.N_drew)); exact HO302.out), (by (with_reducible repeat (first | refine blk_drewN ?_ _ | refine blk_drew ?_ | refine blk_alloc ?_ _)); exact BK287.out), (by repeat (first | (with_reducible first | exact HB.out | apply below_alloc | apply pw_below_drewN | apply below_drew1 | refine below_set ?_ GE287.out) | exact HB.out))⟩)
             ·skip
              rintro v292 w67 ⟨hS_, h0_, h1_, h2_, h3_, h4_⟩
              have n0_ : Aside0 (Kd.N (Kd.slice 3 (Kd.int .i64)) 36 w67 w.heap.size (fun k_ => some k_ ≠ (.slice Ao59 t284.length co59 : Value).ownBlock ∧ some k_ ≠ (v292 : Value).ownBlock ∧ k_ ≠ gb287) (.slice Ao57 t281.length co57) t281) := ⟨h0_⟩
              have n1_ : Aside0 (Kd.N (Kd.slice 3 (Kd.int .i64)) 36 w67 w.heap.size (fun k_ => some k_ ≠ (.slice Ao57 t281.length co57 : Value).ownBlock ∧ some k_ ≠ (v292 : Value).ownBlock ∧ k_ ≠ gb287) (.slice Ao59 t284.length co59) t284) := ⟨h1_⟩
              have n2_ : Aside0 (Kd.N (Kd.slice 3 (Kd.int .i64)) 36 w67 w.heap.size (fun k_ => some k_ ≠ (.slice Ao57 t281.length co57 : Value).ownBlock ∧ some k_ ≠ (.slice Ao59 t284.length co59 : Value).ownBlock ∧ k_ ≠ gb287) v292 y291) := ⟨h2_⟩
              have n3_ : Aside0 (w67.heap[gb287]? = some (.cells #[.slice Ao57 t281.length co57, .slice Ao59 t284.length co59] 25 (0, 0))) := ⟨h3_⟩
              have n4_ : Aside0 (Below w.heap.size w w67) := ⟨h4_⟩
              clear HO283
              clear HO286
              clear BK287
              clear HB
              clear h0_ h1_ h2_ h3_ h4_
              have HO283 := n0_
              have HO286 := n1_
              have HO293 := n2_
              have BK287 := n3_
              have HB := n4_
              clear n0_ n1_ n2_ n3_ n4_
              have hHeld : w67.cell? ⟨gb287, 0, none⟩ = some (.slice Ao57 t281.length co57) ∧ w67.cell? ⟨gb287, 1, none⟩ = some (.slice Ao59 t284.length co59) := hS_
              refine norm_ (a' := ?_) ?_ ?_
              rotate_left
              ·simp only [putAll, Act.put, List.setIfInBounds_toArray, List.set_cons_zero, List.set_cons_succ]
               rfl
              refine two_ (i := 9) (j := 10) (Ni := some 25) (Nj := some 26) #[true, true, true, true, true, true, true, true, true, true, false, false, false, true, true, false, false, false, false, false, false, false, false] #[true, true, true, true, true, true, true, true, true, false, true, false, false, true, true, false, false, false, false, false, false, false, false] rfl rfl rfl rfl (two_of HT_.out (by kernel_rfl)) (by decide) (by decide) (fun K hK => ?_) (fun K hK => ?_)
              ·skip
               refine Kd.N_append_rows_step (Kd.slice 3 (Kd.int .i64)) (w0 := w) w.heap.size (by rfl) (.tmp 22) (.tmp 24) 23 36 (.slice none 0 0) 24 rfl Try.underlying23 info36 rfl (by decide) (by omega) v292 y291 t281 _ _ _ (fun k_ => some k_ ≠ (.slice Ao59 t284.length co59 : Value).ownBlock ∧ k_ ≠ gb287) (fun k_ => ((fun k_ => some k_ ≠ (.slice Ao59 t284.length co59 : Value).ownBlock ∧ k_ ≠ gb287)) k_ ∧ some k_ ≠ (v292 : Value).ownBlock) rfl rfl ?aO ?aR (fun _ hk => hk) ?aF ?aB ?aS ?aL ?_
               (case aR => exact (by skip; exact Kd.N_F (Kd.N_mono (ok' := (fun k_ => ((fun k_ => some k_ ≠ (.slice Ao59 t284.length co59 : Value).ownBlock ∧ k_ ≠ gb287)) k_ ∧ some k_ ≠ (v292 : Value).ownBlock)) (HO283.out) (fun k_ hk => ⟨⟨hk.1, hk.2.2⟩, hk.2.1⟩))))
               (case aB => exact (by repeat (first | (with_reducible first | exact HB.out | apply below_alloc | apply pw_below_drewN | apply below_drew1 | refine below_set ?_ GE287.out) | exact HB.out)))
               (case aF => exact (fun k_ hk => ⟨Kd.fresh' (Kd.N_lt (by (with_reducible repeat (first | apply Kd.N_alloc | apply Kd.N_drewN | apply Kd.N_drew)); exact HO286.out)) k_ hk, Kd.freshB (g := gb287) (o := .cells #[.slice Ao57 t281.length co57, .slice Ao59 t284.length co59] 25 (0, 0)) (by (with_reducible repeat (first | refine blk_drewN ?_ _ | refine blk_drew ?_ | refine blk_alloc ?_ _)); exact BK287.out) k_ hk⟩))
               (case aO => exact (by (with_reducible repeat (first | apply Kd.N_alloc | apply Kd.N_drewN | apply Kd.N_drew)); exact Kd.N_mono HO293.out (fun _ hk => ⟨hk.2.1, hk.2.2⟩)))
               (case aS => exact (below_size (by repeat (first | (with_reducible first | exact HB.out | apply below_alloc | apply pw_below_drewN | apply below_drew1 | refine below_set ?_ GE287.out) | exact HB.out))))
               (case aL => have := LMc27.out; omega)
               intro v295 w68 ho hb hg hat
               rw [← Ny294.out] at ho
               have n0_ := Aside0.mk (Kd.N_afterv (ok := (fun k_ => some k_ ≠ (.slice Ao59 t284.length co59 : Value).ownBlock ∧ k_ ≠ gb287)) (by (with_reducible repeat (first | apply Kd.N_alloc | apply Kd.N_drewN | apply Kd.N_drew)); exact Kd.N_mono HO283.out (fun _ hk => ⟨⟨hk.1, hk.2.2⟩, hk.2.1⟩)) hg hat)
               have n1_ := Aside0.mk (Kd.N_afterv (ok := (fun k_ => some k_ ≠ (.slice Ao57 t281.length co57 : Value).ownBlock ∧ k_ ≠ gb287)) (by (with_reducible repeat (first | apply Kd.N_alloc | apply Kd.N_drewN | apply Kd.N_drew)); exact Kd.N_mono HO286.out (fun _ hk => ⟨⟨hk.1, hk.2.2⟩, hk.2.1⟩)) hg hat)
               have n2_ := Aside0.mk (blk_grown (g := gb287) (o := .cells #[.slice Ao57 t281.length co57, .slice Ao59 t284.length co59] 25 (0, 0)) (by (with_reducible repeat (first | refine blk_drewN ?_ _ | refine blk_drew ?_ | refine blk_alloc ?_ _)); exact BK287.out) hg (Kd.N_ne HO293.out BK287.out (by decide)))
               have n3_ := Aside0.mk (hb)
               have n4_ := Aside0.mk (ho)
               clear HO283
               clear HO286
               clear BK287
               clear HB
               clear HO293
               have HO283 := n0_
               have HO286 := n1_
               have BK287 := n2_
               have HB := n3_
               have HO296 := n4_
               clear n0_ n1_ n2_ n3_ n4_
               clear ho hb hg hat
               refine hK.out _ _ ⟨(blk_cell BK287.out 0).trans rfl, (blk_cell BK287.out 1).trans rfl⟩ (fun hHeld => ?_)
               clear hK K
               refine norm_ (a' := ?_) ?_ ?_
               rotate_left
               ·show Act.put _ (some 25) _ = _
                simp only [Act.put, List.setIfInBounds_toArray, List.set_cons_zero, List.set_cons_succ, i64_w, i32_w]
                rfl
               exact norm_ (by first | (simp only [putAll, Act.put, List.setIfInBounds_toArray, List.set_cons_zero, List.set_cons_succ]; done) | (simp only [putAll, Act.put, List.setIfInBounds_toArray, List.set_cons_zero, List.set_cons_succ]; rfl)) (hJ6_9 (v292, v295) _ ⟨hHeld, (by (with_reducible repeat (first | apply Kd.N_alloc | apply Kd.N_drewN | apply Kd.N_drew)); exact Kd.N_mono HO283.out (fun _ hk => ⟨hk.1.1, ⟨hk.2, hk.1.2⟩⟩)), (by (with_reducible repeat (first | apply Kd.N_alloc | apply Kd.N_drewN | apply Kd.N_drew)); exact Kd.N_mono HO286.out (fun _ hk => ⟨hk.1.1, ⟨hk.2, hk.1.2⟩⟩)), (by (with_reducible repeat (first | apply Kd.N_alloc | apply Kd.N_drewN | apply Kd.N_drew)); exact HO296.out), (by (with_reducible repeat (first | refine blk_drewN ?_ _ | refine blk_drew ?_ | refine blk_alloc ?_ _)); exact BK287.out), (by repeat (first | (with_reducible first | exact HB.out | apply below_alloc | apply pw_below_drewN | apply below_drew1 | refine below_set ?_ GE287.out) | exact HB.out))⟩)
              ·skip
               refine Kd.R_lit_step (Kd.int .i64) _ 3 ?hg (N := 26) ?hd (xs := ([6] : List Int)) (inner := [.int .i64 6]) (ok := fun _ => True) (okp := fun _ => True) ?hr ?hp (fun _ hk => hk) trivial (Below.refl _ _) (Nat.le_refl _) (by simp) ?_; (case hd => rfl); (case hg => rfl); (case hr => first | (go_simp; done) | (go_simp; rfl)); (case hp => exact (Reps.one (show Kd.M (Kd.int .i64) _ _ _ 6 [.int .i64 6] from rfl) (Reps.none _ _)))
               intro v298 w68 ho69 hb hg_ hnew_
               clear hg_ hnew_
               (first | rw [← Ny297.out] at ho69 | (simp only [Int.reduceToNat] at ho69; rw [← Ny297.out] at ho69))
               have n0_ := Aside0.mk (Kd.N_elder' (by (with_reducible repeat (first | apply Kd.N_alloc | apply Kd.N_drewN | apply Kd.N_drew)); exact HO283.out) (Kd.R_base ho69) hb)
               have n1_ := Aside0.mk (Kd.N_elder' (by (with_reducible repeat (first | apply Kd.N_alloc | apply Kd.N_drewN | apply Kd.N_drew)); exact HO286.out) (Kd.R_base ho69) hb)
               have n2_ := Aside0.mk (Kd.N_elder' (by (with_reducible repeat (first | apply Kd.N_alloc | apply Kd.N_drewN | apply Kd.N_drew)); exact HO293.out) (Kd.R_base ho69) hb)
               have n3_ := Aside0.mk (Kd.R_lower ho69 (below_size (by repeat (first | (with_reducible first | exact HB.out | apply below_alloc | apply pw_below_drewN | apply below_drew1 | refine below_set ?_ GE287.out) | exact HB.out))))
               have n4_ := Aside0.mk (blk_below (g := gb287) (o := .cells #[.slice Ao57 t281.length co57, .slice Ao59 t284.length co59] 25 (0, 0)) (by (with_reducible repeat (first | refine blk_drewN ?_ _ | refine blk_drew ?_ | refine blk_alloc ?_ _)); exact BK287.out) hb)
               have n5_ := Aside0.mk (below_step (by repeat (first | (with_reducible first | exact HB.out | apply below_alloc | apply pw_below_drewN | apply below_drew1 | refine below_set ?_ GE287.out) | exact HB.out)) hb)
               clear HO283
               clear HO286
               clear HO293
               clear BK287
               clear HB
               have HO283 := n0_
               have HO286 := n1_
               have HO293 := n2_
               have HO299 := n3_
               have BK287 := n4_
               have HB := n5_
               clear n0_ n1_ n2_ n3_ n4_ n5_
               clear hb ho69
               refine hK.out _ _ ⟨(blk_cell BK287.out 0).trans rfl, (blk_cell BK287.out 1).trans rfl⟩ (fun hHeld => ?_)
               clear hK K
               refine norm_ (a' := ?_) ?_ ?_
               rotate_left
               ·show Act.put _ (some 26) _ = _
                simp only [Act.put, List.setIfInBounds_toArray, List.set_cons_zero, List.set_cons_succ, i64_w, i32_w]
                rfl
               exact norm_ (by first | (simp only [putAll, Act.put, List.setIfInBounds_toArray, List.set_cons_zero, List.set_cons_succ]; done) | (simp only [putAll, Act.put, List.setIfInBounds_toArray, List.set_cons_zero, List.set_cons_succ]; rfl)) (hJ6_10 (v292, v298) _ ⟨hHeld, (by (with_reducible repeat (first | apply Kd.N_alloc | apply Kd.N_drewN | apply Kd.N_drew)); exact Kd.N_mono HO283.out (fun _ hk => ⟨hk.1.1, ⟨hk.1.2.1, ⟨hk.2, hk.1.2.2⟩⟩⟩)), (by (with_reducible repeat (first | apply Kd.N_alloc | apply Kd.N_drewN | apply Kd.N_drew)); exact Kd.N_mono HO286.out (fun _ hk => ⟨hk.1.1, ⟨hk.1.2.1, ⟨hk.2, hk.1.2.2⟩⟩⟩)), (by (with_reducible repeat (first | apply Kd.N_alloc | apply Kd.N_drewN | apply Kd.N_drew)); exact Kd.N_mono HO293.out (fun _ hk => ⟨hk.1.1, ⟨hk.1.2.1, ⟨hk.2, hk.1.2.2⟩⟩⟩)), (by (with_reducible repeat (first | apply Kd.R_alloc | apply Kd.R_drewN | apply Kd.R_drew)); exact HO299.out), (by (with_reducible repeat (first | refine blk_drewN ?_ _ | refine blk_drew ?_ | refine blk_alloc ?_ _)); exact BK287.out), (by repeat (first | (with_reducible first | exact HB.out | apply below_alloc | apply pw_below_drewN | apply below_drew1 | refine below_set ?_ GE287.out) | exact HB.out))⟩)
            ·skip
             rintro ⟨v298, v301⟩ w70 ⟨hS_, h0_, h1_, h2_, h3_, h4_⟩
             have n0_ : Aside0 (Kd.N (Kd.slice 3 (Kd.int .i64)) 36 w70 w.heap.size (fun k_ => some k_ ≠ (.slice Ao59 t284.length co59 : Value).ownBlock ∧ some k_ ≠ (v301 : Value).ownBlock ∧ k_ ≠ gb287) (.slice Ao57 t281.length co57) t281) := ⟨h0_⟩
             have n1_ : Aside0 (Kd.N (Kd.slice 3 (Kd.int .i64)) 36 w70 w.heap.size (fun k_ => some k_ ≠ (.slice Ao57 t281.length co57 : Value).ownBlock ∧ some k_ ≠ (v301 : Value).ownBlock ∧ k_ ≠ gb287) (.slice Ao59 t284.length co59) t284) := ⟨h1_⟩
             have n2_ : Aside0 (Kd.N (Kd.slice 3 (Kd.int .i64)) 36 w70 w.heap.size (fun k_ => some k_ ≠ (.slice Ao57 t281.length co57 : Value).ownBlock ∧ some k_ ≠ (.slice Ao59 t284.length co59 : Value).ownBlock ∧ k_ ≠ gb287) v301 y300) := ⟨h2_⟩
             have n3_ : Aside0 (w70.heap[gb287]? = some (.cells #[.slice Ao57 t281.length co57, .slice Ao59 t284.length co59] 25 (0, 0))) := ⟨h3_⟩
             have n4_ : Aside0 (Below w.heap.size w w70) := ⟨h4_⟩
             clear HO283
             clear HO286
             clear BK287
             clear HB
             clear h0_ h1_ h2_ h3_ h4_
             have HO283 := n0_
             have HO286 := n1_
             have HO302 := n2_
             have BK287 := n3_
             have HB := n4_
             clear n0_ n1_ n2_ n3_ n4_
             have hHeld : w70.cell? ⟨gb287, 0, none⟩ = some (.slice Ao57 t281.length co57) ∧ w70.cell? ⟨gb287, 1, none⟩ = some (.slice Ao59 t284.length co59) := hS_
             refine norm_ (a' := ?_) ?_ ?_
             rotate_left
             ·simp only [putAll, Act.put, List.setIfInBounds_toArray, List.set_cons_zero, List.set_cons_succ]
              rfl
             refine one_ (i := 6) (N := some 22) #[true, true, true, true, true, true, true, true, true, false, true, true, false, true, true, false, false, false, false, false, false, false, false] rfl rfl (one_of HT_.out (by kernel_rfl)) (by decide) (fun K hK => ?_)
             refine Kd.N_lit_step (Kd.slice 3 (Kd.int .i64)) _ 36 ?hg (N' := 22) ?hd (xs := ([] : List (List Int))) (inner := []) (ok := (fun k_ => some k_ ≠ (.slice Ao57 t281.length co57 : Value).ownBlock ∧ some k_ ≠ (.slice Ao59 t284.length co59 : Value).ownBlock ∧ some k_ ≠ (v301 : Value).ownBlock ∧ k_ ≠ gb287)) (okp := (fun k_ => some k_ ≠ (.slice Ao57 t281.length co57 : Value).ownBlock ∧ some k_ ≠ (.slice Ao59 t284.length co59 : Value).ownBlock ∧ some k_ ≠ (v301 : Value).ownBlock ∧ k_ ≠ gb287)) ?hr ?hp (fun _ hk => hk) ((show ∀ k_, w70.heap.size ≤ k_ → (fun k_ => some k_ ≠ (.slice Ao57 t281.length co57 : Value).ownBlock ∧ some k_ ≠ (.slice Ao59 t284.length co59 : Value).ownBlock ∧ some k_ ≠ (v301 : Value).ownBlock ∧ k_ ≠ gb287) k_ from fun k_ hk => ⟨Kd.fresh' (Kd.N_lt (by (with_reducible repeat (first | apply Kd.N_alloc | apply Kd.N_drewN | apply Kd.N_drew)); exact HO283.out)) k_ hk, Kd.fresh' (Kd.N_lt (by (with_reducible repeat (first | apply Kd.N_alloc | apply Kd.N_drewN | apply Kd.N_drew)); exact HO286.out)) k_ hk, Kd.fresh' (Kd.N_lt (by (with_reducible repeat (first | apply Kd.N_alloc | apply Kd.N_drewN | apply Kd.N_drew)); exact HO302.out)) k_ hk, Kd.freshB (g := gb287) (o := .cells #[.slice Ao57 t281.length co57, .slice Ao59 t284.length co59] 25 (0, 0)) (by (with_reducible repeat (first | refine blk_drewN ?_ _ | refine blk_drew ?_ | refine blk_alloc ?_ _)); exact BK287.out) k_ hk⟩) _ (Nat.le_refl _)) (Below.refl _ _) (Nat.le_refl _) (by simp) ?_; (case hd => rfl); (case hg => rfl); (case hr => first | (go_simp; done) | (go_simp; rfl)); (case hp => exact (Reps.none _ _))
             intro v292 w71 ho72 hb hg_ hnew_
             clear hg_ hnew_
             (first | rw [← Ny291.out] at ho72 | (simp only [Int.reduceToNat] at ho72; rw [← Ny291.out] at ho72))
             have n0_ := Aside0.mk (Kd.N_elder' (by (with_reducible repeat (first | apply Kd.N_alloc | apply Kd.N_drewN | apply Kd.N_drew)); exact HO283.out) (Kd.N_base ho72) hb)
             have n1_ := Aside0.mk (Kd.N_elder' (by (with_reducible repeat (first | apply Kd.N_alloc | apply Kd.N_drewN | apply Kd.N_drew)); exact HO286.out) (Kd.N_base ho72) hb)
             have n2_ := Aside0.mk (Kd.N_elder' (by (with_reducible repeat (first | apply Kd.N_alloc | apply Kd.N_drewN | apply Kd.N_drew)); exact HO302.out) (Kd.N_base ho72) hb)
             have n3_ := Aside0.mk (Kd.N_lower ho72 (below_size (by repeat (first | (with_reducible first | exact HB.out | apply below_alloc | apply pw_below_drewN | apply below_drew1 | refine below_set ?_ GE287.out) | exact HB.out))))
             have n4_ := Aside0.mk (blk_below (g := gb287) (o := .cells #[.slice Ao57 t281.length co57, .slice Ao59 t284.length co59] 25 (0, 0)) (by (with_reducible repeat (first | refine blk_drewN ?_ _ | refine blk_drew ?_ | refine blk_alloc ?_ _)); exact BK287.out) hb)
             have n5_ := Aside0.mk (below_step (by repeat (first | (with_reducible first | exact HB.out | apply below_alloc | apply pw_below_drewN | apply below_drew1 | refine below_set ?_ GE287.out) | exact HB.out)) hb)
             clear HO283
             clear HO286
             clear HO302
             clear BK287
             clear HB
             have HO283 := n0_
             have HO286 := n1_
             have HO302 := n2_
             have HO293 := n3_
             have BK287 := n4_
             have HB := n5_
             clear n0_ n1_ n2_ n3_ n4_ n5_
             clear hb ho72
             refine hK.out _ _ ⟨(blk_cell BK287.out 0).trans rfl, (blk_cell BK287.out 1).trans rfl⟩ (fun hHeld => ?_)
             clear hK K
             refine norm_ (a' := ?_) ?_ ?_
             rotate_left
             ·show Act.put _ (some 22) _ = _
              simp only [Act.put, List.setIfInBounds_toArray, List.set_cons_zero, List.set_cons_succ, i64_w, i32_w]
              rfl
             exact norm_ (by first | (simp only [putAll, Act.put, List.setIfInBounds_toArray, List.set_cons_zero, List.set_cons_succ]; done) | (simp only [putAll, Act.put, List.setIfInBounds_toArray, List.set_cons_zero, List.set_cons_succ]; rfl)) (hJ6_10_11 (v292, v298, v301) _ ⟨hHeld, (by (with_reducible repeat (first | apply Kd.N_alloc | apply Kd.N_drewN | apply Kd.N_drew)); exact Kd.N_mono HO283.out (fun _ hk => ⟨hk.1.1, ⟨hk.2, ⟨hk.1.2.1, hk.1.2.2⟩⟩⟩)), (by (with_reducible repeat (first | apply Kd.N_alloc | apply Kd.N_drewN | apply Kd.N_drew)); exact Kd.N_mono HO286.out (fun _ hk => ⟨hk.1.1, ⟨hk.2, ⟨hk.1.2.1, hk.1.2.2⟩⟩⟩)), (by (with_reducible repeat (first | apply Kd.N_alloc | apply Kd.N_drewN | apply Kd.N_drew)); exact HO293.out), (by (with_reducible repeat (first | apply Kd.N_alloc | apply Kd.N_drewN | apply Kd.N_drew)); exact Kd.N_mono HO302.out (fun _ hk => ⟨hk.1.1, ⟨hk.1.2.1, ⟨hk.2, hk.1.2.2⟩⟩⟩)), (by (with_reducible repeat (first | refine blk_drewN ?_ _ | refine blk_drew ?_ | refine blk_alloc ?_ _)); exact BK287.out), (by repeat (first | (with_reducible first | exact HB.out | apply below_alloc | apply pw_below_drewN | apply below_drew1 | refine below_set ?_ GE287.out) | exact HB.out))⟩)
           ·skip
            rintro ⟨v292, v298⟩ w69 ⟨hS_, h0_, h1_, h2_, h3_, h4_, h5_⟩
            have n0_ : Aside0 (Kd.N (Kd.slice 3 (Kd.int .i64)) 36 w69 w.heap.size (fun k_ => some k_ ≠ (.slice Ao59 t284.length co59 : Value).ownBlock ∧ some k_ ≠ (v292 : Value).ownBlock ∧ some k_ ≠ (v298 : Value).ownBlock ∧ k_ ≠ gb287) (.slice Ao57 t281.length co57) t281) := ⟨h0_⟩
            have n1_ : Aside0 (Kd.N (Kd.slice 3 (Kd.int .i64)) 36 w69 w.heap.size (fun k_ => some k_ ≠ (.slice Ao57 t281.length co57 : Value).ownBlock ∧ some k_ ≠ (v292 : Value).ownBlock ∧ some k_ ≠ (v298 : Value).ownBlock ∧ k_ ≠ gb287) (.slice Ao59 t284.length co59) t284) := ⟨h1_⟩
            have n2_ : Aside0 (Kd.N (Kd.slice 3 (Kd.int .i64)) 36 w69 w.heap.size (fun k_ => some k_ ≠ (.slice Ao57 t281.length co57 : Value).ownBlock ∧ some k_ ≠ (.slice Ao59 t284.length co59 : Value).ownBlock ∧ some k_ ≠ (v298 : Value).ownBlock ∧ k_ ≠ gb287) v292 y291) := ⟨h2_⟩
            have n3_ : Aside0 (Kd.R (Kd.int .i64) 3 w69 w.heap.size (fun _ => True) v298 y297) := ⟨h3_⟩
            have n4_ : Aside0 (w69.heap[gb287]? = some (.cells #[.slice Ao57 t281.length co57, .slice Ao59 t284.length co59] 25 (0, 0))) := ⟨h4_⟩
            have n5_ : Aside0 (Below w.heap.size w w69) := ⟨h5_⟩
            clear HO283
            clear HO286
            clear BK287
            clear HB
            clear h0_ h1_ h2_ h3_ h4_ h5_
            have HO283 := n0_
            have HO286 := n1_
            have HO293 := n2_
            have HO299 := n3_
            have BK287 := n4_
            have HB := n5_
            clear n0_ n1_ n2_ n3_ n4_ n5_
            have hHeld : w69.cell? ⟨gb287, 0, none⟩ = some (.slice Ao57 t281.length co57) ∧ w69.cell? ⟨gb287, 1, none⟩ = some (.slice Ao59 t284.length co59) := hS_
            refine norm_ (a' := ?_) ?_ ?_
            rotate_left
            ·simp only [putAll, Act.put, List.setIfInBounds_toArray, List.set_cons_zero, List.set_cons_succ]
             rfl
            refine two_ (i := 9) (j := 11) (Ni := some 25) (Nj := some 27) #[true, true, true, true, true, true, true, true, true, true, true, false, false, true, true, false, false, false, false, false, false, false, false] #[true, true, true, true, true, true, true, true, true, false, true, true, false, true, true, false, false, false, false, false, false, false, false] rfl rfl rfl rfl (two_of HT_.out (by kernel_rfl)) (by decide) (by decide) (fun K hK => ?_) (fun K hK => ?_)
            ·skip
             refine Kd.N_append_rows_step (Kd.slice 3 (Kd.int .i64)) (w0 := w) w.heap.size (by rfl) (.tmp 22) (.tmp 24) 23 36 (.slice none 0 0) 24 rfl Try.underlying23 info36 rfl (by decide) (by omega) v292 y291 t281 _ _ _ (fun k_ => some k_ ≠ (.slice Ao59 t284.length co59 : Value).ownBlock ∧ some k_ ≠ (v298 : Value).ownBlock ∧ k_ ≠ gb287) (fun k_ => ((fun k_ => some k_ ≠ (.slice Ao59 t284.length co59 : Value).ownBlock ∧ some k_ ≠ (v298 : Value).ownBlock ∧ k_ ≠ gb287)) k_ ∧ some k_ ≠ (v292 : Value).ownBlock) rfl rfl ?aO ?aR (fun _ hk => hk) ?aF ?aB ?aS ?aL ?_
             (case aR => exact (by skip; exact Kd.N_F (Kd.N_mono (ok' := (fun k_ => ((fun k_ => some k_ ≠ (.slice Ao59 t284.length co59 : Value).ownBlock ∧ some k_ ≠ (v298 : Value).ownBlock ∧ k_ ≠ gb287)) k_ ∧ some k_ ≠ (v292 : Value).ownBlock)) (HO283.out) (fun k_ hk => ⟨⟨hk.1, ⟨hk.2.2.1, hk.2.2.2⟩⟩, hk.2.1⟩))))
             (case aB => exact (by repeat (first | (with_reducible first | exact HB.out | apply below_alloc | apply pw_below_drewN | apply below_drew1 | refine below_set ?_ GE287.out) | exact HB.out)))
             (case aF => exact (fun k_ hk => ⟨Kd.fresh' (Kd.N_lt (by (with_reducible repeat (first | apply Kd.N_alloc | apply Kd.N_drewN | apply Kd.N_drew)); exact HO286.out)) k_ hk, Kd.fresh' (Kd.R_lt (by (with_reducible repeat (first | apply Kd.R_alloc | apply Kd.R_drewN | apply Kd.R_drew)); exact HO299.out)) k_ hk, Kd.freshB (g := gb287) (o := .cells #[.slice Ao57 t281.length co57, .slice Ao59 t284.length co59] 25 (0, 0)) (by (with_reducible repeat (first | refine blk_drewN ?_ _ | refine blk_drew ?_ | refine blk_alloc ?_ _)); exact BK287.out) k_ hk⟩))
             (case aO => exact (by (with_reducible repeat (first | apply Kd.N_alloc | apply Kd.N_drewN | apply Kd.N_drew)); exact Kd.N_mono HO293.out (fun _ hk => ⟨hk.2.1, ⟨hk.2.2.1, hk.2.2.2⟩⟩)))
             (case aS => exact (below_size (by repeat (first | (with_reducible first | exact HB.out | apply below_alloc | apply pw_below_drewN | apply below_drew1 | refine below_set ?_ GE287.out) | exact HB.out))))
             (case aL => have := LMc27.out; omega)
             intro v295 w70 ho hb hg hat
             rw [← Ny294.out] at ho
             have n0_ := Aside0.mk (Kd.N_afterv (ok := (fun k_ => some k_ ≠ (.slice Ao59 t284.length co59 : Value).ownBlock ∧ some k_ ≠ (v298 : Value).ownBlock ∧ k_ ≠ gb287)) (by (with_reducible repeat (first | apply Kd.N_alloc | apply Kd.N_drewN | apply Kd.N_drew)); exact Kd.N_mono HO283.out (fun _ hk => ⟨⟨hk.1, ⟨hk.2.2.1, hk.2.2.2⟩⟩, hk.2.1⟩)) hg hat)
             have n1_ := Aside0.mk (Kd.N_afterv (ok := (fun k_ => some k_ ≠ (.slice Ao57 t281.length co57 : Value).ownBlock ∧ some k_ ≠ (v298 : Value).ownBlock ∧ k_ ≠ gb287)) (by (with_reducible repeat (first | apply Kd.N_alloc | apply Kd.N_drewN | apply Kd.N_drew)); exact Kd.N_mono HO286.out (fun _ hk => ⟨⟨hk.1, ⟨hk.2.2.1, hk.2.2.2⟩⟩, hk.2.1⟩)) hg hat)
             have n2_ := Aside0.mk (blk_grown (g := gb287) (o := .cells #[.slice Ao57 t281.length co57, .slice Ao59 t284.length co59] 25 (0, 0)) (by (with_reducible repeat (first | refine blk_drewN ?_ _ | refine blk_drew ?_ | refine blk_alloc ?_ _)); exact BK287.out) hg (Kd.N_ne HO293.out BK287.out (by decide)))
             have n3_ := Aside0.mk (Kd.R_over' (by (with_reducible repeat (first | apply Kd.R_alloc | apply Kd.R_drewN | apply Kd.R_drew)); exact HO299.out) (Kd.N_typed (by (with_reducible repeat (first | apply Kd.N_alloc | apply Kd.N_drewN | apply Kd.N_drew)); exact HO293.out)) (by decide) hg)
             have n4_ := Aside0.mk (hb)
             have n5_ := Aside0.mk (ho)
             clear HO283
             clear HO286
             clear BK287
             clear HO299
             clear HB
             clear HO293
             have HO283 := n0_
             have HO286 := n1_
             have BK287 := n2_
             have HO299 := n3_
             have HB := n4_
             have HO296 := n5_
             clear n0_ n1_ n2_ n3_ n4_ n5_
             clear ho hb hg hat
             refine hK.out _ _ ⟨(blk_cell BK287.out 0).trans rfl, (blk_cell BK287.out 1).trans rfl⟩ (fun hHeld => ?_)
             clear hK K
             refine norm_ (a' := ?_) ?_ ?_
             rotate_left
             ·show Act.put _ (some 25) _ = _
              simp only [Act.put, List.setIfInBounds_toArray, List.set_cons_zero, List.set_cons_succ, i64_w, i32_w]
              rfl
             exact norm_ (by first | (simp only [putAll, Act.put, List.setIfInBounds_toArray, List.set_cons_zero, List.set_cons_succ]; done) | (simp only [putAll, Act.put, List.setIfInBounds_toArray, List.set_cons_zero, List.set_cons_succ]; rfl)) (hJ6_9_10 (v292, v295, v298) _ ⟨hHeld, (by (with_reducible repeat (first | apply Kd.N_alloc | apply Kd.N_drewN | apply Kd.N_drew)); exact Kd.N_mono HO283.out (fun _ hk => ⟨hk.1.1, ⟨hk.2, ⟨hk.1.2.1, hk.1.2.2⟩⟩⟩)), (by (with_reducible repeat (first | apply Kd.N_alloc | apply Kd.N_drewN | apply Kd.N_drew)); exact Kd.N_mono HO286.out (fun _ hk => ⟨hk.1.1, ⟨hk.2, ⟨hk.1.2.1, hk.1.2.2⟩⟩⟩)), (by (with_reducible repeat (first | apply Kd.N_alloc | apply Kd.N_drewN | apply Kd.N_drew)); exact HO296.out), (by (with_reducible repeat (first | apply Kd.R_alloc | apply Kd.R_drewN | apply Kd.R_drew)); exact HO299.out), (by (with_reducible repeat (first | refine blk_drewN ?_ _ | refine blk_drew ?_ | refine blk_alloc ?_ _)); exact BK287.out), (by repeat (first | (with_reducible first | exact HB.out | apply below_alloc | apply pw_below_drewN | apply below_drew1 | refine below_set ?_ GE287.out) | exact HB.out))⟩)
            ·skip
             obtain ⟨Ao70, co70, eo70⟩ := Kd.R_slice HO299.out
             subst eo70
             refine Kd.N_lit_step (Kd.slice 3 (Kd.int .i64)) _ 36 ?hg (N' := 27) ?hd (xs := ([y297] : List (List Int))) (inner := [.slice Ao70 y297.length co70]) (ok := (fun k_ => some k_ ≠ (.slice Ao57 t281.length co57 : Value).ownBlock ∧ some k_ ≠ (.slice Ao59 t284.length co59 : Value).ownBlock ∧ some k_ ≠ (v292 : Value).ownBlock ∧ k_ ≠ gb287)) (okp := (fun k_ => some k_ ≠ (.slice Ao57 t281.length co57 : Value).ownBlock ∧ some k_ ≠ (.slice Ao59 t284.length co59 : Value).ownBlock ∧ some k_ ≠ (v292 : Value).ownBlock ∧ k_ ≠ gb287)) ?hr ?hp (fun _ hk => hk) ((show ∀ k_, w69.heap.size ≤ k_ → (fun k_ => some k_ ≠ (.slice Ao57 t281.length co57 : Value).ownBlock ∧ some k_ ≠ (.slice Ao59 t284.length co59 : Value).ownBlock ∧ some k_ ≠ (v292 : Value).ownBlock ∧ k_ ≠ gb287) k_ from fun k_ hk => ⟨Kd.fresh' (Kd.N_lt (by (with_reducible repeat (first | apply Kd.N_alloc | apply Kd.N_drewN | apply Kd.N_drew)); exact HO283.out)) k_ hk, Kd.fresh' (Kd.N_lt (by (with_reducible repeat (first | apply Kd.N_alloc | apply Kd.N_drewN | apply Kd.N_drew)); exact HO286.out)) k_ hk, Kd.fresh' (Kd.N_lt (by (with_reducible repeat (first | apply Kd.N_alloc | apply Kd.N_drewN | apply Kd.N_drew)); exact HO293.out)) k_ hk, Kd.freshB (g := gb287) (o := .cells #[.slice Ao57 t281.length co57, .slice Ao59 t284.length co59] 25 (0, 0)) (by (with_reducible repeat (first | refine blk_drewN ?_ _ | refine blk_drew ?_ | refine blk_alloc ?_ _)); exact BK287.out) k_ hk⟩) _ (Nat.le_refl _)) (Below.refl _ _) (Nat.le_refl _) (by simp) ?_; (case hd => rfl); (case hg => rfl); (case hr => first | (go_simp; done) | (go_simp; rfl) | (obtain ⟨A_, c_, e_⟩ := Kd.R_slice HO299.out; rw [e_]; go_simp; done) | (obtain ⟨A_, c_, e_⟩ := Kd.R_slice HO299.out; rw [e_]; go_simp; rfl)); (case hp => exact (Reps.one (show Kd.FK (Kd.slice 3 (Kd.int .i64)) _ _ y297 [.slice Ao70 y297.length co70] from (Kd.FK_slice_mk (Kd.R_reads' (Kd.R_mono (ok' := (fun k_ => some k_ ≠ (.slice Ao57 t281.length co57 : Value).ownBlock ∧ some k_ ≠ (.slice Ao59 t284.length co59 : Value).ownBlock ∧ some k_ ≠ (v292 : Value).ownBlock ∧ k_ ≠ gb287)) (Kd.R_types (Kd.R_apart' (Kd.R_apart' (Kd.R_apart' (HO299.out) (Kd.N_typed HO283.out) (by decide)) (Kd.N_typed HO286.out) (by decide)) (Kd.N_typed HO293.out) (by decide)) BK287.out (by decide)) (fun k_ hk => ⟨hk.1.1.1.2, ⟨hk.1.1.2, ⟨hk.1.2, hk.2⟩⟩⟩))).2.1 (Kd.R_F (Kd.R_mono (ok' := (fun k_ => some k_ ≠ (.slice Ao57 t281.length co57 : Value).ownBlock ∧ some k_ ≠ (.slice Ao59 t284.length co59 : Value).ownBlock ∧ some k_ ≠ (v292 : Value).ownBlock ∧ k_ ≠ gb287)) (Kd.R_types (Kd.R_apart' (Kd.R_apart' (Kd.R_apart' (HO299.out) (Kd.N_typed HO283.out) (by decide)) (Kd.N_typed HO286.out) (by decide)) (Kd.N_typed HO293.out) (by decide)) BK287.out (by decide)) (fun k_ hk => ⟨hk.1.1.1.2, ⟨hk.1.1.2, ⟨hk.1.2, hk.2⟩⟩⟩))))) (Reps.none _ _)))
             intro v301 w71 ho72 hb hg_ hnew_
             clear hg_ hnew_
             (first | rw [← Ny300.out] at ho72 | (simp only [Int.reduceToNat] at ho72; rw [← Ny300.out] at ho72))
             have n0_ := Aside0.mk (Kd.N_elder' (by (with_reducible repeat (first | apply Kd.N_alloc | apply Kd.N_drewN | apply Kd.N_drew)); exact HO283.out) (Kd.N_base ho72) hb)
             have n1_ := Aside0.mk (Kd.N_elder' (by (with_reducible repeat (first | apply Kd.N_alloc | apply Kd.N_drewN | apply Kd.N_drew)); exact HO286.out) (Kd.N_base ho72) hb)
             have n2_ := Aside0.mk (Kd.N_elder' (by (with_reducible repeat (first | apply Kd.N_alloc | apply Kd.N_drewN | apply Kd.N_drew)); exact HO293.out) (Kd.N_base ho72) hb)
             have n3_ := Aside0.mk (Kd.N_lower ho72 (below_size (by repeat (first | (with_reducible first | exact HB.out | apply below_alloc | apply pw_below_drewN | apply below_drew1 | refine below_set ?_ GE287.out) | exact HB.out))))
             have n4_ := Aside0.mk (blk_below (g := gb287) (o := .cells #[.slice Ao57 t281.length co57, .slice Ao59 t284.length co59] 25 (0, 0)) (by (with_reducible repeat (first | refine blk_drewN ?_ _ | refine blk_drew ?_ | refine blk_alloc ?_ _)); exact BK287.out) hb)
             have n5_ := Aside0.mk (below_step (by repeat (first | (with_reducible first | exact HB.out | apply below_alloc | apply pw_below_drewN | apply below_drew1 | refine below_set ?_ GE287.out) | exact HB.out)) hb)
             clear HO283
             clear HO286
             clear HO293
             clear BK287
             clear HB
             clear HO299
             have HO283 := n0_
             have HO286 := n1_
             have HO293 := n2_
             have HO302 := n3_
             have BK287 := n4_
             have HB := n5_
             clear n0_ n1_ n2_ n3_ n4_ n5_
             clear hb ho72
             refine hK.out _ _ ⟨(blk_cell BK287.out 0).trans rfl, (blk_cell BK287.out 1).trans rfl⟩ (fun hHeld => ?_)
             clear hK K
             refine norm_ (a' := ?_) ?_ ?_
             rotate_left
             ·show Act.put _ (some 27) _ = _
              simp only [Act.put, List.setIfInBounds_toArray, List.set_cons_zero, List.set_cons_succ, i64_w, i32_w]
              rfl
             exact norm_ (by first | (simp only [putAll, Act.put, List.setIfInBounds_toArray, List.set_cons_zero, List.set_cons_succ]; done) | (simp only [putAll, Act.put, List.setIfInBounds_toArray, List.set_cons_zero, List.set_cons_succ]; rfl)) (hJ6_10_11 (v292, .slice Ao70 y297.length co70, v301) _ ⟨hHeld, (by (with_reducible repeat (first | apply Kd.N_alloc | apply Kd.N_drewN | apply Kd.N_drew)); exact Kd.N_mono HO283.out (fun _ hk => ⟨hk.1.1, ⟨hk.1.2.1, ⟨hk.2, hk.1.2.2.2⟩⟩⟩)), (by (with_reducible repeat (first | apply Kd.N_alloc | apply Kd.N_drewN | apply Kd.N_drew)); exact Kd.N_mono HO286.out (fun _ hk => ⟨hk.1.1, ⟨hk.1.2.1, ⟨hk.2, hk.1.2.2.2⟩⟩⟩)), (by (with_reducible repeat (first | apply Kd.N_alloc | apply Kd.N_drewN | apply Kd.N_drew)); exact Kd.N_mono HO293.out (fun _ hk => ⟨hk.1.1, ⟨hk.1.2.1, ⟨hk.2, hk.1.2.2.2⟩⟩⟩)), (by (with_reducible repeat (first | apply Kd.N_alloc | apply Kd.N_drewN | apply Kd.N_drew)); exact HO302.out), (by (with_reducible repeat (first | refine blk_drewN ?_ _ | refine blk_drew ?_ | refine blk_alloc ?_ _)); exact BK287.out), (by repeat (first | (with_reducible first | exact HB.out | apply below_alloc | apply pw_below_drewN | apply below_drew1 | refine below_set ?_ GE287.out) | exact HB.out))⟩)
          ·skip
           rintro ⟨v292, v295⟩ w68 ⟨hS_, h0_, h1_, h2_, h3_, h4_⟩
           have n0_ : Aside0 (Kd.N (Kd.slice 3 (Kd.int .i64)) 36 w68 w.heap.size (fun k_ => some k_ ≠ (.slice Ao59 t284.length co59 : Value).ownBlock ∧ some k_ ≠ (v295 : Value).ownBlock ∧ k_ ≠ gb287) (.slice Ao57 t281.length co57) t281) := ⟨h0_⟩
           have n1_ : Aside0 (Kd.N (Kd.slice 3 (Kd.int .i64)) 36 w68 w.heap.size (fun k_ => some k_ ≠ (.slice Ao57 t281.length co57 : Value).ownBlock ∧ some k_ ≠ (v295 : Value).ownBlock ∧ k_ ≠ gb287) (.slice Ao59 t284.length co59) t284) := ⟨h1_⟩
           have n2_ : Aside0 (Kd.N (Kd.slice 3 (Kd.int .i64)) 36 w68 w.heap.size (fun k_ => some k_ ≠ (.slice Ao59 t284.length co59 : Value).ownBlock ∧ k_ ≠ gb287) v295 y294) := ⟨h2_⟩
           have n3_ : Aside0 (w68.heap[gb287]? = some (.cells #[.slice Ao57 t281.length co57, .slice Ao59 t284.length co59] 25 (0, 0))) := ⟨h3_⟩
           have n4_ : Aside0 (Below w.heap.size w w68) := ⟨h4_⟩
           clear HO283
           clear HO286
           clear BK287
           clear HB
           clear h0_ h1_ h2_ h3_ h4_
           have HO283 := n0_
           have HO286 := n1_
           have HO296 := n2_
           have BK287 := n3_
           have HB := n4_
           clear n0_ n1_ n2_ n3_ n4_
           have hHeld : w68.cell? ⟨gb287, 0, none⟩ = some (.slice Ao57 t281.length co57) ∧ w68.cell? ⟨gb287, 1, none⟩ = some (.slice Ao59 t284.length co59) := hS_
           refine norm_ (a' := ?_) ?_ ?_
           rotate_left
           ·simp only [putAll, Act.put, List.setIfInBounds_toArray, List.set_cons_zero, List.set_cons_succ]
            rfl
           refine one_ (i := 10) (N := some 26) #[true, true, true, true, true, true, true, true, true, true, true, false, false, true, true, false, false, false, false, false, false, false, false] rfl rfl (one_of HT_.out (by kernel_rfl)) (by decide) (fun K hK => ?_)
           refine Kd.R_lit_step (Kd.int .i64) _ 3 ?hg (N := 26) ?hd (xs := ([6] : List Int)) (inner := [.int .i64 6]) (ok := fun _ => True) (okp := fun _ => True) ?hr ?hp (fun _ hk => hk) trivial (Below.refl _ _) (Nat.le_refl _) (by simp) ?_; (case hd => rfl); (case hg => rfl); (case hr => first | (go_simp; done) | (go_simp; rfl)); (case hp => exact (Reps.one (show Kd.M (Kd.int .i64) _ _ _ 6 [.int .i64 6] from rfl) (Reps.none _ _)))
           intro v298 w69 ho70 hb hg_ hnew_
           clear hg_ hnew_
           (first | rw [← Ny297.out] at ho70 | (simp only [Int.reduceToNat] at ho70; rw [← Ny297.out] at ho70))
           have n0_ := Aside0.mk (Kd.N_elder' (by (with_reducible repeat (first | apply Kd.N_alloc | apply Kd.N_drewN | apply Kd.N_drew)); exact HO283.out) (Kd.R_base ho70) hb)
           have n1_ := Aside0.mk (Kd.N_elder' (by (with_reducible repeat (first | apply Kd.N_alloc | apply Kd.N_drewN | apply Kd.N_drew)); exact HO286.out) (Kd.R_base ho70) hb)
           have n2_ := Aside0.mk (Kd.N_elder' (by (with_reducible repeat (first | apply Kd.N_alloc | apply Kd.N_drewN | apply Kd.N_drew)); exact HO296.out) (Kd.R_base ho70) hb)
           have n3_ := Aside0.mk (Kd.R_lower ho70 (below_size (by repeat (first | (with_reducible first | exact HB.out | apply below_alloc | apply pw_below_drewN | apply below_drew1 | refine below_set ?_ GE287.out) | exact HB.out))))
           have n4_ := Aside0.mk (blk_below (g := gb287) (o := .cells #[.slice Ao57 t281.length co57, .slice Ao59 t284.length co59] 25 (0, 0)) (by (with_reducible repeat (first | refine blk_drewN ?_ _ | refine blk_drew ?_ | refine blk_alloc ?_ _)); exact BK287.out) hb)
           have n5_ := Aside0.mk (below_step (by repeat (first | (with_reducible first | exact HB.out | apply below_alloc | apply pw_below_drewN | apply below_drew1 | refine below_set ?_ GE287.out) | exact HB.out)) hb)
           clear HO283
           clear HO286
           clear HO296
           clear BK287
           clear HB
           have HO283 := n0_
           have HO286 := n1_
           have HO296 := n2_
           have HO299 := n3_
           have BK287 := n4_
           have HB := n5_
           clear n0_ n1_ n2_ n3_ n4_ n5_
           clear hb ho70
           refine hK.out _ _ ⟨(blk_cell BK287.out 0).trans rfl, (blk_cell BK287.out 1).trans rfl⟩ (fun hHeld => ?_)
           clear hK K
           refine norm_ (a' := ?_) ?_ ?_
           rotate_left
           ·show Act.put _ (some 26) _ = _
            simp only [Act.put, List.setIfInBounds_toArray, List.set_cons_zero, List.set_cons_succ, i64_w, i32_w]
            rfl
           exact norm_ (by first | (simp only [putAll, Act.put, List.setIfInBounds_toArray, List.set_cons_zero, List.set_cons_succ]; done) | (simp only [putAll, Act.put, List.setIfInBounds_toArray, List.set_cons_zero, List.set_cons_succ]; rfl)) (hJ6_9_10 (v292, v295, v298) _ ⟨hHeld, (by (with_reducible repeat (first | apply Kd.N_alloc | apply Kd.N_drewN | apply Kd.N_drew)); exact Kd.N_mono HO283.out (fun _ hk => ⟨hk.1.1, ⟨hk.1.2.1, ⟨hk.2, hk.1.2.2⟩⟩⟩)), (by (with_reducible repeat (first | apply Kd.N_alloc | apply Kd.N_drewN | apply Kd.N_drew)); exact Kd.N_mono HO286.out (fun _ hk => ⟨hk.1.1, ⟨hk.1.2.1, ⟨hk.2, hk.1.2.2⟩⟩⟩)), (by (with_reducible repeat (first | apply Kd.N_alloc | apply Kd.N_drewN | apply Kd.N_drew)); exact Kd.N_mono HO296.out (fun _ hk => ⟨hk.1.1, ⟨hk.2, hk.1.2⟩⟩)), (by (with_reducible repeat (first | apply Kd.R_alloc | apply Kd.R_drewN | apply Kd.R_drew)); exact HO299.out), (by (with_reducible repeat (first | refine blk_drewN ?_ _ | refine blk_drew ?_ | refine blk_alloc ?_ _)); exact BK287.out), (by repeat (first | (with_reducible first | exact HB.out | apply below_alloc | apply pw_below_drewN | apply below_drew1 | refine below_set ?_ GE287.out) | exact HB.out))⟩)
         ·skip
          rintro ⟨v292, v298, v301⟩ w72 ⟨hS_, h0_, h1_, h2_, h3_, h4_, h5_⟩
          have n0_ : Aside0 (Kd.N (Kd.slice 3 (Kd.int .i64)) 36 w72 w.heap.size (fun k_ => some k_ ≠ (.slice Ao59 t284.length co59 : Value).ownBlock ∧ some k_ ≠ (v292 : Value).ownBlock ∧ some k_ ≠ (v301 : Value).ownBlock ∧ k_ ≠ gb287) (.slice Ao57 t281.length co57) t281) := ⟨h0_⟩
          have n1_ : Aside0 (Kd.N (Kd.slice 3 (Kd.int .i64)) 36 w72 w.heap.size (fun k_ => some k_ ≠ (.slice Ao57 t281.length co57 : Value).ownBlock ∧ some k_ ≠ (v292 : Value).ownBlock ∧ some k_ ≠ (v301 : Value).ownBlock ∧ k_ ≠ gb287) (.slice Ao59 t284.length co59) t284) := ⟨h1_⟩
          have n2_ : Aside0 (Kd.N (Kd.slice 3 (Kd.int .i64)) 36 w72 w.heap.size (fun k_ => some k_ ≠ (.slice Ao57 t281.length co57 : Value).ownBlock ∧ some k_ ≠ (.slice Ao59 t284.length co59 : Value).ownBlock ∧ some k_ ≠ (v301 : Value).ownBlock ∧ k_ ≠ gb287) v292 y291) := ⟨h2_⟩
          have n3_ : Aside0 (Kd.N (Kd.slice 3 (Kd.int .i64)) 36 w72 w.heap.size (fun k_ => some k_ ≠ (.slice Ao57 t281.length co57 : Value).ownBlock ∧ some k_ ≠ (.slice Ao59 t284.length co59 : Value).ownBlock ∧ some k_ ≠ (v292 : Value).ownBlock ∧ k_ ≠ gb287) v301 y300) := ⟨h3_⟩
          have n4_ : Aside0 (w72.heap[gb287]? = some (.cells #[.slice Ao57 t281.length co57, .slice Ao59 t284.length co59] 25 (0, 0))) := ⟨h4_⟩
          have n5_ : Aside0 (Below w.heap.size w w72) := ⟨h5_⟩
          clear HO283
          clear HO286
          clear BK287
          clear HB
          clear h0_ h1_ h2_ h3_ h4_ h5_
          have HO283 := n0_
          have HO286 := n1_
          have HO293 := n2_
          have HO302 := n3_
          have BK287 := n4_
          have HB := n5_
          clear n0_ n1_ n2_ n3_ n4_ n5_
          have hHeld : w72.cell? ⟨gb287, 0, none⟩ = some (.slice Ao57 t281.length co57) ∧ w72.cell? ⟨gb287, 1, none⟩ = some (.slice Ao59 t284.length co59) := hS_
          refine norm_ (a' := ?_) ?_ ?_
          rotate_left
          ·simp only [putAll, Act.put, List.setIfInBounds_toArray, List.set_cons_zero, List.set_cons_succ]
           rfl
          refine one_ (i := 9) (N := some 25) #[true, true, true, true, true, true, true, true, true, true, true, true, false, true, true, false, false, false, false, false, false, false, false] rfl rfl (one_of HT_.out (by kernel_rfl)) (by decide) (fun K hK => ?_)
          refine Kd.N_append_rows_step (Kd.slice 3 (Kd.int .i64)) (w0 := w) w.heap.size (by rfl) (.tmp 22) (.tmp 24) 23 36 (.slice none 0 0) 24 rfl Try.underlying23 info36 rfl (by decide) (by omega) v292 y291 t281 _ _ _ (fun k_ => some k_ ≠ (.slice Ao59 t284.length co59 : Value).ownBlock ∧ some k_ ≠ (v301 : Value).ownBlock ∧ k_ ≠ gb287) (fun k_ => ((fun k_ => some k_ ≠ (.slice Ao59 t284.length co59 : Value).ownBlock ∧ some k_ ≠ (v301 : Value).ownBlock ∧ k_ ≠ gb287)) k_ ∧ some k_ ≠ (v292 : Value).ownBlock) rfl rfl ?aO ?aR (fun _ hk => hk) ?aF ?aB ?aS ?aL ?_
          (case aR => exact (by skip; exact Kd.N_F (Kd.N_mono (ok' := (fun k_ => ((fun k_ => some k_ ≠ (.slice Ao59 t284.length co59 : Value).ownBlock ∧ some k_ ≠ (v301 : Value).ownBlock ∧ k_ ≠ gb287)) k_ ∧ some k_ ≠ (v292 : Value).ownBlock)) (HO283.out) (fun k_ hk => ⟨⟨hk.1, ⟨hk.2.2.1, hk.2.2.2⟩⟩, hk.2.1⟩))))
          (case aB => exact (by repeat (first | (with_reducible first | exact HB.out | apply below_alloc | apply pw_below_drewN | apply below_drew1 | refine below_set ?_ GE287.out) | exact HB.out)))
          (case aF => exact (fun k_ hk => ⟨Kd.fresh' (Kd.N_lt (by (with_reducible repeat (first | apply Kd.N_alloc | apply Kd.N_drewN | apply Kd.N_drew)); exact HO286.out)) k_ hk, Kd.fresh' (Kd.N_lt (by (with_reducible repeat (first | apply Kd.N_alloc | apply Kd.N_drewN | apply Kd.N_drew)); exact HO302.out)) k_ hk, Kd.freshB (g := gb287) (o := .cells #[.slice Ao57 t281.length co57, .slice Ao59 t284.length co59] 25 (0, 0)) (by (with_reducible repeat (first | refine blk_drewN ?_ _ | refine blk_drew ?_ | refine blk_alloc ?_ _)); exact BK287.out) k_ hk⟩))
          (case aO => exact (by (with_reducible repeat (first | apply Kd.N_alloc | apply Kd.N_drewN | apply Kd.N_drew)); exact Kd.N_mono HO293.out (fun _ hk => ⟨hk.2.1, ⟨hk.2.2.1, hk.2.2.2⟩⟩)))
          (case aS => exact (below_size (by repeat (first | (with_reducible first | exact HB.out | apply below_alloc | apply pw_below_drewN | apply below_drew1 | refine below_set ?_ GE287.out) | exact HB.out))))
          (case aL => have := LMc27.out; omega)
          intro v295 w73 ho hb hg hat
          rw [← Ny294.out] at ho
          have n0_ := Aside0.mk (Kd.N_afterv (ok := (fun k_ => some k_ ≠ (.slice Ao59 t284.length co59 : Value).ownBlock ∧ some k_ ≠ (v301 : Value).ownBlock ∧ k_ ≠ gb287)) (by (with_reducible repeat (first | apply Kd.N_alloc | apply Kd.N_drewN | apply Kd.N_drew)); exact Kd.N_mono HO283.out (fun _ hk => ⟨⟨hk.1, ⟨hk.2.2.1, hk.2.2.2⟩⟩, hk.2.1⟩)) hg hat)
          have n1_ := Aside0.mk (Kd.N_afterv (ok := (fun k_ => some k_ ≠ (.slice Ao57 t281.length co57 : Value).ownBlock ∧ some k_ ≠ (v301 : Value).ownBlock ∧ k_ ≠ gb287)) (by (with_reducible repeat (first | apply Kd.N_alloc | apply Kd.N_drewN | apply Kd.N_drew)); exact Kd.N_mono HO286.out (fun _ hk => ⟨⟨hk.1, ⟨hk.2.2.1, hk.2.2.2⟩⟩, hk.2.1⟩)) hg hat)
          have n2_ := Aside0.mk (blk_grown (g := gb287) (o := .cells #[.slice Ao57 t281.length co57, .slice Ao59 t284.length co59] 25 (0, 0)) (by (with_reducible repeat (first | refine blk_drewN ?_ _ | refine blk_drew ?_ | refine blk_alloc ?_ _)); exact BK287.out) hg (Kd.N_ne HO293.out BK287.out (by decide)))
          have n3_ := Aside0.mk (Kd.N_afterv (ok := (fun k_ => some k_ ≠ (.slice Ao57 t281.length co57 : Value).ownBlock ∧ some k_ ≠ (.slice Ao59 t284.length co59 : Value).ownBlock ∧ k_ ≠ gb287)) (by (with_reducible repeat (first | apply Kd.N_alloc | apply Kd.N_drewN | apply Kd.N_drew)); exact Kd.N_mono HO302.out (fun _ hk => ⟨⟨hk.1, ⟨hk.2.1, hk.2.2.2⟩⟩, hk.2.2.1⟩)) hg hat)
          have n4_ := Aside0.mk (hb)
          have n5_ := Aside0.mk (ho)
          clear HO283
          clear HO286
          clear BK287
          clear HO302
          clear HB
          clear HO293
          have HO283 := n0_
          have HO286 := n1_
          have BK287 := n2_
          have HO302 := n3_
          have HB := n4_
          have HO296 := n5_
          clear n0_ n1_ n2_ n3_ n4_ n5_
          clear ho hb hg hat
          refine hK.out _ _ ⟨(blk_cell BK287.out 0).trans rfl, (blk_cell BK287.out 1).trans rfl⟩ (fun hHeld => ?_)
          clear hK K
          refine norm_ (a' := ?_) ?_ ?_
          rotate_left
          ·show Act.put _ (some 25) _ = _
           simp only [Act.put, List.setIfInBounds_toArray, List.set_cons_zero, List.set_cons_succ, i64_w, i32_w]
           rfl
          exact norm_ (by first | (simp only [putAll, Act.put, List.setIfInBounds_toArray, List.set_cons_zero, List.set_cons_succ]; done) | (simp only [putAll, Act.put, List.setIfInBounds_toArray, List.set_cons_zero, List.set_cons_succ]; rfl)) (hJ6_9_10_11 (v292, v295, v298, v301) _ ⟨hHeld, (by (with_reducible repeat (first | apply Kd.N_alloc | apply Kd.N_drewN | apply Kd.N_drew)); exact Kd.N_mono HO283.out (fun _ hk => ⟨hk.1.1, ⟨hk.2, ⟨hk.1.2.1, hk.1.2.2⟩⟩⟩)), (by (with_reducible repeat (first | apply Kd.N_alloc | apply Kd.N_drewN | apply Kd.N_drew)); exact Kd.N_mono HO286.out (fun _ hk => ⟨hk.1.1, ⟨hk.2, ⟨hk.1.2.1, hk.1.2.2⟩⟩⟩)), (by (with_reducible repeat (first | apply Kd.N_alloc | apply Kd.N_drewN | apply Kd.N_drew)); exact HO296.out), (by (with_reducible repeat (first | apply Kd.N_alloc | apply Kd.N_drewN | apply Kd.N_drew)); exact Kd.N_mono HO302.out (fun _ hk => ⟨hk.1.1, ⟨hk.1.2.1, ⟨hk.2, hk.1.2.2⟩⟩⟩)), (by (with_reducible repeat (first | refine blk_drewN ?_ _ | refine blk_drew ?_ | refine blk_alloc ?_ _)); exact BK287.out), (by repeat (first | (with_reducible first | exact HB.out | apply below_alloc | apply pw_below_drewN | apply below_drew1 | refine below_set ?_ GE287.out) | exact HB.out))⟩)
        ·skip
         rintro ⟨v292, v295, v298⟩ w70 ⟨hS_, h0_, h1_, h2_, h3_, h4_, h5_⟩
         have n0_ : Aside0 (Kd.N (Kd.slice 3 (Kd.int .i64)) 36 w70 w.heap.size (fun k_ => some k_ ≠ (.slice Ao59 t284.length co59 : Value).ownBlock ∧ some k_ ≠ (v295 : Value).ownBlock ∧ some k_ ≠ (v298 : Value).ownBlock ∧ k_ ≠ gb287) (.slice Ao57 t281.length co57) t281) := ⟨h0_⟩
         have n1_ : Aside0 (Kd.N (Kd.slice 3 (Kd.int .i64)) 36 w70 w.heap.size (fun k_ => some k_ ≠ (.slice Ao57 t281.length co57 : Value).ownBlock ∧ some k_ ≠ (v295 : Value).ownBlock ∧ some k_ ≠ (v298 : Value).ownBlock ∧ k_ ≠ gb287) (.slice Ao59 t284.length co59) t284) := ⟨h1_⟩
         have n2_ : Aside0 (Kd.N (Kd.slice 3 (Kd.int .i64)) 36 w70 w.heap.size (fun k_ => some k_ ≠ (.slice Ao59 t284.length co59 : Value).ownBlock ∧ some k_ ≠ (v298 : Value).ownBlock ∧ k_ ≠ gb287) v295 y294) := ⟨h2_⟩
         have n3_ : Aside0 (Kd.R (Kd.int .i64) 3 w70 w.heap.size (fun _ => True) v298 y297) := ⟨h3_⟩
         have n4_ : Aside0 (w70.heap[gb287]? = some (.cells #[.slice Ao57 t281.length co57, .slice Ao59 t284.length co59] 25 (0, 0))) := ⟨h4_⟩
         have n5_ : Aside0 (Below w.heap.size w w70) := ⟨h5_⟩
         clear HO283
         clear HO286
         clear BK287
         clear HB
         clear h0_ h1_ h2_ h3_ h4_ h5_
         have HO283 := n0_
         have HO286 := n1_
         have HO296 := n2_
         have HO299 := n3_
         have BK287 := n4_
         have HB := n5_
         clear n0_ n1_ n2_ n3_ n4_ n5_
         have hHeld : w70.cell? ⟨gb287, 0, none⟩ = some (.slice Ao57 t281.length co57) ∧ w70.cell? ⟨gb287, 1, none⟩ = some (.slice Ao59 t284.length co59) := hS_
         obtain ⟨Ao71, co71, eo71⟩ := Kd.R_slice HO299.out
         (first | subst eo71 | (injection eo71 with f1_ f2_ f3_; have f4_ := f1_.symm; have f5_ := f3_.symm; clear f1_ f2_ f3_; subst f4_; subst f5_))
         refine norm_ (a' := ?_) ?_ ?_
         rotate_left
         ·simp only [putAll, Act.put, List.setIfInBounds_toArray, List.set_cons_zero, List.set_cons_succ]
          rfl
         refine one_ (i := 11) (N := some 27) #[true, true, true, true, true, true, true, true, true, true, true, true, false, true, true, false, false, false, false, false, false, false, false] rfl rfl (one_of HT_.out (by kernel_rfl)) (by decide) (fun K hK => ?_)
         refine Kd.N_lit_step (Kd.slice 3 (Kd.int .i64)) _ 36 ?hg (N' := 27) ?hd (xs := ([y297] : List (List Int))) (inner := [.slice Ao71 y297.length co71]) (ok := (fun k_ => some k_ ≠ (.slice Ao57 t281.length co57 : Value).ownBlock ∧ some k_ ≠ (.slice Ao59 t284.length co59 : Value).ownBlock ∧ some k_ ≠ (v295 : Value).ownBlock ∧ k_ ≠ gb287)) (okp := (fun k_ => some k_ ≠ (.slice Ao57 t281.length co57 : Value).ownBlock ∧ some k_ ≠ (.slice Ao59 t284.length co59 : Value).ownBlock ∧ some k_ ≠ (v295 : Value).ownBlock ∧ k_ ≠ gb287)) ?hr ?hp (fun _ hk => hk) ((show ∀ k_, w70.heap.size ≤ k_ → (fun k_ => some k_ ≠ (.slice Ao57 t281.length co57 : Value).ownBlock ∧ some k_ ≠ (.slice Ao59 t284.length co59 : Value).ownBlock ∧ some k_ ≠ (v295 : Value).ownBlock ∧ k_ ≠ gb287) k_ from fun k_ hk => ⟨Kd.fresh' (Kd.N_lt (by (with_reducible repeat (first | apply Kd.N_alloc | apply Kd.N_drewN | apply Kd.N_drew)); exact HO283.out)) k_ hk, Kd.fresh' (Kd.N_lt (by (with_reducible repeat (first | apply Kd.N_alloc | apply Kd.N_drewN | apply Kd.N_drew)); exact HO286.out)) k_ hk, Kd.fresh' (Kd.N_lt (by (with_reducible repeat (first | apply Kd.N_alloc | apply Kd.N_drewN | apply Kd.N_drew)); exact HO296.out)) k_ hk, Kd.freshB (g := gb287) (o := .cells #[.slice Ao57 t281.length co57, .slice Ao59 t284.length co59] 25 (0, 0)) (by (with_reducible repeat (first | refine blk_drewN ?_ _ | refine blk_drew ?_ | refine blk_alloc ?_ _)); exact BK287.out) k_ hk⟩) _ (Nat.le_refl _)) (Below.refl _ _) (Nat.le_refl _) (by simp) ?_; (case hd => rfl); (case hg => rfl); (case hr => first | (go_simp; done) | (go_simp; rfl) | (obtain ⟨A_, c_, e_⟩ := Kd.R_slice HO299.out; rw [e_]; go_simp; done) | (obtain ⟨A_, c_, e_⟩ := Kd.R_slice HO299.out; rw [e_]; go_simp; rfl)); (case hp => exact (Reps.one (show Kd.FK (Kd.slice 3 (Kd.int .i64)) _ _ y297 [.slice Ao71 y297.length co71] from (Kd.FK_slice_mk (Kd.R_reads' (Kd.R_mono (ok' := (fun k_ => some k_ ≠ (.slice Ao57 t281.length co57 : Value).ownBlock ∧ some k_ ≠ (.slice Ao59 t284.length co59 : Value).ownBlock ∧ some k_ ≠ (v295 : Value).ownBlock ∧ k_ ≠ gb287)) (Kd.R_types (Kd.R_apart' (Kd.R_apart' (Kd.R_apart' (HO299.out) (Kd.N_typed HO283.out) (by decide)) (Kd.N_typed HO286.out) (by decide)) (Kd.N_typed HO296.out) (by decide)) BK287.out (by decide)) (fun k_ hk => ⟨hk.1.1.1.2, ⟨hk.1.1.2, ⟨hk.1.2, hk.2⟩⟩⟩))).2.1 (Kd.R_F (Kd.R_mono (ok' := (fun k_ => some k_ ≠ (.slice Ao57 t281.length co57 : Value).ownBlock ∧ some k_ ≠ (.slice Ao59 t284.length co59 : Value).ownBlock ∧ some k_ ≠ (v295 : Value).ownBlock ∧ k_ ≠ gb287)) (Kd.R_types (Kd.R_apart' (Kd.R_apart' (Kd.R_apart' (HO299.out) (Kd.N_typed HO283.out) (by decide)) (Kd.N_typed HO286.out) (by decide)) (Kd.N_typed HO296.out) (by decide)) BK287.out (by decide)) (fun k_ hk => ⟨hk.1.1.1.2, ⟨hk.1.1.2, ⟨hk.1.2, hk.2⟩⟩⟩))))) (Reps.none _ _)))
         intro v301 w72 ho73 hb hg_ hnew_
         clear hg_ hnew_
         (first | rw [← Ny300.out] at ho73 | (simp only [Int.reduceToNat] at ho73; rw [← Ny300.out] at ho73))
         have n0_ := Aside0.mk (Kd.N_elder' (by (with_reducible repeat (first | apply Kd.N_alloc | apply Kd.N_drewN | apply Kd.N_drew)); exact HO283.out) (Kd.N_base ho73) hb)
         have n1_ := Aside0.mk (Kd.N_elder' (by (with_reducible repeat (first | apply Kd.N_alloc | apply Kd.N_drewN | apply Kd.N_drew)); exact HO286.out) (Kd.N_base ho73) hb)
         have n2_ := Aside0.mk (Kd.N_elder' (by (with_reducible repeat (first | apply Kd.N_alloc | apply Kd.N_drewN | apply Kd.N_drew)); exact HO296.out) (Kd.N_base ho73) hb)
         have n3_ := Aside0.mk (Kd.N_lower ho73 (below_size (by repeat (first | (with_reducible first | exact HB.out | apply below_alloc | apply pw_below_drewN | apply below_drew1 | refine below_set ?_ GE287.out) | exact HB.out))))
         have n4_ := Aside0.mk (blk_below (g := gb287) (o := .cells #[.slice Ao57 t281.length co57, .slice Ao59 t284.length co59] 25 (0, 0)) (by (with_reducible repeat (first | refine blk_drewN ?_ _ | refine blk_drew ?_ | refine blk_alloc ?_ _)); exact BK287.out) hb)
         have n5_ := Aside0.mk (below_step (by repeat (first | (with_reducible first | exact HB.out | apply below_alloc | apply pw_below_drewN | apply below_drew1 | refine below_set ?_ GE287.out) | exact HB.out)) hb)
         clear HO283
         clear HO286
         clear HO296
         clear BK287
         clear HB
         clear HO299
         have HO283 := n0_
         have HO286 := n1_
         have HO296 := n2_
         have HO302 := n3_
         have BK287 := n4_
         have HB := n5_
         clear n0_ n1_ n2_ n3_ n4_ n5_
         clear hb ho73
         refine hK.out _ _ ⟨(blk_cell BK287.out 0).trans rfl, (blk_cell BK287.out 1).trans rfl⟩ (fun hHeld => ?_)
         clear hK K
         refine norm_ (a' := ?_) ?_ ?_
         rotate_left
         ·show Act.put _ (some 27) _ = _
          simp only [Act.put, List.setIfInBounds_toArray, List.set_cons_zero, List.set_cons_succ, i64_w, i32_w]
          rfl
         exact norm_ (by first | (simp only [putAll, Act.put, List.setIfInBounds_toArray, List.set_cons_zero, List.set_cons_succ]; done) | (simp only [putAll, Act.put, List.setIfInBounds_toArray, List.set_cons_zero, List.set_cons_succ]; rfl)) (hJ6_9_10_11 (v292, v295, .slice Ao71 y297.length co71, v301) _ ⟨hHeld, (by (with_reducible repeat (first | apply Kd.N_alloc | apply Kd.N_drewN | apply Kd.N_drew)); exact Kd.N_mono HO283.out (fun _ hk => ⟨hk.1.1, ⟨hk.1.2.1, ⟨hk.2, hk.1.2.2.2⟩⟩⟩)), (by (with_reducible repeat (first | apply Kd.N_alloc | apply Kd.N_drewN | apply Kd.N_drew)); exact Kd.N_mono HO286.out (fun _ hk => ⟨hk.1.1, ⟨hk.1.2.1, ⟨hk.2, hk.1.2.2.2⟩⟩⟩)), (by (with_reducible repeat (first | apply Kd.N_alloc | apply Kd.N_drewN | apply Kd.N_drew)); exact Kd.N_mono HO296.out (fun _ hk => ⟨hk.1.1, ⟨hk.2, hk.1.2.2⟩⟩)), (by (with_reducible repeat (first | apply Kd.N_alloc | apply Kd.N_drewN | apply Kd.N_drew)); exact HO302.out), (by (with_reducible repeat (first | refine blk_drewN ?_ _ | refine blk_drew ?_ | refine blk_alloc ?_ _)); exact BK287.out), (by repeat (first | (with_reducible first | exact HB.out | apply below_alloc | apply pw_below_drewN | apply below_drew1 | refine below_set ?_ GE287.out) | exact HB.out))⟩)
       rintro ⟨v292, v295, v298, v301⟩ w73 ⟨hS_, h0_, h1_, h2_, h3_, h4_, h5_⟩
       have n0_ : Aside0 (Kd.N (Kd.slice 3 (Kd.int .i64)) 36 w73 w.heap.size (fun k_ => some k_ ≠ (.slice Ao59 t284.length co59 : Value).ownBlock ∧ some k_ ≠ (v295 : Value).ownBlock ∧ some k_ ≠ (v301 : Value).ownBlock ∧ k_ ≠ gb287) (.slice Ao57 t281.length co57) t281) := ⟨h0_⟩
       have n1_ : Aside0 (Kd.N (Kd.slice 3 (Kd.int .i64)) 36 w73 w.heap.size (fun k_ => some k_ ≠ (.slice Ao57 t281.length co57 : Value).ownBlock ∧ some k_ ≠ (v295 : Value).ownBlock ∧ some k_ ≠ (v301 : Value).ownBlock ∧ k_ ≠ gb287) (.slice Ao59 t284.length co59) t284) := ⟨h1_⟩
       have n2_ : Aside0 (Kd.N (Kd.slice 3 (Kd.int .i64)) 36 w73 w.heap.size (fun k_ => some k_ ≠ (.slice Ao59 t284.length co59 : Value).ownBlock ∧ some k_ ≠ (v301 : Value).ownBlock ∧ k_ ≠ gb287) v295 y294) := ⟨h2_⟩
       have n3_ : Aside0 (Kd.N (Kd.slice 3 (Kd.int .i64)) 36 w73 w.heap.size (fun k_ => some k_ ≠ (.slice Ao57 t281.length co57 : Value).ownBlock ∧ some k_ ≠ (.slice Ao59 t284.length co59 : Value).ownBlock ∧ some k_ ≠ (v295 : Value).ownBlock ∧ k_ ≠ gb287) v301 y300) := ⟨h3_⟩
       have n4_ : Aside0 (w73.heap[gb287]? = some (.cells #[.slice Ao57 t281.length co57, .slice Ao59 t284.length co59] 25 (0, 0))) := ⟨h4_⟩
       have n5_ : Aside0 (Below w.heap.size w w73) := ⟨h5_⟩
       clear HO283
       clear HO286
       clear BK287
       clear HB
       clear h0_ h1_ h2_ h3_ h4_ h5_
       have HO283 := n0_
       have HO286 := n1_
       have HO296 := n2_
       have HO302 := n3_
       have BK287 := n4_
       have HB := n5_
       clear n0_ n1_ n2_ n3_ n4_ n5_
       have hHeld : w73.cell? ⟨gb287, 0, none⟩ = some (.slice Ao57 t281.length co57) ∧ w73.cell? ⟨gb287, 1, none⟩ = some (.slice Ao59 t284.length co59) := hS_
       obtain ⟨Ao75, co75, eo75⟩ := Kd.N_slice HO302.out
       (first | subst eo75 | (injection eo75 with f1_ f2_ f3_; have f4_ := f1_.symm; have f5_ := f3_.symm; clear f1_ f2_ f3_; subst f4_; subst f5_))
       refine norm_ (a' := ?_) ?_ ?_
       rotate_left
       ·simp only [putAll, Act.put, List.setIfInBounds_toArray, List.set_cons_zero, List.set_cons_succ]
        rfl
       refine one_ (i := 12) (N := some 28) #[true, true, true, true, true, true, true, true, true, true, true, true, true, true, true, false, false, false, false, false, false, false, false] rfl rfl (one_of HT_.out (by kernel_rfl)) (by decide) (fun K hK => ?_)
       refine Kd.N_append_rows_step (Kd.slice 3 (Kd.int .i64)) (w0 := w) w.heap.size (by rfl) (.tmp 25) (.tmp 27) 23 36 (.slice none 0 0) 24 rfl Try.underlying23 info36 rfl (by decide) (by omega) v295 y294 y300 _ _ _ (fun k_ => some k_ ≠ (.slice Ao59 t284.length co59 : Value).ownBlock ∧ k_ ≠ gb287) (fun k_ => ((fun k_ => some k_ ≠ (.slice Ao59 t284.length co59 : Value).ownBlock ∧ k_ ≠ gb287)) k_ ∧ some k_ ≠ (v295 : Value).ownBlock) rfl rfl ?aO ?aR (fun _ hk => hk) ?aF ?aB ?aS ?aL ?_
       (case aR => exact (by skip; exact Kd.N_F (Kd.N_mono (ok' := (fun k_ => ((fun k_ => some k_ ≠ (.slice Ao59 t284.length co59 : Value).ownBlock ∧ k_ ≠ gb287)) k_ ∧ some k_ ≠ (v295 : Value).ownBlock)) (HO302.out) (fun k_ hk => ⟨⟨hk.2.1, hk.2.2.2⟩, hk.2.2.1⟩))))
       (case aB => exact (by repeat (first | (with_reducible first | exact HB.out | apply below_alloc | apply pw_below_drewN | apply below_drew1 | refine below_set ?_ GE287.out) | exact HB.out)))
       (case aF => exact (fun k_ hk => ⟨Kd.fresh' (Kd.N_lt (by (with_reducible repeat (first | apply Kd.N_alloc | apply Kd.N_drewN | apply Kd.N_drew)); exact HO286.out)) k_ hk, Kd.freshB (g := gb287) (o := .cells #[.slice Ao57 t281.length co57, .slice Ao59 t284.length co59] 25 (0, 0)) (by (with_reducible repeat (first | refine blk_drewN ?_ _ | refine blk_drew ?_ | refine blk_alloc ?_ _)); exact BK287.out) k_ hk⟩))
       (case aO => exact (by (with_reducible repeat (first | apply Kd.N_alloc | apply Kd.N_drewN | apply Kd.N_drew)); exact Kd.N_mono HO296.out (fun _ hk => ⟨hk.1, hk.2.2⟩)))
       (case aS => exact (below_size (by repeat (first | (with_reducible first | exact HB.out | apply below_alloc | apply pw_below_drewN | apply below_drew1 | refine below_set ?_ GE287.out) | exact HB.out))))
       (case aL => have := LMc28.out; omega)
       intro v304 w74 ho hb hg hat
       rw [← Ny303.out] at ho
       have n0_ := Aside0.mk (Kd.N_afterv (ok := (fun k_ => some k_ ≠ (.slice Ao59 t284.length co59 : Value).ownBlock ∧ some k_ ≠ (.slice Ao75 y300.length co75 : Value).ownBlock ∧ k_ ≠ gb287)) (by (with_reducible repeat (first | apply Kd.N_alloc | apply Kd.N_drewN | apply Kd.N_drew)); exact Kd.N_mono HO283.out (fun _ hk => ⟨⟨hk.1, ⟨hk.2.2.1, hk.2.2.2⟩⟩, hk.2.1⟩)) hg hat)
       have n1_ := Aside0.mk (Kd.N_afterv (ok := (fun k_ => some k_ ≠ (.slice Ao57 t281.length co57 : Value).ownBlock ∧ some k_ ≠ (.slice Ao75 y300.length co75 : Value).ownBlock ∧ k_ ≠ gb287)) (by (with_reducible repeat (first | apply Kd.N_alloc | apply Kd.N_drewN | apply Kd.N_drew)); exact Kd.N_mono HO286.out (fun _ hk => ⟨⟨hk.1, ⟨hk.2.2.1, hk.2.2.2⟩⟩, hk.2.1⟩)) hg hat)
       have n2_ := Aside0.mk (blk_grown (g := gb287) (o := .cells #[.slice Ao57 t281.length co57, .slice Ao59 t284.length co59] 25 (0, 0)) (by (with_reducible repeat (first | refine blk_drewN ?_ _ | refine blk_drew ?_ | refine blk_alloc ?_ _)); exact BK287.out) hg (Kd.N_ne HO296.out BK287.out (by decide)))
       have n3_ := Aside0.mk (Kd.N_afterv (ok := (fun k_ => some k_ ≠ (.slice Ao57 t281.length co57 : Value).ownBlock ∧ some k_ ≠ (.slice Ao59 t284.length co59 : Value).ownBlock ∧ k_ ≠ gb287)) (by (with_reducible repeat (first | apply Kd.N_alloc | apply Kd.N_drewN | apply Kd.N_drew)); exact Kd.N_mono HO302.out (fun _ hk => ⟨⟨hk.1, ⟨hk.2.1, hk.2.2.2⟩⟩, hk.2.2.1⟩)) hg hat)
       have n4_ := Aside0.mk (hb)
       have n5_ := Aside0.mk (ho)
       clear HO283
       clear HO286
       clear BK287
       clear HO302
       clear HB
       clear HO296
       have HO283 := n0_
       have HO286 := n1_
       have BK287 := n2_
       have HO302 := n3_
       have HB := n4_
       have HO305 := n5_
       clear n0_ n1_ n2_ n3_ n4_ n5_
       clear ho hb hg hat
       obtain ⟨Ao76, co76, eo76⟩ := Kd.N_slice HO305.out
       (first | subst eo76 | (injection eo76 with f1_ f2_ f3_; have f4_ := f1_.symm; have f5_ := f3_.symm; clear f1_ f2_ f3_; subst f4_; subst f5_))
       refine hK.out _ _ ⟨(blk_cell BK287.out 0).trans rfl, (blk_cell BK287.out 1).trans rfl⟩ (fun hHeld => ?_)
       clear hK K
       refine norm_ (a' := ?_) ?_ ?_
       rotate_left
       ·show Act.put _ (some 28) _ = _
        simp only [Act.put, List.setIfInBounds_toArray, List.set_cons_zero, List.set_cons_succ, i64_w, i32_w]
        rfl
       refine pure_ (i := 15) (N := some 31) (v := ?_) (a' := ?_) #[true, true, true, true, true, true, true, true, true, true, true, true, true, true, true, true, false, false, false, false, false, false, false] rfl rfl (any_of HT_.out (by kernel_rfl)) (fun _ _ _ h => h) (Or.inl ⟨by rfl, ?_⟩) ?_ ?_
       rotate_left
       ·intro w'
        go_simp
        with_reducible rfl
       rotate_left
       ·simp only [Act.put, List.setIfInBounds_toArray, List.set_cons_zero, List.set_cons_succ, i64_w, i32_w]
        rfl
       refine one_ (i := 16) (N := some 32) #[true, true, true, true, true, true, true, true, true, true, true, true, true, true, true, true, true, false, false, false, false, false, false] rfl rfl (one_of HT_.out (by kernel_rfl)) (by decide) (fun K hK => ?_)
       refine goes_ Try.func24 (by kernel_rfl) rfl #[.agg #[.slice Ao76 y303.length co76, .slice Ao59 t284.length co59]] (by rfl) rfl rfl (by (try simp only [List.map_toArray, List.map_cons, List.map_nil]); first | done | rfl | (simp only [List.length_drop, List.length_take]; rfl)) ?_
       with_reducible refine (impl_PictureValid.calls k _ _ y303 _ _ t284 false _ ?side1 ?side2 ?side3 ?side4 A29.out).mono ?_
       (case side1 => repeat (first | exact (Kd.N_reads' HO305.out).2.2 | (with_reducible refine Kd.C_alloc ?_ _) | (with_reducible refine Kd.C_drewN ?_ _) | (with_reducible refine Kd.C_drew ?_)))
       (case side2 => exact (Kd.N_reads' HO305.out).2.1)
       (case side3 => repeat (first | exact (Kd.N_reads' HO286.out).2.2 | (with_reducible refine Kd.C_alloc ?_ _) | (with_reducible refine Kd.C_drewN ?_ _) | (with_reducible refine Kd.C_drew ?_)))
       (case side4 => exact (Kd.N_reads' HO286.out).2.1)
       rintro e w77 ⟨rfl, hb⟩
       refine ⟨_, rfl, ?_⟩
       have n0_ := Aside0.mk (Kd.N_below (by (with_reducible repeat (first | apply Kd.N_alloc | apply Kd.N_drewN | apply Kd.N_drew)); exact HO283.out) hb)
       have n1_ := Aside0.mk (Kd.N_below (by (with_reducible repeat (first | apply Kd.N_alloc | apply Kd.N_drewN | apply Kd.N_drew)); exact HO286.out) hb)
       have n2_ := Aside0.mk (Kd.N_below (by (with_reducible repeat (first | apply Kd.N_alloc | apply Kd.N_drewN | apply Kd.N_drew)); exact HO302.out) hb)
       have n3_ := Aside0.mk (Kd.N_below (by (with_reducible repeat (first | apply Kd.N_alloc | apply Kd.N_drewN | apply Kd.N_drew)); exact HO305.out) hb)
       have n4_ := Aside0.mk (blk_below (g := gb287) (o := .cells #[.slice Ao57 t281.length co57, .slice Ao59 t284.length co59] 25 (0, 0)) (by (with_reducible repeat (first | refine blk_drewN ?_ _ | refine blk_drew ?_ | refine blk_alloc ?_ _)); exact BK287.out) hb)
       have n5_ := Aside0.mk (below_step (by repeat (first | (with_reducible first | exact HB.out | apply below_alloc | apply pw_below_drewN | apply below_drew1 | refine below_set ?_ GE287.out) | exact HB.out)) hb)
       clear HO283
       clear HO286
       clear HO302
       clear HO305
       clear BK287
       clear HB
       have HO283 := n0_
       have HO286 := n1_
       have HO302 := n2_
       have HO305 := n3_
       have BK287 := n4_
       have HB := n5_
       clear n0_ n1_ n2_ n3_ n4_ n5_
       (try clear hb)
       (try clear hb2)
       (try clear hk)
       (try clear hi)
       refine hK.out _ _ ⟨(blk_cell BK287.out 0).trans rfl, (blk_cell BK287.out 1).trans rfl⟩ (fun hHeld => ?_)
       clear hK K
       refine norm_ (a' := ?_) ?_ ?_
       rotate_left
       ·show Act.put _ (some 32) _ = _
        simp only [Act.put, List.setIfInBounds_toArray, List.set_cons_zero, List.set_cons_succ, i64_w, i32_w]
        rfl
       refine pure_ (i := 17) (N := some 33) (v := ?_) (a' := ?_) #[true, true, true, true, true, true, true, true, true, true, true, true, true, true, true, true, true, true, false, false, false, false, false] rfl rfl (any_of HT_.out (by kernel_rfl)) (fun _ _ _ h => h) (Or.inl ⟨by rfl, ?_⟩) ?_ ?_
       rotate_left
       ·intro w'
        go_simp
        with_reducible rfl
       rotate_left
       ·simp only [Act.put, List.setIfInBounds_toArray, List.set_cons_zero, List.set_cons_succ, i64_w, i32_w]
        rfl
       refine pure_ (i := 18) (N := some 34) (v := ?_) (a' := ?_) #[true, true, true, true, true, true, true, true, true, true, true, true, true, true, true, true, true, true, true, false, false, false, false] rfl rfl (any_of HT_.out (by kernel_rfl)) (fun _ _ _ h => h) (Or.inl ⟨by rfl, ?_⟩) ?_ ?_
       rotate_left
       ·intro w'
        go_simp
        with_reducible rfl
       rotate_left
       ·simp only [Act.put, List.setIfInBounds_toArray, List.set_cons_zero, List.set_cons_succ, i64_w, i32_w]
        rfl
       refine pure_ (i := 19) (N := some 35) (v := ?_) (a' := ?_) #[true, true, true, true, true, true, true, true, true, true, true, true, true, true, true, true, true, true, true, true, false, false, false] rfl rfl (any_of HT_.out (by kernel_rfl)) (fun _ _ _ h => h) (Or.inl ⟨by rfl, ?_⟩) ?_ ?_
       rotate_left
       ·intro w'
        go_simp
        with_reducible rfl
       rotate_left
       ·simp only [Act.put, List.setIfInBounds_toArray, List.set_cons_zero, List.set_cons_succ, i64_w, i32_w]
        rfl
       refine one_ (i := 20) (N := some 36) #[true, true, true, true, true, true, true, true, true, true, true, true, true, true, true, true, true, true, true, true, true, false, false] rfl rfl (one_of HT_.out (by kernel_rfl)) (by decide) (fun K hK => ?_)
       refine goes_ Try.func19 (by kernel_rfl) rfl #[] (by rfl) rfl rfl (by (try simp only [List.map_toArray, List.map_cons, List.map_nil]); first | done | rfl | (simp only [List.length_drop, List.length_take]; rfl)) ?_
       with_reducible refine (laws_alive.calls k  t307 _ A54.out).mono ?_
       rintro e w78 ⟨rfl, hb⟩
       refine ⟨_, rfl, ?_⟩
       have n0_ := Aside0.mk (Kd.N_below (by (with_reducible repeat (first | apply Kd.N_alloc | apply Kd.N_drewN | apply Kd.N_drew)); exact HO283.out) hb)
       have n1_ := Aside0.mk (Kd.N_below (by (with_reducible repeat (first | apply Kd.N_alloc | apply Kd.N_drewN | apply Kd.N_drew)); exact HO286.out) hb)
       have n2_ := Aside0.mk (Kd.N_below (by (with_reducible repeat (first | apply Kd.N_alloc | apply Kd.N_drewN | apply Kd.N_drew)); exact HO302.out) hb)
       have n3_ := Aside0.mk (Kd.N_below (by (with_reducible repeat (first | apply Kd.N_alloc | apply Kd.N_drewN | apply Kd.N_drew)); exact HO305.out) hb)
       have n4_ := Aside0.mk (blk_below (g := gb287) (o := .cells #[.slice Ao57 t281.length co57, .slice Ao59 t284.length co59] 25 (0, 0)) (by (with_reducible repeat (first | refine blk_drewN ?_ _ | refine blk_drew ?_ | refine blk_alloc ?_ _)); exact BK287.out) hb)
       have n5_ := Aside0.mk (below_step (by repeat (first | (with_reducible first | exact HB.out | apply below_alloc | apply pw_below_drewN | apply below_drew1 | refine below_set ?_ GE287.out) | exact HB.out)) hb)
       clear HO283
       clear HO286
       clear HO302
       clear HO305
       clear BK287
       clear HB
       have HO283 := n0_
       have HO286 := n1_
       have HO302 := n2_
       have HO305 := n3_
       have BK287 := n4_
       have HB := n5_
       clear n0_ n1_ n2_ n3_ n4_ n5_
       (try clear hb)
       (try clear hb2)
       (try clear hk)
       (try clear hi)
       refine hK.out _ _ ⟨(blk_cell BK287.out 0).trans rfl, (blk_cell BK287.out 1).trans rfl⟩ (fun hHeld => ?_)
       clear hK K
       refine norm_ (a' := ?_) ?_ ?_
       rotate_left
       ·show Act.put _ (some 36) _ = _
        simp only [Act.put, List.setIfInBounds_toArray, List.set_cons_zero, List.set_cons_succ, i64_w, i32_w]
        rfl
       refine pure_ (i := 21) (N := some 37) (v := ?_) (a' := ?_) #[true, true, true, true, true, true, true, true, true, true, true, true, true, true, true, true, true, true, true, true, true, true, false] rfl rfl (any_of HT_.out (by kernel_rfl)) (fun _ _ _ h => h) (Or.inl ⟨by rfl, ?_⟩) ?_ ?_
       rotate_left
       ·intro w'
        go_simp
        with_reducible rfl
       rotate_left
       ·simp only [Act.put, List.setIfInBounds_toArray, List.set_cons_zero, List.set_cons_succ, i64_w, i32_w]
        rfl
       refine pure_ (i := 22) (N := some 2) (v := ?_) (a' := ?_) #[true, true, true, true, true, true, true, true, true, true, true, true, true, true, true, true, true, true, true, true, true, true, true] rfl rfl (any_of HT_.out (by kernel_rfl)) (fun _ _ _ h => h) (Or.inl ⟨by rfl, ?_⟩) ?_ ?_
       rotate_left
       ·intro w'
        go_simp
        with_reducible rfl
       rotate_left
       ·simp only [Act.put, List.setIfInBounds_toArray, List.set_cons_zero, List.set_cons_succ, i64_w, i32_w]
        rfl
       refine done_ (done_of HT_.out (by kernel_rfl)) ?_
       try go_wp2
       go_ret
       exact ⟨by first | rfl | (simp [errW_none, errW_some] <;> rfl) | (simp [*, errW_none, errW_some] <;> rfl), by repeat (first | (with_reducible first | exact HB.out | apply below_alloc | apply pw_below_drewN | apply below_drew1 | refine below_set ?_ GE287.out) | exact HB.out)⟩
     ·rw [if_neg c28] at H
      exact absurd H (by simp)
    ·rw [if_neg c27] at H
     exact absurd H (by simp)

/-- THE ONE PURE STATEMENT of laws_FnPictureValid: yours. -/
def laws_FnPictureValid.Pure : Prop := ∀ (l0 : List Int), l0.length ≤ maxLen → l0.length * 1 ≤ 140737488351232 → (∀ x ∈ l0, (Lit.int .u8 x).wf = true) → ∃ k, laws_FnPictureValid.f k l0 = some true
theorem laws_FnPictureValid.walk (P : laws_FnPictureValid.Pure) (a0 : Option Addr) (len0 cap0 : Nat) (z0 : List Int) (w : World) (w0 : (a0 = none ∧ len0 = 0 ∧ cap0 = 0 ∧ z0 = []) ∨ ∃ x, a0 = some x ∧ len0 ≤ cap0 ∧ cap0 ≤ maxLen ∧ z0.length = cap0 ∧ (∀ i, i < z0.length → w.cell? (x.add i) = some (.int .u8 (z0.getD i 0))) ∧ ∀ n ∈ z0, (Lit.int .u8 n).wf = true) (y0 : len0 * 1 ≤ 140737488351232) :
  Calls Try.prog 5 #[.slice a0 len0 cap0] w fun e w' => e = .returned (.bool true) ∧ Below w.heap.size w w' := by
 obtain ⟨l0, rfl, hr0, hm0, hw0, hc0⟩ := ReadsInt.ofRowC w0
 obtain ⟨k, h⟩ := P l0 hm0 y0 hw0
 refine (laws_FnPictureValid.calls k _ _ l0 true w (Kd.C_of_reads (d := (0 : Int)) (h1 := fun _ => rfl) hr0) hc0 h).mono ?_
 rintro e w' ⟨rfl, hd⟩
 exact ⟨rfl, hd⟩

end Go.Proofs.Ytapnohcfnclleaa.PFnPictureValid
