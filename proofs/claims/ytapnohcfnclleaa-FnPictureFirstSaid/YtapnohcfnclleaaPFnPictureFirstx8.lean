-- Made by a program of this session (the kit print, shortened): the kit print itself does not give this text
import Derived.Test.YtapnohcfnclleaaV4
import Derived.Test.YtapnohcfnclleaaPFnPictureFirstx0
import Derived.Test.YtapnohcfnclleaaPFnPictureFirstx7
namespace Go.Proofs.Ytapnohcfnclleaa.PFnPictureFirst
open Go.RowKit Go.Proofs.YtapnohcfnclleaaW.PrintWords Go.Proofs.YtapnohcfnclleaaW.PrintLast Go.Proofs.YtapnohcfnclleaaW.PrintMore
attribute [local go_sem] max2_int min2_int max_two min_two max_three min_three max_four min_four   -- for this text's walks alone
set_option linter.unusedVariables false
set_option linter.unusedSimpArgs false

/-! ### spec_PictureOf: function 28 -/
mutual
def spec_PictureOf.j0 : Nat → List (List Bool) → Bool → Option ((List (List Int)) × (List (List Int)) × Bool)
 | 0, _, _ => none
 | k + 1, x0, x21 => if x21 = true then (some (([] : List (List Int)), ([] : List (List Int)), false)) else (spec_PictureOf.l0 k x0 0 ([] : List (List Int)))
def spec_PictureOf.l0 : Nat → List (List Bool) → Int → List (List Int) → Option ((List (List Int)) × (List (List Int)) × Bool)
 | 0, _, _, _ => none
 | k + 1, x0, x5, x222000 => if x5 < (x0.length : Int) then (if 0 ≤ x5 then (if 0 < (x0.length : Int) then (if ((rd_L3 x0 x5).length : Int) = ((rd_L3 x0 0).length : Int) then ((spec_ClueOf.f k (rd_L3 x0 x5)).bind fun t228 => (if x222000.length < 5864062014805 then (spec_PictureOf.l0 k x0 (wrap64 (x5 + 1)) (x222000 ++ [t228])) else (none))) else (some (([] : List (List Int)), ([] : List (List Int)), false))) else (none)) else (none)) else (spec_PictureOf.l1 k x0 0 x222000 ([] : List (List Int)))
def spec_PictureOf.l1 : Nat → List (List Bool) → Int → List (List Int) → List (List Int) → Option ((List (List Int)) × (List (List Int)) × Bool)
 | 0, _, _, _, _ => none
 | k + 1, x0, x6, x222000, x222001 => if 0 < (x0.length : Int) then (if x6 < ((rd_L3 x0 0).length : Int) then ((spec_l13Column.f k x0 x6).bind fun t235 => ((spec_ClueOf.f k t235).bind fun t238 => (if x222001.length < 5864062014805 then (spec_PictureOf.l1 k x0 (wrap64 (x6 + 1)) x222000 (x222001 ++ [t238])) else (none)))) else (some (x222000, x222001, true))) else (none)
end
def spec_PictureOf.f (k : Nat) (l0 : List (List Bool)) : Option ((List (List Int)) × (List (List Int)) × Bool) := (spec_l1OwnRowsBool.f k l0).bind fun t218 => ((spec_l1In.f (t218.length : Int) 1 5).bind fun t222 => (if t222 = true then (if 0 < (t218.length : Int) then ((spec_l1In.f ((rd_L3 t218 0).length : Int) 1 5).bind fun t224 => (spec_PictureOf.j0 k t218 (!t224))) else (none)) else (spec_PictureOf.j0 k t218 true)))
theorem spec_PictureOf.mono_l : ∀ k, (∀ y0 y1, LeO (spec_PictureOf.j0 k y0 y1) (spec_PictureOf.j0 (k + 1) y0 y1)) ∧ (∀ y0 y1 y2, LeO (spec_PictureOf.l0 k y0 y1 y2) (spec_PictureOf.l0 (k + 1) y0 y1 y2)) ∧ (∀ y0 y1 y2 y3, LeO (spec_PictureOf.l1 k y0 y1 y2 y3) (spec_PictureOf.l1 (k + 1) y0 y1 y2 y3))
 | 0 => ⟨fun _ _ r h => by simp [spec_PictureOf.j0] at h, fun _ _ _ r h => by simp [spec_PictureOf.l0] at h, fun _ _ _ _ r h => by simp [spec_PictureOf.l1] at h⟩
 | k + 1 => by
  obtain ⟨ih0, ih1, ih2⟩ := spec_PictureOf.mono_l k
  refine ⟨?_, ?_, ?_⟩
  ·intro y0 y1
   unfold spec_PictureOf.j0
   repeat' first
   | (with_reducible exact ih0 _ _)
   | (with_reducible exact ih1 _ _ _)
   | (with_reducible exact ih2 _ _ _ _)
   | (with_reducible exact spec_ClueOf.mono _ _)
   | (with_reducible exact spec_l13Column.mono _ _ _)
   | (with_reducible exact spec_l1OwnRowsBool.mono _ _)
   | (with_reducible exact LeO.refl _)
   | (with_reducible exact LeO.none _)
   | (with_reducible refine LeO.ite ?_ ?_)
   | (with_reducible refine LeO.bind ?_ (fun _ => ?_))
   | exact LeO.none _
   | refine LeO.ite ?_ ?_
   | refine LeO.bind ?_ (fun _ => ?_)
  ·intro y0 y1 y2
   unfold spec_PictureOf.l0
   repeat' first
   | (with_reducible exact ih0 _ _)
   | (with_reducible exact ih1 _ _ _)
   | (with_reducible exact ih2 _ _ _ _)
   | (with_reducible exact spec_ClueOf.mono _ _)
   | (with_reducible exact spec_l13Column.mono _ _ _)
   | (with_reducible exact spec_l1OwnRowsBool.mono _ _)
   | (with_reducible exact LeO.refl _)
   | (with_reducible exact LeO.none _)
   | (with_reducible refine LeO.ite ?_ ?_)
   | (with_reducible refine LeO.bind ?_ (fun _ => ?_))
   | exact LeO.none _
   | refine LeO.ite ?_ ?_
   | refine LeO.bind ?_ (fun _ => ?_)
  ·intro y0 y1 y2 y3
   unfold spec_PictureOf.l1
   repeat' first
   | (with_reducible exact ih0 _ _)
   | (with_reducible exact ih1 _ _ _)
   | (with_reducible exact ih2 _ _ _ _)
   | (with_reducible exact spec_ClueOf.mono _ _)
   | (with_reducible exact spec_l13Column.mono _ _ _)
   | (with_reducible exact spec_l1OwnRowsBool.mono _ _)
   | (with_reducible exact LeO.refl _)
   | (with_reducible exact LeO.none _)
   | (with_reducible refine LeO.ite ?_ ?_)
   | (with_reducible refine LeO.bind ?_ (fun _ => ?_))
   | exact LeO.none _
   | refine LeO.ite ?_ ?_
   | refine LeO.bind ?_ (fun _ => ?_)
theorem spec_PictureOf.mono : ∀ a0 k, LeO (spec_PictureOf.f k a0) (spec_PictureOf.f (k + 1) a0) := by
 intro a0 k
 obtain ⟨ih0, ih1, ih2⟩ := spec_PictureOf.mono_l k
 unfold spec_PictureOf.f
 repeat' first
   | (with_reducible exact ih0 _ _)
   | (with_reducible exact ih1 _ _ _)
   | (with_reducible exact ih2 _ _ _ _)
   | (with_reducible exact spec_ClueOf.mono _ _)
   | (with_reducible exact spec_l13Column.mono _ _ _)
   | (with_reducible exact spec_l1OwnRowsBool.mono _ _)
   | (with_reducible exact LeO.refl _)
   | (with_reducible exact LeO.none _)
   | (with_reducible refine LeO.ite ?_ ?_)
   | (with_reducible refine LeO.bind ?_ (fun _ => ?_))
   | exact LeO.none _
   | refine LeO.ite ?_ ?_
   | refine LeO.bind ?_ (fun _ => ?_)
def spec_PictureOf.T8 : Bool × List (List Nat × List Nat) := (true, [([], []), ([], []), ([0, 1], [0, 1]), ([2], [2]), ([3], [3]), ([], []), ([5], [5]), ([6], [6]), ([7], [7]), ([4, 8], [4, 8])])
def spec_PictureOf.B8 : List Nat := [0, 0, 3, 7, 15, 0, 32, 96, 224, 511]
theorem spec_PictureOf.tab8 : rtab .any (opsOf Try.f28 8) = spec_PictureOf.T8 := by kernel_rfl
theorem spec_PictureOf.bits8 : waitsOk spec_PictureOf.T8.2 spec_PictureOf.B8 = true := by kernel_rfl
def spec_PictureOf.T10 : Bool × List (List Nat × List Nat) := (true, [([], []), ([0], [0]), ([], []), ([], []), ([2, 3], [2, 3]), ([4], [4]), ([5], [5]), ([6], [6]), ([1, 7, 6], [1, 7]), ([0, 1, 2, 3, 4, 5, 6, 7, 8], []), ([9, 8, 8, 0, 1, 2, 3, 4, 5, 6, 7, 8], [8, 9])])
def spec_PictureOf.B10 : List Nat := [0, 1, 0, 0, 12, 28, 60, 124, 255, 511, 1023]
theorem spec_PictureOf.tab10 : rtab .any (opsOf Try.f28 10) = spec_PictureOf.T10 := by kernel_rfl
theorem spec_PictureOf.bits10 : waitsOk spec_PictureOf.T10.2 spec_PictureOf.B10 = true := by kernel_rfl
def spec_PictureOf.T14 : Bool × List (List Nat × List Nat) := (true, [([], []), ([0], [0]), ([], []), ([], []), ([2, 3], [2, 3]), ([4, 4], [4]), ([5], [5]), ([1, 6, 5], [1, 6]), ([0, 1, 2, 3, 4, 5, 6, 7], []), ([8, 7, 7, 0, 1, 2, 3, 4, 5, 6, 7], [7, 8])])
def spec_PictureOf.B14 : List Nat := [0, 1, 0, 0, 12, 28, 60, 127, 255, 511]
theorem spec_PictureOf.tab14 : rtab .any (opsOf Try.f28 14) = spec_PictureOf.T14 := by kernel_rfl
theorem spec_PictureOf.bits14 : waitsOk spec_PictureOf.T14.2 spec_PictureOf.B14 = true := by kernel_rfl
set_option maxHeartbeats 8000000 in
set_option maxRecDepth 100000 in
theorem spec_PictureOf.calls (k : Nat) (A0 : Option Addr) (c0 : Nat) (l0 : List (List Bool)) (r1 : List (List Int)) (r2 : List (List Int)) (r3 : Bool) (w : World) (hr0 : Kd.C (Kd.slice 4 Kd.bool) w A0 l0.length l0) (hc0 : l0.length ≤ c0) (h : spec_PictureOf.f k l0 = some (r1, r2, r3)) :
  Calls Try.prog 28 #[.slice A0 l0.length c0] w fun e w' => ∃ v0_ v1_ : Value, e = .returned (.tuple #[.agg #[v0_, v1_], .bool r3]) ∧ Kd.R (Kd.slice 3 (Kd.int .i64)) 36 w' w.heap.size (fun k_ => some k_ ≠ (v1_ : Value).ownBlock) v0_ r1 ∧ Kd.R (Kd.slice 3 (Kd.int .i64)) 36 w' w.heap.size (fun k_ => some k_ ≠ (v0_ : Value).ownBlock) v1_ r2 ∧ Below w.heap.size w w' := by
 have hu25 := Try.underlying25
 have HR0 := Aside0.mk hr0
 have HC0 := Aside0.mk hc0
 clear hr0 hc0
 have HB := Aside0.mk (Below.refl w.heap.size w)
 have H : ((spec_l1OwnRowsBool.f k l0).bind fun t218 => ((spec_l1In.f (t218.length : Int) 1 5).bind fun t222 => (if t222 = true then (if 0 < (t218.length : Int) then ((spec_l1In.f ((rd_L3 t218 0).length : Int) 1 5).bind fun t224 => (spec_PictureOf.j0 k t218 (!t224))) else (none)) else (spec_PictureOf.j0 k t218 true)))) = some (r1, r2, r3) := h
 clear h
 replace H := Option.bind_eq_some_iff.mp H
 obtain ⟨t218, A20, H⟩ := H
 replace H : ((spec_l1In.f (t218.length : Int) 1 5).bind fun t222 => (if t222 = true then (if 0 < (t218.length : Int) then ((spec_l1In.f ((rd_L3 t218 0).length : Int) 1 5).bind fun t224 => (spec_PictureOf.j0 k t218 (!t224))) else (none)) else (spec_PictureOf.j0 k t218 true))) = some (r1, r2, r3) := H
 have A2 := Aside0.mk A20
 clear A20
 have HC3 := Aside0.mk H
 clear H
 go_enter Try.func28, Try.ntmps28
 go_upto_region 3 with (first | ((with_reducible refine gate_dst (N := 2) rfl ?_); (try (refine gate_guard (by rfl) ?_; dsimp only)); refine box_event ?hg (N := 2) ?hd (cs := #[.slice none 0 0, .slice none 0 0]) (t := 25) ?hr ?_; (case hd => rfl); (case hg => rfl); (case hr => first | (go_simp; done) | (go_simp; rfl)); intro gb217 hg w4 hbox hb; have n0_ := Aside0.mk (below_step (bm HB) hb); have n1_ := Aside0.mk (hbox); have n2_ := Aside0.mk ((by rw [hg]; exact (below_size (bm HB)) : w.heap.size ≤ gb217)); have n3_ := Aside0.mk ((by rw [hg]; exact (below_size (bm HB)) : w.heap.size ≤ gb217)); clear HB; have HB := n0_; have BK217 := n1_; have GW217 := n2_; have GE217 := n3_; clear n0_ n1_ n2_ n3_; clear hb hbox hg) | ((with_reducible refine gate_callee (f := 61) rfl ?_); refine goesL_ (some 8) rfl rfl Try.func61 (by kernel_rfl) rfl #[.slice A0 l0.length c0] rfl (by (try simp only [List.map_toArray, List.map_cons, List.map_nil]); first | done | rfl | (simp only [List.length_drop, List.length_take]; rfl)) ?_; (with_reducible refine (spec_l1OwnRowsBool.calls k _ _ l0 t218 _ ?side1 ?side2 A2.out).mono ?_); (case side1 => repeat (first | exact (Kd.C_below HR0.out HB.out) | (with_reducible refine Kd.C_alloc ?_ _) | (with_reducible refine Kd.C_drewN ?_ _) | (with_reducible refine Kd.C_drew ?_))); (case side2 => exact HC0.out); rintro e w5 ⟨v219, rfl, ho0, hb⟩; refine ⟨_, rfl, ?_⟩; have n0_ := Aside0.mk (Kd.R_lower ho0 (below_size (by repeat (first | (with_reducible first | exact HB.out | apply below_alloc | apply pw_below_drewN | apply below_drew1 | refine below_set ?_ GE217.out) | exact HB.out)))); have n1_ := Aside0.mk (blk_below (g := gb217) (o := .cells #[.slice none 0 0, .slice none 0 0] 25 (0, 0)) (bv BK217.out) hb); have n2_ := Aside0.mk (below_step (by repeat (first | (with_reducible first | exact HB.out | apply below_alloc | apply pw_below_drewN | apply below_drew1 | refine below_set ?_ GE217.out) | exact HB.out)) hb); clear BK217; clear HB; have HO220 := n0_; have BK217 := n1_; have HB := n2_; clear n0_ n1_ n2_; (try clear hb); (try clear hb2); (try clear hk); (try clear hi); (try clear ho0)) | ((with_reducible refine gate_dst (N := 4) rfl ?_); (try (refine gate_guard (by rfl) ?_; dsimp only)); refine box_event ?hg (N := 4) ?hd (cs := #[.slice none 0 0, .slice none 0 0]) (t := 25) ?hr ?_; (case hd => rfl); (case hg => rfl); (case hr => first | (go_simp; done) | (go_simp; rfl)); intro gb221 hg w6 hbox hb; have n0_ := Aside0.mk (Kd.R_below (Kd.rv HO220.out) hb); have n1_ := Aside0.mk (blk_below (g := gb217) (o := .cells #[.slice none 0 0, .slice none 0 0] 25 (0, 0)) (bv BK217.out) hb); have n2_ := Aside0.mk (below_step (by repeat (first | (with_reducible first | exact HB.out | apply below_alloc | apply pw_below_drewN | apply below_drew1 | refine below_set ?_ GE217.out) | exact HB.out)) hb); have n3_ := Aside0.mk (hbox); have n4_ := Aside0.mk ((by rw [hg]; exact (below_size (by repeat (first | (with_reducible first | exact HB.out | apply below_alloc | apply pw_below_drewN | apply below_drew1 | refine below_set ?_ GE217.out) | exact HB.out))) : w.heap.size ≤ gb221)); have n5_ := Aside0.mk ((by rw [hg]; exact (below_size (by repeat (first | (with_reducible first | exact HB.out | apply below_alloc | apply pw_below_drewN | apply below_drew1 | refine below_set ?_ GE217.out) | exact HB.out))) : w.heap.size ≤ gb221)); have n6_ := Aside0.mk ((by rw [hg]; exact Nat.ne_of_lt (blk_lt (g := gb217) (o := .cells #[.slice none 0 0, .slice none 0 0] 25 (0, 0)) (bv BK217.out)) : gb217 ≠ gb221)); have n7_ := Aside0.mk ((by rw [hg]; exact Nat.ne_of_gt (blk_lt (g := gb217) (o := .cells #[.slice none 0 0, .slice none 0 0] 25 (0, 0)) (bv BK217.out)) : gb221 ≠ gb217)); clear HO220; clear BK217; clear HB; have HO220 := n0_; have BK217 := n1_; have HB := n2_; have BK221 := n3_; have GW221 := n4_; have GE221 := n5_; have NB217_221 := n6_; have NB221_217 := n7_; clear n0_ n1_ n2_ n3_ n4_ n5_ n6_ n7_; clear hb hbox hg; have hnb7 := NB221_217.out; have hnc7 := NB217_221.out; have hcz8_0 : w6.cell? ⟨gb221, 0, none⟩ = some (.slice none 0 0) := (blk_cell BK221.out 0).trans rfl; have hcz8_1 : w6.cell? ⟨gb221, 1, none⟩ = some (.slice none 0 0) := (blk_cell BK221.out 1).trans rfl; have hfz8_0 := blk_frozen BK221.out 0; have hfz8_1 := blk_frozen BK221.out 1))
 (try simp only [Act.put, List.setIfInBounds_toArray, List.set_cons_zero, List.set_cons_succ])
 go_cut [21] (fun v21 wc => ∃ (kq : Nat) (x21_2 : Bool), v21 = .bool x21_2 ∧ Aside0 (spec_PictureOf.j0 kq t218 x21_2 = some (r1, r2, r3)) ∧ Aside0 (kq ≤ k) ∧ Aside0 (Kd.R (Kd.slice 4 Kd.bool) 37 wc w.heap.size (fun _ => True) v219 t218) ∧ Aside0 (wc.heap[gb217]? = some (.cells #[(.slice none 0 0), (.slice none 0 0)] 25 (0, 0))) ∧ Aside0 (wc.heap[gb221]? = some (.cells #[(.slice none 0 0), (.slice none 0 0)] 25 (0, 0))) ∧ Aside0 (Below w.heap.size w wc))
 case first =>
  have H := HC3.out
  clear HC3
  replace H := Option.bind_eq_some_iff.mp H
  obtain ⟨t222, A90, H⟩ := H
  replace H : (if t222 = true then (if 0 < (t218.length : Int) then ((spec_l1In.f ((rd_L3 t218 0).length : Int) 1 5).bind fun t224 => (spec_PictureOf.j0 k t218 (!t224))) else (none)) else (spec_PictureOf.j0 k t218 true)) = some (r1, r2, r3) := H
  have A9 := Aside0.mk A90
  clear A90
  by_cases c10 : t222 = true
  ·subst c10
   have H1 : (if 0 < (t218.length : Int) then ((spec_l1In.f ((rd_L3 t218 0).length : Int) 1 5).bind fun t224 => (spec_PictureOf.j0 k t218 (!t224))) else (none)) = some (r1, r2, r3) := by rw [if_pos rfl] at H; exact H
   clear H
   have H := H1
   clear H1
   have q_ := ifs H
   clear H
   obtain ⟨c11, H⟩ := q_
   have c11b0 : decide (0 < (t218.length : Int)) = true := decide_eq_true c11
   have c11b1 : decide (0 < t218.length) = true := decide_eq_true (by omega)
   clear c11
   (first | rw [c11b0] | (simp only [i64_w, i32_w]; rw [c11b0]) | skip)
   replace H := Option.bind_eq_some_iff.mp H
   obtain ⟨t224, A120, H⟩ := H
   replace H : (spec_PictureOf.j0 k t218 (!t224)) = some (r1, r2, r3) := H
   have A12 := Aside0.mk A120
   clear A120
   have H' := Aside0.mk H
   clear H
   obtain ⟨Ao13, co13, eo13⟩ := Kd.R_slice HO220.out
   subst eo13
   go_wp2_with (first | ((with_reducible refine gate_callee (f := 53) rfl ?_); refine goesL_ (some 12) rfl rfl Try.func53 (by kernel_rfl) rfl #[.int .i64 (t218.length : Int), .int .i64 1, .int .i64 5] rfl (by (try simp only [List.map_toArray, List.map_cons, List.map_nil]); first | done | rfl | (simp only [List.length_drop, List.length_take]; rfl)) ?_; (with_reducible refine (spec_l1In.calls (t218.length : Int) 1 5 true _ A9.out).mono ?_); rintro e w' ⟨rfl, ⟨nd, rfl⟩⟩; refine ⟨_, rfl, ?_⟩; have p223 : 0 ≤ (0 : Int) := (by omega); have q223 : 0 < (t218.length : Int) := of_decide_eq_true (by first | (with_reducible assumption) | assumption); obtain ⟨ad223, A223_0, c223_0, e223, hx223_0, hl223_0, hi223_0⟩ := at_L3 (Kd.R_reads' HO220.out).2.2 0 p223 q223; cases e223; have qi223 : (0 < t218.length) = True := eq_true (by omega); (try rw [show ((0 : Int)).toNat = 0 from rfl] at hx223_0); (try rw [Addr.add_zero'] at hx223_0); have hn223_0 : ad223.block ≠ gb221 := Kd.own_blk (Kd.R_ne HO220.out BK221.out (by decide)); have hn223_1 : ad223.block ≠ gb221 := Kd.own_blk (Kd.R_ne HO220.out BK221.out (by decide)); have HR223_0 := Aside0.mk hi223_0; have HC223_0 := Aside0.mk hl223_0; clear hi223_0 hl223_0; replace hx223_0 := (cell_far (p := ⟨gb221, 0, none⟩) (by first | (rw [add_block]; exact hn223_0) | (show (Addr.add _ _).block ≠ _; rw [add_block]; exact hn223_0) | exact hn223_0) (.slice none 0 0)).trans hx223_0; replace hx223_0 := (cell_far (p := ⟨gb221, 1, none⟩) (by first | (rw [add_block]; exact hn223_1) | (show (Addr.add _ _).block ≠ _; rw [add_block]; exact hn223_1) | exact hn223_1) (.slice none 0 0)).trans hx223_0; clear hn223_0; clear hn223_1; replace p223 := eq_true p223; replace q223 := eq_true q223) | (go_at_call 53; (with_reducible refine (spec_l1In.calls ((rd_L3 t218 0).length : Int) 1 5 t224 _ A12.out).mono ?_); rintro e w' ⟨rfl, ⟨nd, rfl⟩⟩))
   go_meet
   case rel => exact ⟨_, (!t224), (by first | rfl | (simp; done) | (simp [*]; done)), H', ⟨by first | omega | exact Nat.le_refl _⟩, ⟨by (with_reducible repeat (first | apply Kd.R_alloc | apply Kd.R_drewN | apply Kd.R_drew)); exact Kd.R_mono (Kd.R_far (p := ⟨gb221, 1, none⟩) (Kd.R_far (p := ⟨gb221, 0, none⟩) (Kd.R_types HO220.out BK221.out (by decide)) (fun _ hk => hk.2) (.slice none 0 0)) (fun _ hk => hk.2) (.slice none 0 0)) (fun _ hk => trivial)⟩, ⟨by (with_reducible repeat (first | refine blk_drewN ?_ _ | refine blk_drew ?_ | refine blk_alloc ?_ _)); refine blk_far ?_ NB217_221.out _; (with_reducible repeat (first | refine blk_drewN ?_ _ | refine blk_drew ?_ | refine blk_alloc ?_ _)); refine blk_far ?_ NB217_221.out _; (with_reducible repeat (first | refine blk_drewN ?_ _ | refine blk_drew ?_ | refine blk_alloc ?_ _)); exact BK217.out⟩, ⟨by (with_reducible repeat (first | refine blk_drewN ?_ _ | refine blk_drew ?_ | refine blk_alloc ?_ _)); refine blk_put (cs := #[.slice none 0 0, .slice none 0 0]) ?_ 1 _ rfl; (with_reducible repeat (first | refine blk_drewN ?_ _ | refine blk_drew ?_ | refine blk_alloc ?_ _)); refine blk_put (cs := #[.slice none 0 0, .slice none 0 0]) ?_ 0 _ rfl; (with_reducible repeat (first | refine blk_drewN ?_ _ | refine blk_drew ?_ | refine blk_alloc ?_ _)); exact BK221.out⟩, ⟨by repeat (first | (with_reducible first | exact HB.out | apply below_alloc | apply pw_below_drewN | apply below_drew1 | refine below_set ?_ GE217.out | refine below_set ?_ GE221.out) | exact HB.out)⟩⟩
  ·replace c10 := Bool.eq_false_iff.mpr c10
   subst c10
   have H1 : (spec_PictureOf.j0 k t218 true) = some (r1, r2, r3) := by rw [if_neg (show ¬ (false = true) by decide)] at H; exact H
   clear H
   have H := H1
   clear H1
   have H' := Aside0.mk H
   clear H
   obtain ⟨Ao14, co14, eo14⟩ := Kd.R_slice HO220.out
   subst eo14
   go_wp2_with (first | ((with_reducible refine gate_callee (f := 53) rfl ?_); refine goesL_ (some 12) rfl rfl Try.func53 (by kernel_rfl) rfl #[.int .i64 (t218.length : Int), .int .i64 1, .int .i64 5] rfl (by (try simp only [List.map_toArray, List.map_cons, List.map_nil]); first | done | rfl | (simp only [List.length_drop, List.length_take]; rfl)) ?_; (with_reducible refine (spec_l1In.calls (t218.length : Int) 1 5 false _ A9.out).mono ?_); rintro e w' ⟨rfl, ⟨nd, rfl⟩⟩; refine ⟨_, rfl, ?_⟩))
   go_meet
   case rel => exact ⟨_, (true), (by first | rfl | (simp; done) | (simp [*]; done)), H', ⟨by first | omega | exact Nat.le_refl _⟩, ⟨by (with_reducible repeat (first | apply Kd.R_alloc | apply Kd.R_drewN | apply Kd.R_drew)); exact Kd.R_mono (Kd.R_far (p := ⟨gb221, 1, none⟩) (Kd.R_far (p := ⟨gb221, 0, none⟩) (Kd.R_types HO220.out BK221.out (by decide)) (fun _ hk => hk.2) (.slice none 0 0)) (fun _ hk => hk.2) (.slice none 0 0)) (fun _ hk => trivial)⟩, ⟨by (with_reducible repeat (first | refine blk_drewN ?_ _ | refine blk_drew ?_ | refine blk_alloc ?_ _)); refine blk_far ?_ NB217_221.out _; (with_reducible repeat (first | refine blk_drewN ?_ _ | refine blk_drew ?_ | refine blk_alloc ?_ _)); refine blk_far ?_ NB217_221.out _; (with_reducible repeat (first | refine blk_drewN ?_ _ | refine blk_drew ?_ | refine blk_alloc ?_ _)); exact BK217.out⟩, ⟨by (with_reducible repeat (first | refine blk_drewN ?_ _ | refine blk_drew ?_ | refine blk_alloc ?_ _)); refine blk_put (cs := #[.slice none 0 0, .slice none 0 0]) ?_ 1 _ rfl; (with_reducible repeat (first | refine blk_drewN ?_ _ | refine blk_drew ?_ | refine blk_alloc ?_ _)); refine blk_put (cs := #[.slice none 0 0, .slice none 0 0]) ?_ 0 _ rfl; (with_reducible repeat (first | refine blk_drewN ?_ _ | refine blk_drew ?_ | refine blk_alloc ?_ _)); exact BK221.out⟩, ⟨by repeat (first | (with_reducible first | exact HB.out | apply below_alloc | apply pw_below_drewN | apply below_drew1 | refine below_set ?_ GE217.out | refine below_set ?_ GE221.out) | exact HB.out)⟩⟩
 case rest =>
  clear HC3
  try clear c1
  try clear c2
  try clear p2
  try clear q2
  try clear hx2
  try clear qi2
  try clear c5
  try clear c6
  try clear c7
  try clear c10
  try clear c11
  try clear c11b0
  try clear c11b1
  try clear hcz8_0
  try clear hcz8_1
  try clear hfz8_0
  try clear hfz8_1
  try clear hx223_0
  try clear p223
  try clear q223
  obtain ⟨kq, x21_2, rfl, HA, HJ2, HO_0, BK217, BK221, HB⟩ := hcut
  cases kq with
  | zero => exact absurd HA.out (by simp [spec_PictureOf.j0])
  | succ kj2 =>
   have H := HA.out
   clear HA
   simp only [spec_PictureOf.j0] at H
   by_cases c15 : x21_2 = true
   ·subst c15
    have H1 : (some (([] : List (List Int)), ([] : List (List Int)), false)) = some (r1, r2, r3) := by rw [if_pos rfl] at H; exact H
    clear H
    have H := H1
    clear H1
    simp only [Option.some.injEq, Prod.mk.injEq] at H
    obtain ⟨rfl, rfl, rfl⟩ := H
    have hnb16 := NB221_217.out
    have hnc16 := NB217_221.out
    have hcz17_0 : wc.cell? ⟨gb221, 0, none⟩ = some (.slice none 0 0) := (blk_cell BK221.out 0).trans rfl
    have hcz17_1 : wc.cell? ⟨gb221, 1, none⟩ = some (.slice none 0 0) := (blk_cell BK221.out 1).trans rfl
    have hfz17_0 := blk_frozen BK221.out 0
    have hfz17_1 := blk_frozen BK221.out 1
    have hcz18_0 : wc.cell? ⟨gb217, 0, none⟩ = some (.slice none 0 0) := (blk_cell BK217.out 0).trans rfl
    have hcz18_1 : wc.cell? ⟨gb217, 1, none⟩ = some (.slice none 0 0) := (blk_cell BK217.out 1).trans rfl
    have hfz18_0 := blk_frozen BK217.out 0
    have hfz18_1 := blk_frozen BK217.out 1
    go_wp2
    refine bodyPost_ret (results_ct rfl _ _ gb217 25 #[.slice none 0 0, .slice none 0 0] (0, 0) _ rfl (by (with_reducible repeat (first | refine blk_drewN ?_ _ | refine blk_drew ?_ | refine blk_alloc ?_ _)); refine blk_put (cs := #[.slice none 0 0, .slice none 0 0]) ?_ 1 _ rfl; (with_reducible repeat (first | refine blk_drewN ?_ _ | refine blk_drew ?_ | refine blk_alloc ?_ _)); refine blk_put (cs := #[.slice none 0 0, .slice none 0 0]) ?_ 0 _ rfl; (with_reducible repeat (first | refine blk_drewN ?_ _ | refine blk_drew ?_ | refine blk_alloc ?_ _)); exact BK217.out) Try.underlying25 rfl (by kernel_rfl)) rfl ?_
    exact ⟨_, _, by first | rfl | (simp [errW_none, errW_some] <;> rfl) | (simp [*, errW_none, errW_some] <;> rfl), by first | exact Kd.R_nil _ _ _ _ _ | exact Kd.N_nil _ _ _ _ _ | exact Kd.V_nil _ _ _ _ _ | exact Kd.Q_nil _ _ _ _ _ | exact Kd.S_nil _ _ _ _ _, by first | exact Kd.R_nil _ _ _ _ _ | exact Kd.N_nil _ _ _ _ _ | exact Kd.V_nil _ _ _ _ _ | exact Kd.Q_nil _ _ _ _ _ | exact Kd.S_nil _ _ _ _ _, by repeat (first | (with_reducible first | exact HB.out | apply below_alloc | apply pw_below_drewN | apply below_drew1 | refine below_set ?_ GE217.out | refine below_set ?_ GE221.out) | exact HB.out)⟩
   ·replace c15 := Bool.eq_false_iff.mpr c15
    subst c15
    have H1 : (spec_PictureOf.l0 kj2 t218 0 ([] : List (List Int))) = some (r1, r2, r3) := by rw [if_neg (show ¬ (false = true) by decide)] at H; exact H
    clear H
    have H := H1
    clear H1
    have H' := Aside0.mk H
    clear H
    go_wp2
    go_loopg [5] kj2 (fun kq v5 w' => ∃ (x5_2 : Int) (x222000_2 : List (List Int)) (u222000 : Value), v5 = .int .i64 x5_2 ∧ Aside0 (spec_PictureOf.l0 kq t218 x5_2 x222000_2 = some (r1, r2, r3)) ∧ Aside0 (kq ≤ kj2) ∧ Aside0 (Kd.R (Kd.slice 4 Kd.bool) 37 w' w.heap.size (fun _ => True) v219 t218) ∧ Aside0 (Kd.R (Kd.slice 3 (Kd.int .i64)) 36 w' w.heap.size (fun _ => True) u222000 x222000_2) ∧ Aside0 (w'.heap[gb217]? = some (.cells #[(.slice none 0 0), (.slice none 0 0)] 25 (0, 0))) ∧ Aside0 (w'.heap[gb221]? = some (.cells #[u222000, (.slice none 0 0)] 25 (0, 0))) ∧ Aside0 (Below w.heap.size w w'))
    case atStart => exact ⟨(0), (([] : List (List Int))), (.slice none 0 0), (by first | rfl | (simp; done) | (simp [*]; done)), H', ⟨Nat.le_refl _⟩, ⟨Kd.rv HO_0.out⟩, ⟨by first | exact Kd.R_nil _ _ _ _ _ | exact Kd.N_nil _ _ _ _ _ | exact Kd.V_nil _ _ _ _ _ | exact Kd.Q_nil _ _ _ _ _ | exact Kd.S_nil _ _ _ _ _⟩, ⟨bv BK217.out⟩, ⟨bv BK221.out⟩, ⟨by repeat (first | (with_reducible first | exact HB.out | apply below_alloc | apply pw_below_drewN | apply below_drew1 | refine below_set ?_ GE217.out | refine below_set ?_ GE221.out) | exact HB.out)⟩⟩
    case round =>
     clear H'
     try clear c1
     try clear c2
     try clear p2
     try clear q2
     try clear hx2
     try clear qi2
     try clear c5
     try clear c6
     try clear c7
     try clear c10
     try clear c11
     try clear c11b0
     try clear c11b1
     try clear c15
     try clear c16
     try clear hcz17_0
     try clear hcz17_1
     try clear hcz18_0
     try clear hcz18_1
     try clear hcz8_0
     try clear hcz8_1
     try clear hfz17_0
     try clear hfz17_1
     try clear hfz18_0
     try clear hfz18_1
     try clear hfz8_0
     try clear hfz8_1
     try clear hx223_0
     try clear p2
     try clear p223
     try clear q2
     try clear q223
     obtain ⟨x5_2, x222000_2, u222000, rfl, HA, HK2, HO_0, HO_222000, BK217, BK221, HB⟩ := hrel
     cases gk with
     | zero => exact absurd HA.out (by simp [spec_PictureOf.l0])
     | succ k2 =>
      have H := HA.out
      clear HA
      simp only [spec_PictureOf.l0] at H
      by_cases c19 : x5_2 < (t218.length : Int)
      ·rw [if_pos c19] at H
       have c19b0 : decide (x5_2 < (t218.length : Int)) = true := decide_eq_true c19
       clear c19
       have q_ := ifs H
       clear H
       obtain ⟨c20, H⟩ := q_
       have c20b0 : decide (0 ≤ x5_2) = true := decide_eq_true c20
       clear c20
       have q_ := ifs H
       clear H
       obtain ⟨c21, H⟩ := q_
       have c21b0 : decide (0 < (t218.length : Int)) = true := decide_eq_true c21
       have c21b1 : decide (0 < t218.length) = true := decide_eq_true (by omega)
       clear c21
       by_cases c22 : ((rd_L3 t218 x5_2).length : Int) = ((rd_L3 t218 0).length : Int)
       ·rw [if_pos c22] at H
        have c22b0 : (((rd_L3 t218 x5_2).length : Int) == ((rd_L3 t218 0).length : Int)) = true := beq_iff_eq.mpr c22
        have c22b1 : (((rd_L3 t218 x5_2).length : Int) != ((rd_L3 t218 0).length : Int)) = false := bne_eq_false_iff_eq.mpr c22
        have c22b2 : ((rd_L3 t218 x5_2).length == (rd_L3 t218 0).length) = true := by first | simpa using c22 | (simp at c22 ⊢; omega)
        clear c22
        replace H := Option.bind_eq_some_iff.mp H
        obtain ⟨t228, A230, H⟩ := H
        replace H : (if x222000_2.length < 5864062014805 then (spec_PictureOf.l0 k2 t218 (wrap64 (x5_2 + 1)) (x222000_2 ++ [t228])) else (none)) = some (r1, r2, r3) := H
        have A23 := Aside0.mk A230
        clear A230
        have q_ := ifs H
        clear H
        obtain ⟨c24, H⟩ := q_
        have LMc24 := Aside0.mk c24
        clear c24
        obtain ⟨y231, hy231⟩ : ∃ y_ : List (List Int), y_ = (x222000_2 ++ [t228]) := ⟨_, rfl⟩
        replace H : (spec_PictureOf.l0 k2 t218 (wrap64 (x5_2 + 1)) y231) = some (r1, r2, r3) := by first | (rw [hy231]; with_reducible exact H) | (have H2_ := (Option.bind_some _ _).symm.trans H; rw [hy231]; with_reducible exact H2_) | (have H2_ := (Option.bind_some _ _).symm.trans H; with_reducible exact H2_) | with_reducible exact H | (rw [hy231]; exact H) | exact H
        have Ny231 := Aside0.mk hy231
        clear hy231
        have H' := Aside0.mk H
        clear H
        obtain ⟨Ao25, co25, eo25⟩ := Kd.R_slice HO_0.out
        subst eo25
        try go_wp2
        have n0_ := Aside0.mk (Kd.R_drew HO_0.out)
        have n1_ := Aside0.mk (Kd.R_drew HO_222000.out)
        have n2_ := Aside0.mk (blk_drew BK217.out)
        have n3_ := Aside0.mk (blk_drew BK221.out)
        have n4_ := Aside0.mk (below_drew1 HB.out)
        clear HO_0 HO_222000 BK217 BK221 HB
        have HO_0 := n0_
        have HO_222000 := n1_
        have BK217 := n2_
        have BK221 := n3_
        have HB := n4_
        clear n0_ n1_ n2_ n3_ n4_
        have p225 : 0 ≤ (x5_2 : Int) := of_decide_eq_true (by first | (with_reducible assumption) | assumption)
        have q225 : x5_2 < (t218.length : Int) := of_decide_eq_true (by first | (with_reducible assumption) | assumption)
        obtain ⟨ad225, A225_0, c225_0, e225, hx225_0, hl225_0, hi225_0⟩ := at_L3 (Kd.R_reads' HO_0.out).2.2 x5_2 p225 q225
        cases e225
        obtain ⟨ce225, hce225, hMe225, hcc225⟩ := Kd.R_get HO_0.out [] x5_2 p225 (by first | exact q225 | exact of_decide_eq_true (by first | (with_reducible assumption) | assumption) | (have e_ := (Kd.R_reads' HO_0.out).1; omega))
        obtain ⟨ve225_0, rfl, ge225_0⟩ := hMe225
        have hv225_0 := hcc225 0 _ rfl
        rw [Nat.add_zero, show ((Kd.slice 4 Kd.bool)).sz = 1 from rfl, Nat.mul_one] at hv225_0
        replace hv225_0 := Option.some.inj (hv225_0.symm.trans hx225_0)
        rw [hv225_0] at ge225_0
        have HL225_0 := Aside0.mk (show Kd.R Kd.bool 4 _ _ _ _ (rd_L3 t218 x5_2) from ge225_0)
        clear hv225_0 ge225_0 hcc225 hce225
        have HR225_0 := Aside0.mk hi225_0
        have HC225_0 := Aside0.mk hl225_0
        clear hi225_0 hl225_0
        replace p225 := eq_true p225
        replace q225 := eq_true q225
        have p226 : 0 ≤ (0 : Int) := (by omega)
        have q226 : 0 < (t218.length : Int) := of_decide_eq_true (by first | (with_reducible assumption) | assumption)
        obtain ⟨ad226, A226_0, c226_0, e226, hx226_0, hl226_0, hi226_0⟩ := at_L3 (Kd.R_reads' HO_0.out).2.2 0 p226 q226
        obtain rfl : ad225 = ad226 := (by injection e226)
        obtain ⟨ce226, hce226, hMe226, hcc226⟩ := Kd.R_get HO_0.out [] 0 p226 (by first | exact q226 | exact of_decide_eq_true (by first | (with_reducible assumption) | assumption) | (have e_ := (Kd.R_reads' HO_0.out).1; omega))
        obtain ⟨ve226_0, rfl, ge226_0⟩ := hMe226
        have hv226_0 := hcc226 0 _ rfl
        rw [Nat.add_zero, show ((Kd.slice 4 Kd.bool)).sz = 1 from rfl, Nat.mul_one] at hv226_0
        replace hv226_0 := Option.some.inj (hv226_0.symm.trans hx226_0)
        rw [hv226_0] at ge226_0
        have HL226_0 := Aside0.mk (show Kd.R Kd.bool 4 _ _ _ _ (rd_L3 t218 0) from ge226_0)
        clear hv226_0 ge226_0 hcc226 hce226
        have qi226 : (0 < t218.length) = True := eq_true (by omega)
        (try rw [show ((0 : Int)).toNat = 0 from rfl] at hx226_0)
        (try rw [Addr.add_zero'] at hx226_0)
        have HR226_0 := Aside0.mk hi226_0
        have HC226_0 := Aside0.mk hl226_0
        clear hi226_0 hl226_0
        replace p226 := eq_true p226
        replace q226 := eq_true q226
        refine start_ (n := 10) (S := fun w' => w'.cell? (ad225.add (x5_2).toNat) = some (.slice A225_0 (rd_L3 t218 x5_2).length c225_0) ∧ w'.cell? ad225 = some (.slice A226_0 (rd_L3 t218 0).length c226_0)) (ds := []) #[false, false, false, false, false, false, false, false, false, false] (by kernel_rfl) rfl rfl ⟨hx225_0, hx226_0⟩ (fun hHeld => ?_); refine with_tabW spec_PictureOf.tab8 spec_PictureOf.bits8 (fun HT_ HW_ => ?_)
        generalize wr.drew = w26 at HO_0 HO_222000 BK217 BK221 HB HL225_0 HL226_0 HR225_0 HR226_0 hx225_0 hx226_0 hHeld ⊢
        refine pure_ (i := 0) (N := some 29) (v := ?_) (a' := ?_) #[true, false, false, false, false, false, false, false, false, false] rfl rfl (any_of HT_.out (by kernel_rfl)) (fun _ _ _ h => h) (Or.inl ⟨by rfl, ?_⟩) ?_ ?_
        rotate_left
        ·intro w'
         go_simp
         with_reducible rfl
        rotate_left
        ·simp only [Act.put, List.setIfInBounds_toArray, List.set_cons_zero, List.set_cons_succ, i64_w, i32_w]
         rfl
        refine pure_ (i := 1) (N := some 30) (v := ?_) (a' := ?_) #[true, true, false, false, false, false, false, false, false, false] rfl rfl (any_of HT_.out (by kernel_rfl)) (fun _ _ _ h => h) (Or.inl ⟨by rfl, ?_⟩) ?_ ?_
        rotate_left
        ·intro w'
         go_simp
         with_reducible rfl
        rotate_left
        ·simp only [Act.put, List.setIfInBounds_toArray, List.set_cons_zero, List.set_cons_succ, i64_w, i32_w]
         rfl
        refine pure_ (i := 2) (N := some 31) (v := ?_) (a' := ?_) #[true, true, true, false, false, false, false, false, false, false] rfl rfl (any_of HT_.out (by kernel_rfl)) (fun _ _ _ h => h) (Or.inl ⟨by rfl, ?_⟩) ?_ ?_
        rotate_left
        ·intro w'
         go_simp
         with_reducible rfl
        rotate_left
        ·simp only [Act.put, List.setIfInBounds_toArray, List.set_cons_zero, List.set_cons_succ, i64_w, i32_w]
         rfl
        refine pure_ (i := 5) (N := some 34) (v := ?_) (a' := ?_) #[true, true, true, false, false, true, false, false, false, false] rfl rfl (any_of HT_.out (by kernel_rfl)) (fun _ _ _ h => h) (Or.inl ⟨by rfl, ?_⟩) ?_ ?_
        rotate_left
        ·intro w'
         go_simp
         with_reducible rfl
        rotate_left
        ·simp only [Act.put, List.setIfInBounds_toArray, List.set_cons_zero, List.set_cons_succ, i64_w, i32_w]
         rfl
        refine pure_ (i := 6) (N := some 35) (v := ?_) (a' := ?_) #[true, true, true, false, false, true, true, false, false, false] rfl rfl (any_of HT_.out (by kernel_rfl)) (fun _ _ _ h => h) (Or.inl ⟨by rfl, ?_⟩) ?_ ?_
        rotate_left
        ·intro w'
         go_simp
         with_reducible rfl
        rotate_left
        ·simp only [Act.put, List.setIfInBounds_toArray, List.set_cons_zero, List.set_cons_succ, i64_w, i32_w]
         rfl
        refine take_ (i := 3) (N := some 32) (v := ?_) (a' := ?_) #[true, true, true, true, false, true, true, false, false, false] rfl rfl (take_ofW HT_.out HW_.out (by kernel_rfl)) (fun _ _ _ h => h) (Or.inl ⟨by rfl, ?_⟩) hHeld ?_ ?_
        rotate_left
        ·rintro w' ⟨s0, s1⟩
         go_simp
         with_reducible rfl
        rotate_left
        ·simp only [Act.put, List.setIfInBounds_toArray, List.set_cons_zero, List.set_cons_succ, i64_w, i32_w]
         rfl
        refine pure_ (i := 4) (N := some 33) (v := ?_) (a' := ?_) #[true, true, true, true, true, true, true, false, false, false] rfl rfl (any_of HT_.out (by kernel_rfl)) (fun _ _ _ h => h) (Or.inl ⟨by rfl, ?_⟩) ?_ ?_
        rotate_left
        ·intro w'
         go_simp
         with_reducible rfl
        rotate_left
        ·simp only [Act.put, List.setIfInBounds_toArray, List.set_cons_zero, List.set_cons_succ, i64_w, i32_w]
         rfl
        refine take_ (i := 7) (N := some 36) (v := ?_) (a' := ?_) #[true, true, true, true, true, true, true, true, false, false] rfl rfl (take_ofW HT_.out HW_.out (by kernel_rfl)) (fun _ _ _ h => h) (Or.inl ⟨by rfl, ?_⟩) hHeld ?_ ?_
        rotate_left
        ·rintro w' ⟨s0, s1⟩
         go_simp
         with_reducible rfl
        rotate_left
        ·simp only [Act.put, List.setIfInBounds_toArray, List.set_cons_zero, List.set_cons_succ, i64_w, i32_w]
         rfl
        refine pure_ (i := 8) (N := some 37) (v := ?_) (a' := ?_) #[true, true, true, true, true, true, true, true, true, false] rfl rfl (any_of HT_.out (by kernel_rfl)) (fun _ _ _ h => h) (Or.inl ⟨by rfl, ?_⟩) ?_ ?_
        rotate_left
        ·intro w'
         go_simp
         with_reducible rfl
        rotate_left
        ·simp only [Act.put, List.setIfInBounds_toArray, List.set_cons_zero, List.set_cons_succ, i64_w, i32_w]
         rfl
        refine pure_ (i := 9) (N := some 38) (v := ?_) (a' := ?_) #[true, true, true, true, true, true, true, true, true, true] rfl rfl (any_of HT_.out (by kernel_rfl)) (fun _ _ _ h => h) (Or.inl ⟨by rfl, ?_⟩) ?_ ?_
        rotate_left
        ·intro w'
         go_simp
         with_reducible rfl
        rotate_left
        ·simp only [Act.put, List.setIfInBounds_toArray, List.set_cons_zero, List.set_cons_succ, i64_w, i32_w]
         rfl
        refine done_ (done_of HT_.out (by kernel_rfl)) ?_
        try go_wp2
        have n0_ := Aside0.mk (Kd.R_drew HO_0.out)
        have n1_ := Aside0.mk (Kd.R_drew HO_222000.out)
        have n2_ := Aside0.mk (Kd.R_drew HL225_0.out)
        have n3_ := Aside0.mk (Kd.R_drew HL226_0.out)
        have n4_ := Aside0.mk (blk_drew BK217.out)
        have n5_ := Aside0.mk (blk_drew BK221.out)
        have n6_ := Aside0.mk (Kd.C_drew HR225_0.out)
        have n7_ := Aside0.mk (Kd.C_drew HR226_0.out)
        have n8_ := Aside0.mk (below_drew1 HB.out)
        clear HO_0 HO_222000 HL225_0 HL226_0 BK217 BK221 HR225_0 HR226_0 HB
        have HO_0 := n0_
        have HO_222000 := n1_
        have HL225_0 := n2_
        have HL226_0 := n3_
        have BK217 := n4_
        have BK221 := n5_
        have HR225_0 := n6_
        have HR226_0 := n7_
        have HB := n8_
        clear n0_ n1_ n2_ n3_ n4_ n5_ n6_ n7_ n8_
        have p227 : 0 ≤ (x5_2 : Int) := of_decide_eq_true (by first | (with_reducible assumption) | assumption)
        have q227 : x5_2 < (t218.length : Int) := of_decide_eq_true (by first | (with_reducible assumption) | assumption)
        obtain ⟨ad227, A227_0, c227_0, e227, hx227_0, hl227_0, hi227_0⟩ := at_L3 (Kd.R_reads' HO_0.out).2.2 x5_2 p227 q227
        obtain rfl : ad225 = ad227 := (by injection e227)
        obtain ⟨ce227, hce227, hMe227, hcc227⟩ := Kd.R_get HO_0.out [] x5_2 p227 (by first | exact q227 | exact of_decide_eq_true (by first | (with_reducible assumption) | assumption) | (have e_ := (Kd.R_reads' HO_0.out).1; omega))
        obtain ⟨ve227_0, rfl, ge227_0⟩ := hMe227
        have hv227_0 := hcc227 0 _ rfl
        rw [Nat.add_zero, show ((Kd.slice 4 Kd.bool)).sz = 1 from rfl, Nat.mul_one] at hv227_0
        replace hv227_0 := Option.some.inj (hv227_0.symm.trans hx227_0)
        rw [hv227_0] at ge227_0
        have HL227_0 := Aside0.mk (show Kd.R Kd.bool 4 _ _ _ _ (rd_L3 t218 x5_2) from ge227_0)
        clear hv227_0 ge227_0 hcc227 hce227
        have HR227_0 := Aside0.mk hi227_0
        have HC227_0 := Aside0.mk hl227_0
        clear hi227_0 hl227_0
        replace p227 := eq_true p227
        replace q227 := eq_true q227
        refine start_ (n := 11) (S := fun w' => w'.cell? ⟨gb221, 0, none⟩ = some (u222000) ∧ w'.cell? ⟨gb221, 1, none⟩ = some (.slice none 0 0) ∧ w'.cell? (ad225.add (x5_2).toNat) = some (.slice A227_0 (rd_L3 t218 x5_2).length c227_0)) (ds := [8, 10]) #[false, false, false, false, false, false, false, false, false, false, false] (by kernel_rfl) rfl rfl ⟨(blk_cell BK221.out 0).trans rfl, (blk_cell BK221.out 1).trans rfl, hx227_0⟩ (fun hHeld => ?_); refine with_tabW spec_PictureOf.tab10 spec_PictureOf.bits10 (fun HT_ HW_ => ?_)
        generalize w26.drew = w27 at HO_0 HO_222000 HL225_0 HL226_0 BK217 BK221 HR225_0 HR226_0 HB HL227_0 HR227_0 hx227_0 hHeld ⊢
        refine pure_ (i := 0) (N := some 40) (v := ?_) (a' := ?_) #[true, false, false, false, false, false, false, false, false, false, false] rfl rfl (any_of HT_.out (by kernel_rfl)) (fun _ _ _ h => h) (Or.inl ⟨by rfl, ?_⟩) ?_ ?_
        rotate_left
        ·intro w'
         go_simp
         with_reducible rfl
        rotate_left
        ·simp only [Act.put, List.setIfInBounds_toArray, List.set_cons_zero, List.set_cons_succ, i64_w, i32_w]
         rfl
        refine pure_ (i := 2) (N := some 42) (v := ?_) (a' := ?_) #[true, false, true, false, false, false, false, false, false, false, false] rfl rfl (any_of HT_.out (by kernel_rfl)) (fun _ _ _ h => h) (Or.inl ⟨by rfl, ?_⟩) ?_ ?_
        rotate_left
        ·intro w'
         go_simp
         with_reducible rfl
        rotate_left
        ·simp only [Act.put, List.setIfInBounds_toArray, List.set_cons_zero, List.set_cons_succ, i64_w, i32_w]
         rfl
        refine pure_ (i := 3) (N := some 43) (v := ?_) (a' := ?_) #[true, false, true, true, false, false, false, false, false, false, false] rfl rfl (any_of HT_.out (by kernel_rfl)) (fun _ _ _ h => h) (Or.inl ⟨by rfl, ?_⟩) ?_ ?_
        rotate_left
        ·intro w'
         go_simp
         with_reducible rfl
        rotate_left
        ·simp only [Act.put, List.setIfInBounds_toArray, List.set_cons_zero, List.set_cons_succ, i64_w, i32_w]
         rfl
        refine pure_ (i := 4) (N := some 44) (v := ?_) (a' := ?_) #[true, false, true, true, true, false, false, false, false, false, false] rfl rfl (any_of HT_.out (by kernel_rfl)) (fun _ _ _ h => h) (Or.inl ⟨by rfl, ?_⟩) ?_ ?_
        rotate_left
        ·intro w'
         go_simp
         with_reducible rfl
        rotate_left
        ·simp only [Act.put, List.setIfInBounds_toArray, List.set_cons_zero, List.set_cons_succ, i64_w, i32_w]
         rfl
        refine take_ (i := 1) (N := some 41) (v := ?_) (a' := ?_) #[true, true, true, true, true, false, false, false, false, false, false] rfl rfl (take_ofW HT_.out HW_.out (by kernel_rfl)) (fun _ _ _ h => h) (Or.inl ⟨by rfl, ?_⟩) hHeld ?_ ?_
        rotate_left
        ·rintro w' ⟨s0, s1, s2⟩
         go_simp
         with_reducible rfl
        rotate_left
        ·simp only [Act.put, List.setIfInBounds_toArray, List.set_cons_zero, List.set_cons_succ, i64_w, i32_w]
         rfl
        refine take_ (i := 5) (N := some 45) (v := ?_) (a' := ?_) #[true, true, true, true, true, true, false, false, false, false, false] rfl rfl (take_ofW HT_.out HW_.out (by kernel_rfl)) (fun _ _ _ h => h) (Or.inl ⟨by rfl, ?_⟩) hHeld ?_ ?_
        rotate_left
        ·rintro w' ⟨s0, s1, s2⟩
         go_simp
         with_reducible rfl
        rotate_left
        ·simp only [Act.put, List.setIfInBounds_toArray, List.set_cons_zero, List.set_cons_succ, i64_w, i32_w]
         rfl
        refine one_ (i := 6) (N := some 46) #[true, true, true, true, true, true, true, false, false, false, false] rfl rfl (one_of HT_.out (by kernel_rfl)) (by decide) (fun K hK => ?_)
        refine goes_ Try.func62 (by kernel_rfl) rfl #[.slice A227_0 (rd_L3 t218 x5_2).length c227_0] (by rfl) rfl rfl (by (try simp only [List.map_toArray, List.map_cons, List.map_nil]); first | done | rfl | (simp only [List.length_drop, List.length_take]; rfl)) ?_
        with_reducible refine (spec_ClueOf.calls k2 _ _ (rd_L3 t218 x5_2) t228 _ ?side1 ?side2 A23.out).mono ?_
        (case side1 => repeat (first | exact (by repeat (first | (with_reducible exact HR227_0.out) | (with_reducible refine Kd.C_alloc ?_ _) | (with_reducible refine Kd.C_drewN ?_ _) | (with_reducible refine Kd.C_drew ?_) | exact HR227_0.out)) | (with_reducible refine Kd.C_alloc ?_ _) | (with_reducible refine Kd.C_drewN ?_ _) | (with_reducible refine Kd.C_drew ?_)))
        (case side2 => exact HC227_0.out)
        rintro e w28 ⟨v229, rfl, ho0, hb⟩
        have HS2_ := (hb.cell (World.block_lt_of_cell? _ _ (hHeld.2.2))).trans (hHeld.2.2)
        refine ⟨_, rfl, ?_⟩
        have n0_ := Aside0.mk (Kd.R_below (Kd.rv HO_0.out) hb)
        have n1_ := Aside0.mk (Kd.R_elder' (Kd.rv HO_222000.out) (Kd.R_base ho0) hb)
        have n2_ := Aside0.mk (Kd.R_below (Kd.rv HL225_0.out) hb)
        have n3_ := Aside0.mk (Kd.R_below (Kd.rv HL226_0.out) hb)
        have n4_ := Aside0.mk (Kd.R_below (Kd.rv HL227_0.out) hb)
        have n5_ := Aside0.mk (Kd.R_lower ho0 (below_size (by repeat (first | (with_reducible first | exact HB.out | apply below_alloc | apply pw_below_drewN | apply below_drew1 | refine below_set ?_ GE217.out | refine below_set ?_ GE221.out) | exact HB.out))))
        have n6_ := Aside0.mk (blk_below (g := gb217) (o := .cells #[.slice none 0 0, .slice none 0 0] 25 (0, 0)) (bv BK217.out) hb)
        have n7_ := Aside0.mk (blk_below (g := gb221) (o := .cells #[u222000, .slice none 0 0] 25 (0, 0)) (bv BK221.out) hb)
        have n8_ := Aside0.mk (Kd.C_below (by repeat (first | (with_reducible exact HR225_0.out) | (with_reducible refine Kd.C_alloc ?_ _) | (with_reducible refine Kd.C_drewN ?_ _) | (with_reducible refine Kd.C_drew ?_) | exact HR225_0.out)) hb)
        have n9_ := Aside0.mk (Kd.C_below (by repeat (first | (with_reducible exact HR226_0.out) | (with_reducible refine Kd.C_alloc ?_ _) | (with_reducible refine Kd.C_drewN ?_ _) | (with_reducible refine Kd.C_drew ?_) | exact HR226_0.out)) hb)
        have n10_ := Aside0.mk (Kd.C_below (by repeat (first | (with_reducible exact HR227_0.out) | (with_reducible refine Kd.C_alloc ?_ _) | (with_reducible refine Kd.C_drewN ?_ _) | (with_reducible refine Kd.C_drew ?_) | exact HR227_0.out)) hb)
        have n11_ := Aside0.mk (below_step (by repeat (first | (with_reducible first | exact HB.out | apply below_alloc | apply pw_below_drewN | apply below_drew1 | refine below_set ?_ GE217.out | refine below_set ?_ GE221.out) | exact HB.out)) hb)
        clear HO_0 HO_222000 HL225_0 HL226_0 HL227_0 BK217 BK221 HR225_0 HR226_0 HR227_0 HB
        have HO_0 := n0_
        have HO_222000 := n1_
        have HL225_0 := n2_
        have HL226_0 := n3_
        have HL227_0 := n4_
        have HO230 := n5_
        have BK217 := n6_
        have BK221 := n7_
        have HR225_0 := n8_
        have HR226_0 := n9_
        have HR227_0 := n10_
        have HB := n11_
        clear n0_ n1_ n2_ n3_ n4_ n5_ n6_ n7_ n8_ n9_ n10_ n11_
        (try clear hb)
        (try clear hb2)
        (try clear hk)
        (try clear hi)
        (try clear ho0)
        obtain ⟨Ao30, co30, eo30⟩ := Kd.R_slice HO230.out
        (first | subst eo30 | (injection eo30 with f1_ f2_ f3_; have f4_ := f1_.symm; have f5_ := f3_.symm; clear f1_ f2_ f3_; subst f4_; subst f5_))
        refine hK.out _ _ ⟨(blk_cell BK221.out 0).trans rfl, (blk_cell BK221.out 1).trans rfl, HS2_⟩ (fun hHeld => ?_)
        clear hK K
        refine norm_ (a' := ?_) ?_ ?_
        rotate_left
        ·show Act.put _ (some 46) _ = _
         simp only [Act.put, List.setIfInBounds_toArray, List.set_cons_zero, List.set_cons_succ, i64_w, i32_w]
         rfl
        refine one_ (i := 7) (N := some 47) #[true, true, true, true, true, true, true, true, false, false, false] rfl rfl (one_of HT_.out (by kernel_rfl)) (by decide) (fun K hK => ?_)
        refine value_ (w1 := ?_) (v := ?_) (by rfl) rfl ?_ ?_
        rotate_left 2
        ·go_simp
         constructor
         ·rfl
         ·rfl
        refine hK.out _ _ ⟨(blk_cell (blk_alloc BK221.out _) 0).trans rfl, (blk_cell (blk_alloc BK221.out _) 1).trans rfl, (World.cell?_alloc_lt _ _ _ (World.block_lt_of_cell? _ _ (hHeld.2.2))).trans (hHeld.2.2)⟩ (fun hHeld => ?_)
        clear hK K
        refine norm_ (a' := ?_) ?_ ?_
        rotate_left
        ·show Act.put _ (some 47) _ = _
         simp only [Act.put, List.setIfInBounds_toArray, List.set_cons_zero, List.set_cons_succ, i64_w, i32_w]
         rfl
        refine last_ (i := 8) (N := some 48) #[true, true, true, true, true, true, true, true, true, false, false] rfl rfl (one_of HT_.out (by kernel_rfl)) (by decide) (fun K hK => ?_)
        refine Kd.R_append_step (Kd.slice 3 (Kd.int .i64)) (w0 := w) w.heap.size (by rfl) (.tmp 41) (.tmp 47) 23 36 (.slice none 0 0) 24 rfl Try.underlying23 info36 rfl (by decide) (by omega) u222000 x222000_2 t228 [.slice Ao30 t228.length co30] (fun _ => True) (fun k_ => ((fun _ => True)) k_ ∧ some k_ ≠ (u222000 : Value).ownBlock) rfl rfl ?aP (fun _ hk => hk) ?aF ?aO ?aB ?aS ?aL ?_
        (case aP => exact Kd.M_row (Kd.R_mono (Kd.R_apart' (HO230.out) (Kd.R_typed HO_222000.out) (by decide)) (fun k_ hk => ⟨trivial, hk.2⟩)))
        (case aB => exact (by repeat (first | (with_reducible first | exact HB.out | apply below_alloc | apply pw_below_drewN | apply below_drew1 | refine below_set ?_ GE217.out | refine below_set ?_ GE221.out) | exact HB.out)))
        (case aF => exact (fun _ _ => trivial))
        (case aO => exact (by (with_reducible repeat (first | apply Kd.R_alloc | apply Kd.R_drewN | apply Kd.R_drew)); exact Kd.R_mono HO_222000.out (fun _ hk => trivial)))
        (case aS => exact (below_size (by repeat (first | (with_reducible first | exact HB.out | apply below_alloc | apply pw_below_drewN | apply below_drew1 | refine below_set ?_ GE217.out | refine below_set ?_ GE221.out) | exact HB.out))))
        (case aL => have := LMc24.out; omega)
        intro v232 w29 ho hb hg hat
        rw [← Ny231.out] at ho
        have n0_ := Aside0.mk (Kd.R_over' (Kd.rv HO_0.out) (Kd.R_typed (Kd.rv HO_222000.out)) (by decide) hg)
        have n1_ := Aside0.mk (blk_grown (g := gb217) (o := .cells #[.slice none 0 0, .slice none 0 0] 25 (0, 0)) (bv BK217.out) hg (Kd.R_ne HO_222000.out BK217.out (by decide)))
        have n2_ := Aside0.mk (blk_grown (g := gb221) (o := .cells #[u222000, .slice none 0 0] 25 (0, 0)) (bv BK221.out) hg (Kd.R_ne HO_222000.out BK221.out (by decide)))
        have n3_ := Aside0.mk (Kd.R_over' (Kd.rv HL225_0.out) (Kd.R_typed (Kd.rv HO_222000.out)) (by decide) hg)
        have n4_ := Aside0.mk (Kd.R_over' (Kd.rv HL226_0.out) (Kd.R_typed (Kd.rv HO_222000.out)) (by decide) hg)
        have n5_ := Aside0.mk (Kd.R_over' (Kd.rv HL227_0.out) (Kd.R_typed (Kd.rv HO_222000.out)) (by decide) hg)
        have n6_ := Aside0.mk (hb)
        have n7_ := Aside0.mk (ho)
        clear HO_0 BK217 BK221 HL225_0 HL226_0 HL227_0 HB HO_222000 HO230
        have HO_0 := n0_
        have BK217 := n1_
        have BK221 := n2_
        have HL225_0 := n3_
        have HL226_0 := n4_
        have HL227_0 := n5_
        have HB := n6_
        have HO233 := n7_
        clear n0_ n1_ n2_ n3_ n4_ n5_ n6_ n7_ ho hb hg hat
        obtain ⟨Ao31, co31, eo31⟩ := Kd.R_slice HO233.out
        (first | subst eo31 | (injection eo31 with f1_ f2_ f3_; have f4_ := f1_.symm; have f5_ := f3_.symm; clear f1_ f2_ f3_; subst f4_; subst f5_))
        refine hK.out _ _ ?_
        clear hK K
        refine norm_ (a' := ?_) ?_ ?_
        rotate_left
        ·show Act.put _ (some 48) _ = _
         simp only [Act.put, List.setIfInBounds_toArray, List.set_cons_zero, List.set_cons_succ, i64_w, i32_w]
         rfl
        refine pure_ (i := 9) (N := some 49) (v := ?_) (a' := ?_) #[true, true, true, true, true, true, true, true, true, true, false] rfl rfl (any_of HT_.out (by kernel_rfl)) (fun _ _ _ h => h) (Or.inl ⟨by rfl, ?_⟩) ?_ ?_
        rotate_left
        ·intro w'
         go_simp
         with_reducible rfl
        rotate_left
        ·simp only [Act.put, List.setIfInBounds_toArray, List.set_cons_zero, List.set_cons_succ, i64_w, i32_w]
         rfl
        refine last_ (i := 10) (N := none) #[true, true, true, true, true, true, true, true, true, true, true] rfl rfl (one_of HT_.out (by kernel_rfl)) (by decide) (fun K hK => ?_)
        have hs32 : w29.cell? ⟨gb221, 0, none⟩ = some (u222000) := (blk_cell BK221.out 0).trans rfl
        have hfs32 := blk_frozen BK221.out 0
        have hns32_0 := NB217_221.out
        have hms32_0 := NB221_217.out
        refine skip_ (w1 := ?_) (by rfl) rfl ?_ ?_
        rotate_left
        ·go_simp
         rfl
        refine hK.out _ _ ?_
        clear hK K
        refine done_ (done_of HT_.out (by kernel_rfl)) ?_
        try go_wp2
        go_roundg k2
        case measure => have := HJ2.out; have := HK2.out; omega
        case rel => exact ⟨(wrap64 (x5_2 + 1)), (y231), (.slice Ao31 y231.length co31), (by first | rfl | (simp; done) | (simp [*]; done)), H', ⟨by have := HJ2.out; have := HK2.out; omega⟩, ⟨by (with_reducible repeat (first | apply Kd.R_alloc | apply Kd.R_drewN | apply Kd.R_drew)); exact Kd.R_mono (Kd.R_far (p := ⟨gb221, 0, none⟩) (Kd.R_types HO_0.out BK221.out (by decide)) (fun _ hk => hk.2) (.slice Ao31 y231.length co31)) (fun _ hk => trivial)⟩, ⟨by (with_reducible repeat (first | apply Kd.R_alloc | apply Kd.R_drewN | apply Kd.R_drew)); exact Kd.R_mono (Kd.R_far (p := ⟨gb221, 0, none⟩) (Kd.R_types HO233.out BK221.out (by decide)) (fun _ hk => hk.2) (.slice Ao31 y231.length co31)) (fun _ hk => trivial)⟩, ⟨by (with_reducible repeat (first | refine blk_drewN ?_ _ | refine blk_drew ?_ | refine blk_alloc ?_ _)); refine blk_far ?_ NB217_221.out _; (with_reducible repeat (first | refine blk_drewN ?_ _ | refine blk_drew ?_ | refine blk_alloc ?_ _)); exact BK217.out⟩, ⟨by (with_reducible repeat (first | refine blk_drewN ?_ _ | refine blk_drew ?_ | refine blk_alloc ?_ _)); refine blk_put (cs := #[u222000, .slice none 0 0]) ?_ 0 _ rfl; (with_reducible repeat (first | refine blk_drewN ?_ _ | refine blk_drew ?_ | refine blk_alloc ?_ _)); exact BK221.out⟩, ⟨by repeat (first | (with_reducible first | exact HB.out | apply below_alloc | apply pw_below_drewN | apply below_drew1 | refine below_set ?_ GE217.out | refine below_set ?_ GE221.out) | exact HB.out)⟩⟩
       ·rw [if_neg c22] at H
        have c22b0 : (((rd_L3 t218 x5_2).length : Int) == ((rd_L3 t218 0).length : Int)) = false := beq_eq_false_iff_ne.mpr c22
        have c22b1 : (((rd_L3 t218 x5_2).length : Int) != ((rd_L3 t218 0).length : Int)) = true := bne_iff_ne.mpr c22
        have c22b2 : ((rd_L3 t218 x5_2).length == (rd_L3 t218 0).length) = false := by first | simpa using c22 | (simp at c22 ⊢; omega)
        simp only [Option.some.injEq, Prod.mk.injEq] at H
        obtain ⟨rfl, rfl, rfl⟩ := H
        obtain ⟨Ao33, co33, eo33⟩ := Kd.R_slice HO_0.out
        subst eo33
        try go_wp2
        have n0_ := Aside0.mk (Kd.R_drew HO_0.out)
        have n1_ := Aside0.mk (Kd.R_drew HO_222000.out)
        have n2_ := Aside0.mk (blk_drew BK217.out)
        have n3_ := Aside0.mk (blk_drew BK221.out)
        have n4_ := Aside0.mk (below_drew1 HB.out)
        clear HO_0 HO_222000 BK217 BK221 HB
        have HO_0 := n0_
        have HO_222000 := n1_
        have BK217 := n2_
        have BK221 := n3_
        have HB := n4_
        clear n0_ n1_ n2_ n3_ n4_
        have p225 : 0 ≤ (x5_2 : Int) := of_decide_eq_true (by first | (with_reducible assumption) | assumption)
        have q225 : x5_2 < (t218.length : Int) := of_decide_eq_true (by first | (with_reducible assumption) | assumption)
        obtain ⟨ad225, A225_0, c225_0, e225, hx225_0, hl225_0, hi225_0⟩ := at_L3 (Kd.R_reads' HO_0.out).2.2 x5_2 p225 q225
        cases e225
        obtain ⟨ce225, hce225, hMe225, hcc225⟩ := Kd.R_get HO_0.out [] x5_2 p225 (by first | exact q225 | exact of_decide_eq_true (by first | (with_reducible assumption) | assumption) | (have e_ := (Kd.R_reads' HO_0.out).1; omega))
        obtain ⟨ve225_0, rfl, ge225_0⟩ := hMe225
        have hv225_0 := hcc225 0 _ rfl
        rw [Nat.add_zero, show ((Kd.slice 4 Kd.bool)).sz = 1 from rfl, Nat.mul_one] at hv225_0
        replace hv225_0 := Option.some.inj (hv225_0.symm.trans hx225_0)
        rw [hv225_0] at ge225_0
        have HL225_0 := Aside0.mk (show Kd.R Kd.bool 4 _ _ _ _ (rd_L3 t218 x5_2) from ge225_0)
        clear hv225_0 ge225_0 hcc225 hce225
        have HR225_0 := Aside0.mk hi225_0
        have HC225_0 := Aside0.mk hl225_0
        clear hi225_0 hl225_0
        replace p225 := eq_true p225
        replace q225 := eq_true q225
        have p226 : 0 ≤ (0 : Int) := (by omega)
        have q226 : 0 < (t218.length : Int) := of_decide_eq_true (by first | (with_reducible assumption) | assumption)
        obtain ⟨ad226, A226_0, c226_0, e226, hx226_0, hl226_0, hi226_0⟩ := at_L3 (Kd.R_reads' HO_0.out).2.2 0 p226 q226
        obtain rfl : ad225 = ad226 := (by injection e226)
        obtain ⟨ce226, hce226, hMe226, hcc226⟩ := Kd.R_get HO_0.out [] 0 p226 (by first | exact q226 | exact of_decide_eq_true (by first | (with_reducible assumption) | assumption) | (have e_ := (Kd.R_reads' HO_0.out).1; omega))
        obtain ⟨ve226_0, rfl, ge226_0⟩ := hMe226
        have hv226_0 := hcc226 0 _ rfl
        rw [Nat.add_zero, show ((Kd.slice 4 Kd.bool)).sz = 1 from rfl, Nat.mul_one] at hv226_0
        replace hv226_0 := Option.some.inj (hv226_0.symm.trans hx226_0)
        rw [hv226_0] at ge226_0
        have HL226_0 := Aside0.mk (show Kd.R Kd.bool 4 _ _ _ _ (rd_L3 t218 0) from ge226_0)
        clear hv226_0 ge226_0 hcc226 hce226
        have qi226 : (0 < t218.length) = True := eq_true (by omega)
        (try rw [show ((0 : Int)).toNat = 0 from rfl] at hx226_0)
        (try rw [Addr.add_zero'] at hx226_0)
        have HR226_0 := Aside0.mk hi226_0
        have HC226_0 := Aside0.mk hl226_0
        clear hi226_0 hl226_0
        replace p226 := eq_true p226
        replace q226 := eq_true q226
        refine start_ (n := 10) (S := fun w' => w'.cell? (ad225.add (x5_2).toNat) = some (.slice A225_0 (rd_L3 t218 x5_2).length c225_0) ∧ w'.cell? ad225 = some (.slice A226_0 (rd_L3 t218 0).length c226_0)) (ds := []) #[false, false, false, false, false, false, false, false, false, false] (by kernel_rfl) rfl rfl ⟨hx225_0, hx226_0⟩ (fun hHeld => ?_); refine with_tabW spec_PictureOf.tab8 spec_PictureOf.bits8 (fun HT_ HW_ => ?_)
        generalize wr.drew = w34 at HO_0 HO_222000 BK217 BK221 HB HL225_0 HL226_0 HR225_0 HR226_0 hx225_0 hx226_0 hHeld ⊢
        refine pure_ (i := 0) (N := some 29) (v := ?_) (a' := ?_) #[true, false, false, false, false, false, false, false, false, false] rfl rfl (any_of HT_.out (by kernel_rfl)) (fun _ _ _ h => h) (Or.inl ⟨by rfl, ?_⟩) ?_ ?_
        rotate_left
        ·intro w'
         go_simp
         with_reducible rfl
        rotate_left
        ·simp only [Act.put, List.setIfInBounds_toArray, List.set_cons_zero, List.set_cons_succ, i64_w, i32_w]
         rfl
        refine pure_ (i := 1) (N := some 30) (v := ?_) (a' := ?_) #[true, true, false, false, false, false, false, false, false, false] rfl rfl (any_of HT_.out (by kernel_rfl)) (fun _ _ _ h => h) (Or.inl ⟨by rfl, ?_⟩) ?_ ?_
        rotate_left
        ·intro w'
         go_simp
         with_reducible rfl
        rotate_left
        ·simp only [Act.put, List.setIfInBounds_toArray, List.set_cons_zero, List.set_cons_succ, i64_w, i32_w]
         rfl
        refine pure_ (i := 2) (N := some 31) (v := ?_) (a' := ?_) #[true, true, true, false, false, false, false, false, false, false] rfl rfl (any_of HT_.out (by kernel_rfl)) (fun _ _ _ h => h) (Or.inl ⟨by rfl, ?_⟩) ?_ ?_
        rotate_left
        ·intro w'
         go_simp
         with_reducible rfl
        rotate_left
        ·simp only [Act.put, List.setIfInBounds_toArray, List.set_cons_zero, List.set_cons_succ, i64_w, i32_w]
         rfl
        refine pure_ (i := 5) (N := some 34) (v := ?_) (a' := ?_) #[true, true, true, false, false, true, false, false, false, false] rfl rfl (any_of HT_.out (by kernel_rfl)) (fun _ _ _ h => h) (Or.inl ⟨by rfl, ?_⟩) ?_ ?_
        rotate_left
        ·intro w'
         go_simp
         with_reducible rfl
        rotate_left
        ·simp only [Act.put, List.setIfInBounds_toArray, List.set_cons_zero, List.set_cons_succ, i64_w, i32_w]
         rfl
        refine pure_ (i := 6) (N := some 35) (v := ?_) (a' := ?_) #[true, true, true, false, false, true, true, false, false, false] rfl rfl (any_of HT_.out (by kernel_rfl)) (fun _ _ _ h => h) (Or.inl ⟨by rfl, ?_⟩) ?_ ?_
        rotate_left
        ·intro w'
         go_simp
         with_reducible rfl
        rotate_left
        ·simp only [Act.put, List.setIfInBounds_toArray, List.set_cons_zero, List.set_cons_succ, i64_w, i32_w]
         rfl
        refine take_ (i := 3) (N := some 32) (v := ?_) (a' := ?_) #[true, true, true, true, false, true, true, false, false, false] rfl rfl (take_ofW HT_.out HW_.out (by kernel_rfl)) (fun _ _ _ h => h) (Or.inl ⟨by rfl, ?_⟩) hHeld ?_ ?_
        rotate_left
        ·rintro w' ⟨s0, s1⟩
         go_simp
         with_reducible rfl
        rotate_left
        ·simp only [Act.put, List.setIfInBounds_toArray, List.set_cons_zero, List.set_cons_succ, i64_w, i32_w]
         rfl
        refine pure_ (i := 4) (N := some 33) (v := ?_) (a' := ?_) #[true, true, true, true, true, true, true, false, false, false] rfl rfl (any_of HT_.out (by kernel_rfl)) (fun _ _ _ h => h) (Or.inl ⟨by rfl, ?_⟩) ?_ ?_
        rotate_left
        ·intro w'
         go_simp
         with_reducible rfl
        rotate_left
        ·simp only [Act.put, List.setIfInBounds_toArray, List.set_cons_zero, List.set_cons_succ, i64_w, i32_w]
         rfl
        refine take_ (i := 7) (N := some 36) (v := ?_) (a' := ?_) #[true, true, true, true, true, true, true, true, false, false] rfl rfl (take_ofW HT_.out HW_.out (by kernel_rfl)) (fun _ _ _ h => h) (Or.inl ⟨by rfl, ?_⟩) hHeld ?_ ?_
        rotate_left
        ·rintro w' ⟨s0, s1⟩
         go_simp
         with_reducible rfl
        rotate_left
        ·simp only [Act.put, List.setIfInBounds_toArray, List.set_cons_zero, List.set_cons_succ, i64_w, i32_w]
         rfl
        refine pure_ (i := 8) (N := some 37) (v := ?_) (a' := ?_) #[true, true, true, true, true, true, true, true, true, false] rfl rfl (any_of HT_.out (by kernel_rfl)) (fun _ _ _ h => h) (Or.inl ⟨by rfl, ?_⟩) ?_ ?_
        rotate_left
        ·intro w'
         go_simp
         with_reducible rfl
        rotate_left
        ·simp only [Act.put, List.setIfInBounds_toArray, List.set_cons_zero, List.set_cons_succ, i64_w, i32_w]
         rfl
        refine pure_ (i := 9) (N := some 38) (v := ?_) (a' := ?_) #[true, true, true, true, true, true, true, true, true, true] rfl rfl (any_of HT_.out (by kernel_rfl)) (fun _ _ _ h => h) (Or.inl ⟨by rfl, ?_⟩) ?_ ?_
        rotate_left
        ·intro w'
         go_simp
         with_reducible rfl
        rotate_left
        ·simp only [Act.put, List.setIfInBounds_toArray, List.set_cons_zero, List.set_cons_succ, i64_w, i32_w]
         rfl
        refine done_ (done_of HT_.out (by kernel_rfl)) ?_
        have hnb35 := NB217_221.out
        have hnc35 := NB221_217.out
        have hcz36_0 : w34.cell? ⟨gb217, 0, none⟩ = some (.slice none 0 0) := (blk_cell BK217.out 0).trans rfl
        have hcz36_1 : w34.cell? ⟨gb217, 1, none⟩ = some (.slice none 0 0) := (blk_cell BK217.out 1).trans rfl
        have hfz36_0 := blk_frozen BK217.out 0
        have hfz36_1 := blk_frozen BK217.out 1
        try go_wp2
        refine bodyPost_ret (results_ct rfl _ _ gb217 25 #[.slice none 0 0, .slice none 0 0] (0, 0) _ rfl (by (with_reducible repeat (first | refine blk_drewN ?_ _ | refine blk_drew ?_ | refine blk_alloc ?_ _)); refine blk_put (cs := #[.slice none 0 0, .slice none 0 0]) ?_ 1 _ rfl; (with_reducible repeat (first | refine blk_drewN ?_ _ | refine blk_drew ?_ | refine blk_alloc ?_ _)); refine blk_put (cs := #[.slice none 0 0, .slice none 0 0]) ?_ 0 _ rfl; (with_reducible repeat (first | refine blk_drewN ?_ _ | refine blk_drew ?_ | refine blk_alloc ?_ _)); exact BK217.out) Try.underlying25 rfl (by kernel_rfl)) rfl ?_
        exact ⟨_, _, by first | rfl | (simp [errW_none, errW_some] <;> rfl) | (simp [*, errW_none, errW_some] <;> rfl), by first | exact Kd.R_nil _ _ _ _ _ | exact Kd.N_nil _ _ _ _ _ | exact Kd.V_nil _ _ _ _ _ | exact Kd.Q_nil _ _ _ _ _ | exact Kd.S_nil _ _ _ _ _, by first | exact Kd.R_nil _ _ _ _ _ | exact Kd.N_nil _ _ _ _ _ | exact Kd.V_nil _ _ _ _ _ | exact Kd.Q_nil _ _ _ _ _ | exact Kd.S_nil _ _ _ _ _, by repeat (first | (with_reducible first | exact HB.out | apply below_alloc | apply pw_below_drewN | apply below_drew1 | refine below_set ?_ GE217.out | refine below_set ?_ GE221.out) | exact HB.out)⟩
      ·rw [if_neg c19] at H
       have c19b0 : decide (x5_2 < (t218.length : Int)) = false := decide_eq_false c19
       clear c19
       have H' := Aside0.mk H
       clear H
       obtain ⟨Ao37, co37, eo37⟩ := Kd.R_slice HO_0.out
       subst eo37
       go_wp2
       go_loopg [6] k2 (fun kq v6 w' => ∃ (x6_3 : Int) (x222001_3 : List (List Int)) (u222001 : Value), v6 = .int .i64 x6_3 ∧ Aside0 (spec_PictureOf.l1 kq t218 x6_3 x222000_2 x222001_3 = some (r1, r2, r3)) ∧ Aside0 (kq ≤ k2) ∧ Aside0 (Kd.R (Kd.slice 4 Kd.bool) 37 w' w.heap.size (fun _ => True) (.slice Ao37 t218.length co37) t218) ∧ Aside0 (Kd.R (Kd.slice 3 (Kd.int .i64)) 36 w' w.heap.size (fun k_ => some k_ ≠ (u222001 : Value).ownBlock) u222000 x222000_2) ∧ Aside0 (Kd.R (Kd.slice 3 (Kd.int .i64)) 36 w' w.heap.size (fun k_ => some k_ ≠ (u222000 : Value).ownBlock) u222001 x222001_3) ∧ Aside0 (w'.heap[gb217]? = some (.cells #[(.slice none 0 0), (.slice none 0 0)] 25 (0, 0))) ∧ Aside0 (w'.heap[gb221]? = some (.cells #[u222000, u222001] 25 (0, 0))) ∧ Aside0 (Below w.heap.size w w'))
       case atStart => exact ⟨(0), (([] : List (List Int))), (.slice none 0 0), (by first | rfl | (simp; done) | (simp [*]; done)), H', ⟨Nat.le_refl _⟩, ⟨Kd.rv HO_0.out⟩, ⟨by (with_reducible repeat (first | apply Kd.R_alloc | apply Kd.R_drewN | apply Kd.R_drew)); exact Kd.R_mono HO_222000.out (fun _ hk => (by simp [Value.ownBlock]))⟩, ⟨by first | exact Kd.R_nil _ _ _ _ _ | exact Kd.N_nil _ _ _ _ _ | exact Kd.V_nil _ _ _ _ _ | exact Kd.Q_nil _ _ _ _ _ | exact Kd.S_nil _ _ _ _ _⟩, ⟨bv BK217.out⟩, ⟨bv BK221.out⟩, ⟨by repeat (first | (with_reducible first | exact HB.out | apply below_alloc | apply pw_below_drewN | apply below_drew1 | refine below_set ?_ GE217.out | refine below_set ?_ GE221.out) | exact HB.out)⟩⟩
       case round =>
        clear H'
        try clear c1
        try clear c2
        try clear p2
        try clear q2
        try clear hx2
        try clear qi2
        try clear c3
        try clear c6
        try clear p6
        try clear c19
        try clear c19b0
        try clear c20
        try clear c20b0
        try clear c21
        try clear c21b0
        try clear c21b1
        try clear c22
        try clear c22b0
        try clear c22b1
        try clear c22b2
        try clear p22
        try clear q22
        try clear hx22
        try clear qi22
        try clear c24
        try clear c35
        try clear hcz36_0
        try clear hcz36_1
        try clear hfz36_0
        try clear hfz36_1
        try clear hx223_0
        try clear hx225_0
        try clear hx226_0
        try clear hx227_0
        try clear p2
        try clear p223
        try clear p225
        try clear p226
        try clear p227
        try clear q2
        try clear q223
        try clear q225
        try clear q226
        try clear q227
        obtain ⟨x6_3, x222001_3, u222001, rfl, HA, HK3, HO_0, HO_222000, HO_222001, BK217, BK221, HB⟩ := hrel
        cases gk with
        | zero => exact absurd HA.out (by simp [spec_PictureOf.l1])
        | succ k3 =>
         have H := HA.out
         clear HA
         simp only [spec_PictureOf.l1] at H
         have q_ := ifs H
         clear H
         obtain ⟨c38, H⟩ := q_
         have c38b0 : decide (0 < (t218.length : Int)) = true := decide_eq_true c38
         have c38b1 : decide (0 < t218.length) = true := decide_eq_true (by omega)
         clear c38
         by_cases c39 : x6_3 < ((rd_L3 t218 0).length : Int)
         ·rw [if_pos c39] at H
          have c39b0 : decide (x6_3 < ((rd_L3 t218 0).length : Int)) = true := decide_eq_true c39
          clear c39
          replace H := Option.bind_eq_some_iff.mp H
          obtain ⟨t235, A400, H⟩ := H
          replace H : ((spec_ClueOf.f k3 t235).bind fun t238 => (if x222001_3.length < 5864062014805 then (spec_PictureOf.l1 k3 t218 (wrap64 (x6_3 + 1)) x222000_2 (x222001_3 ++ [t238])) else (none))) = some (r1, r2, r3) := H
          have A40 := Aside0.mk A400
          clear A400
          replace H := Option.bind_eq_some_iff.mp H
          obtain ⟨t238, A410, H⟩ := H
          replace H : (if x222001_3.length < 5864062014805 then (spec_PictureOf.l1 k3 t218 (wrap64 (x6_3 + 1)) x222000_2 (x222001_3 ++ [t238])) else (none)) = some (r1, r2, r3) := H
          have A41 := Aside0.mk A410
          clear A410
          have q_ := ifs H
          clear H
          obtain ⟨c42, H⟩ := q_
          have LMc42 := Aside0.mk c42
          clear c42
          obtain ⟨y241, hy241⟩ : ∃ y_ : List (List Int), y_ = (x222001_3 ++ [t238]) := ⟨_, rfl⟩
          replace H : (spec_PictureOf.l1 k3 t218 (wrap64 (x6_3 + 1)) x222000_2 y241) = some (r1, r2, r3) := by first | (rw [hy241]; with_reducible exact H) | (have H2_ := (Option.bind_some _ _).symm.trans H; rw [hy241]; with_reducible exact H2_) | (have H2_ := (Option.bind_some _ _).symm.trans H; with_reducible exact H2_) | with_reducible exact H | (rw [hy241]; exact H) | exact H
          have Ny241 := Aside0.mk hy241
          clear hy241
          have H' := Aside0.mk H
          clear H
          have p234 : 0 ≤ (0 : Int) := (by omega)
          have q234 : 0 < (t218.length : Int) := of_decide_eq_true (by first | (with_reducible assumption) | assumption)
          obtain ⟨ad234, A234_0, c234_0, e234, hx234_0, hl234_0, hi234_0⟩ := at_L3 (Kd.R_reads' HO_0.out).2.2 0 p234 q234
          cases e234
          obtain ⟨ce234, hce234, hMe234, hcc234⟩ := Kd.R_get HO_0.out [] 0 p234 (by first | exact q234 | exact of_decide_eq_true (by first | (with_reducible assumption) | assumption) | (have e_ := (Kd.R_reads' HO_0.out).1; omega))
          obtain ⟨ve234_0, rfl, ge234_0⟩ := hMe234
          have hv234_0 := hcc234 0 _ rfl
          rw [Nat.add_zero, show ((Kd.slice 4 Kd.bool)).sz = 1 from rfl, Nat.mul_one] at hv234_0
          replace hv234_0 := Option.some.inj (hv234_0.symm.trans hx234_0)
          rw [hv234_0] at ge234_0
          have HL234_0 := Aside0.mk (show Kd.R Kd.bool 4 _ _ _ _ (rd_L3 t218 0) from ge234_0)
          clear hv234_0 ge234_0 hcc234 hce234
          have qi234 : (0 < t218.length) = True := eq_true (by omega)
          (try rw [show ((0 : Int)).toNat = 0 from rfl] at hx234_0)
          (try rw [Addr.add_zero'] at hx234_0)
          have HR234_0 := Aside0.mk hi234_0
          have HC234_0 := Aside0.mk hl234_0
          clear hi234_0 hl234_0
          replace p234 := eq_true p234
          replace q234 := eq_true q234
          try go_wp2
          have n0_ := Aside0.mk (Kd.R_drew HO_0.out)
          have n1_ := Aside0.mk (Kd.R_drew HO_222000.out)
          have n2_ := Aside0.mk (Kd.R_drew HO_222001.out)
          have n3_ := Aside0.mk (Kd.R_drew HL234_0.out)
          have n4_ := Aside0.mk (blk_drew BK217.out)
          have n5_ := Aside0.mk (blk_drew BK221.out)
          have n6_ := Aside0.mk (Kd.C_drew HR234_0.out)
          have n7_ := Aside0.mk (below_drew1 HB.out)
          clear HO_0 HO_222000 HO_222001 HL234_0 BK217 BK221 HR234_0 HB
          have HO_0 := n0_
          have HO_222000 := n1_
          have HO_222001 := n2_
          have HL234_0 := n3_
          have BK217 := n4_
          have BK221 := n5_
          have HR234_0 := n6_
          have HB := n7_
          clear n0_ n1_ n2_ n3_ n4_ n5_ n6_ n7_
          refine start_ (n := 10) (S := fun w' => w'.cell? ⟨gb221, 0, none⟩ = some (u222000) ∧ w'.cell? ⟨gb221, 1, none⟩ = some (u222001)) (ds := [9]) #[false, false, false, false, false, false, false, false, false, false] (by kernel_rfl) rfl rfl ⟨(blk_cell BK221.out 0).trans rfl, (blk_cell BK221.out 1).trans rfl⟩ (fun hHeld => ?_); refine with_tabW spec_PictureOf.tab14 spec_PictureOf.bits14 (fun HT_ HW_ => ?_)
          generalize wr.drew = w43 at HO_0 HO_222000 HO_222001 HL234_0 BK217 BK221 HR234_0 HB hHeld ⊢
          refine pure_ (i := 0) (N := some 58) (v := ?_) (a' := ?_) #[true, false, false, false, false, false, false, false, false, false] rfl rfl (any_of HT_.out (by kernel_rfl)) (fun _ _ _ h => h) (Or.inl ⟨by rfl, ?_⟩) ?_ ?_
          rotate_left
          ·intro w'
           go_simp
           with_reducible rfl
          rotate_left
          ·simp only [Act.put, List.setIfInBounds_toArray, List.set_cons_zero, List.set_cons_succ, i64_w, i32_w]
           rfl
          refine pure_ (i := 2) (N := some 60) (v := ?_) (a' := ?_) #[true, false, true, false, false, false, false, false, false, false] rfl rfl (any_of HT_.out (by kernel_rfl)) (fun _ _ _ h => h) (Or.inl ⟨by rfl, ?_⟩) ?_ ?_
          rotate_left
          ·intro w'
           go_simp
           with_reducible rfl
          rotate_left
          ·simp only [Act.put, List.setIfInBounds_toArray, List.set_cons_zero, List.set_cons_succ, i64_w, i32_w]
           rfl
          refine pure_ (i := 3) (N := some 61) (v := ?_) (a' := ?_) #[true, false, true, true, false, false, false, false, false, false] rfl rfl (any_of HT_.out (by kernel_rfl)) (fun _ _ _ h => h) (Or.inl ⟨by rfl, ?_⟩) ?_ ?_
          rotate_left
          ·intro w'
           go_simp
           with_reducible rfl
          rotate_left
          ·simp only [Act.put, List.setIfInBounds_toArray, List.set_cons_zero, List.set_cons_succ, i64_w, i32_w]
           rfl
          refine take_ (i := 1) (N := some 59) (v := ?_) (a' := ?_) #[true, true, true, true, false, false, false, false, false, false] rfl rfl (take_ofW HT_.out HW_.out (by kernel_rfl)) (fun _ _ _ h => h) (Or.inl ⟨by rfl, ?_⟩) hHeld ?_ ?_
          rotate_left
          ·rintro w' ⟨s0, s1⟩
           go_simp
           with_reducible rfl
          rotate_left
          ·simp only [Act.put, List.setIfInBounds_toArray, List.set_cons_zero, List.set_cons_succ, i64_w, i32_w]
           rfl
          refine one_ (i := 4) (N := some 62) #[true, true, true, true, true, false, false, false, false, false] rfl rfl (one_of HT_.out (by kernel_rfl)) (by decide) (fun K hK => ?_)
          refine goes_ Try.func63 (by kernel_rfl) rfl #[.slice (some ad234) t218.length co37, .int .i64 x6_3] (by rfl) rfl rfl (by (try simp only [List.map_toArray, List.map_cons, List.map_nil]); first | done | rfl | (simp only [List.length_drop, List.length_take]; rfl)) ?_
          with_reducible refine (spec_l13Column.calls k3 _ _ t218 x6_3 t235 _ ?side1 ?side2 A40.out).mono ?_
          (case side1 => repeat (first | exact (Kd.R_reads' HO_0.out).2.2 | (with_reducible refine Kd.C_alloc ?_ _) | (with_reducible refine Kd.C_drewN ?_ _) | (with_reducible refine Kd.C_drew ?_)))
          (case side2 => exact (Kd.R_reads' HO_0.out).2.1)
          rintro e w44 ⟨v236, rfl, ho0, hb⟩
          refine ⟨_, rfl, ?_⟩
          have n0_ := Aside0.mk (Kd.R_elder' (Kd.rv HO_0.out) (Kd.R_base ho0) hb)
          have n1_ := Aside0.mk (Kd.R_below (Kd.rv HO_222000.out) hb)
          have n2_ := Aside0.mk (Kd.R_below (Kd.rv HO_222001.out) hb)
          have n3_ := Aside0.mk (Kd.R_elder' (Kd.rv HL234_0.out) (Kd.R_base ho0) hb)
          have n4_ := Aside0.mk (Kd.R_lower (Kd.R_new' ho0 (Kd.R_lt (Kd.rv HL234_0.out))) (below_size (by repeat (first | (with_reducible first | exact HB.out | apply below_alloc | apply pw_below_drewN | apply below_drew1 | refine below_set ?_ GE217.out | refine below_set ?_ GE221.out) | exact HB.out))))
          have n5_ := Aside0.mk (blk_below (g := gb217) (o := .cells #[.slice none 0 0, .slice none 0 0] 25 (0, 0)) (bv BK217.out) hb)
          have n6_ := Aside0.mk (blk_below (g := gb221) (o := .cells #[u222000, u222001] 25 (0, 0)) (bv BK221.out) hb)
          have n7_ := Aside0.mk (Kd.C_below (by repeat (first | (with_reducible exact HR234_0.out) | (with_reducible refine Kd.C_alloc ?_ _) | (with_reducible refine Kd.C_drewN ?_ _) | (with_reducible refine Kd.C_drew ?_) | exact HR234_0.out)) hb)
          have n8_ := Aside0.mk (below_step (by repeat (first | (with_reducible first | exact HB.out | apply below_alloc | apply pw_below_drewN | apply below_drew1 | refine below_set ?_ GE217.out | refine below_set ?_ GE221.out) | exact HB.out)) hb)
          clear HO_0 HO_222000 HO_222001 HL234_0 BK217 BK221 HR234_0 HB
          have HO_0 := n0_
          have HO_222000 := n1_
          have HO_222001 := n2_
          have HL234_0 := n3_
          have HO237 := n4_
          have BK217 := n5_
          have BK221 := n6_
          have HR234_0 := n7_
          have HB := n8_
          clear n0_ n1_ n2_ n3_ n4_ n5_ n6_ n7_ n8_
          (try clear hb)
          (try clear hb2)
          (try clear hk)
          (try clear hi)
          (try clear ho0)
          obtain ⟨Ao45, co45, eo45⟩ := Kd.R_slice HO237.out
          (first | subst eo45 | (injection eo45 with f1_ f2_ f3_; have f4_ := f1_.symm; have f5_ := f3_.symm; clear f1_ f2_ f3_; subst f4_; subst f5_))
          refine hK.out _ _ ⟨(blk_cell BK221.out 0).trans rfl, (blk_cell BK221.out 1).trans rfl⟩ (fun hHeld => ?_)
          clear hK K
          refine norm_ (a' := ?_) ?_ ?_
          rotate_left
          ·show Act.put _ (some 62) _ = _
           simp only [Act.put, List.setIfInBounds_toArray, List.set_cons_zero, List.set_cons_succ, i64_w, i32_w]
           rfl
          refine one_ (i := 5) (N := some 63) #[true, true, true, true, true, true, false, false, false, false] rfl rfl (one_of HT_.out (by kernel_rfl)) (by decide) (fun K hK => ?_)
          refine goes_ Try.func62 (by kernel_rfl) rfl #[.slice Ao45 t235.length co45] (by rfl) rfl rfl (by (try simp only [List.map_toArray, List.map_cons, List.map_nil]); first | done | rfl | (simp only [List.length_drop, List.length_take]; rfl)) ?_
          with_reducible refine (spec_ClueOf.calls k3 _ _ t235 t238 _ ?side1 ?side2 A41.out).mono ?_
          (case side1 => repeat (first | exact (Kd.R_reads' HO237.out).2.2 | (with_reducible refine Kd.C_alloc ?_ _) | (with_reducible refine Kd.C_drewN ?_ _) | (with_reducible refine Kd.C_drew ?_)))
          (case side2 => exact (Kd.R_reads' HO237.out).2.1)
          rintro e w46 ⟨v239, rfl, ho0, hb⟩
          refine ⟨_, rfl, ?_⟩
          have n0_ := Aside0.mk (Kd.R_below (Kd.rv HO_0.out) hb)
          have n1_ := Aside0.mk (Kd.R_elder' (Kd.rv HO_222000.out) (Kd.R_base ho0) hb)
          have n2_ := Aside0.mk (Kd.R_elder' (Kd.rv HO_222001.out) (Kd.R_base ho0) hb)
          have n3_ := Aside0.mk (Kd.R_below (Kd.rv HL234_0.out) hb)
          have n4_ := Aside0.mk (Kd.R_below (Kd.rv HO237.out) hb)
          have n5_ := Aside0.mk (Kd.R_lower ho0 (below_size (by repeat (first | (with_reducible first | exact HB.out | apply below_alloc | apply pw_below_drewN | apply below_drew1 | refine below_set ?_ GE217.out | refine below_set ?_ GE221.out) | exact HB.out))))
          have n6_ := Aside0.mk (blk_below (g := gb217) (o := .cells #[.slice none 0 0, .slice none 0 0] 25 (0, 0)) (bv BK217.out) hb)
          have n7_ := Aside0.mk (blk_below (g := gb221) (o := .cells #[u222000, u222001] 25 (0, 0)) (bv BK221.out) hb)
          have n8_ := Aside0.mk (Kd.C_below (by repeat (first | (with_reducible exact HR234_0.out) | (with_reducible refine Kd.C_alloc ?_ _) | (with_reducible refine Kd.C_drewN ?_ _) | (with_reducible refine Kd.C_drew ?_) | exact HR234_0.out)) hb)
          have n9_ := Aside0.mk (below_step (by repeat (first | (with_reducible first | exact HB.out | apply below_alloc | apply pw_below_drewN | apply below_drew1 | refine below_set ?_ GE217.out | refine below_set ?_ GE221.out) | exact HB.out)) hb)
          clear HO_0 HO_222000 HO_222001 HL234_0 HO237 BK217 BK221 HR234_0 HB
          have HO_0 := n0_
          have HO_222000 := n1_
          have HO_222001 := n2_
          have HL234_0 := n3_
          have HO237 := n4_
          have HO240 := n5_
          have BK217 := n6_
          have BK221 := n7_
          have HR234_0 := n8_
          have HB := n9_
          clear n0_ n1_ n2_ n3_ n4_ n5_ n6_ n7_ n8_ n9_
          (try clear hb)
          (try clear hb2)
          (try clear hk)
          (try clear hi)
          (try clear ho0)
          obtain ⟨Ao48, co48, eo48⟩ := Kd.R_slice HO240.out
          (first | subst eo48 | (injection eo48 with f1_ f2_ f3_; have f4_ := f1_.symm; have f5_ := f3_.symm; clear f1_ f2_ f3_; subst f4_; subst f5_))
          refine hK.out _ _ ⟨(blk_cell BK221.out 0).trans rfl, (blk_cell BK221.out 1).trans rfl⟩ (fun hHeld => ?_)
          clear hK K
          refine norm_ (a' := ?_) ?_ ?_
          rotate_left
          ·show Act.put _ (some 63) _ = _
           simp only [Act.put, List.setIfInBounds_toArray, List.set_cons_zero, List.set_cons_succ, i64_w, i32_w]
           rfl
          refine one_ (i := 6) (N := some 64) #[true, true, true, true, true, true, true, false, false, false] rfl rfl (one_of HT_.out (by kernel_rfl)) (by decide) (fun K hK => ?_)
          refine value_ (w1 := ?_) (v := ?_) (by rfl) rfl ?_ ?_
          rotate_left 2
          ·go_simp
           constructor
           ·rfl
           ·rfl
          refine hK.out _ _ ⟨(blk_cell (blk_alloc BK221.out _) 0).trans rfl, (blk_cell (blk_alloc BK221.out _) 1).trans rfl⟩ (fun hHeld => ?_)
          clear hK K
          refine norm_ (a' := ?_) ?_ ?_
          rotate_left
          ·show Act.put _ (some 64) _ = _
           simp only [Act.put, List.setIfInBounds_toArray, List.set_cons_zero, List.set_cons_succ, i64_w, i32_w]
           rfl
          refine one_ (i := 7) (N := some 65) #[true, true, true, true, true, true, true, true, false, false] rfl rfl (one_of HT_.out (by kernel_rfl)) (by decide) (fun K hK => ?_)
          refine Kd.R_append_step (Kd.slice 3 (Kd.int .i64)) (w0 := w) w.heap.size (by rfl) (.tmp 59) (.tmp 64) 23 36 (.slice none 0 0) 24 rfl Try.underlying23 info36 rfl (by decide) (by omega) u222001 x222001_3 t238 [.slice Ao48 t238.length co48] (fun k_ => some k_ ≠ (u222000 : Value).ownBlock) (fun k_ => ((fun k_ => some k_ ≠ (u222000 : Value).ownBlock)) k_ ∧ some k_ ≠ (u222001 : Value).ownBlock) rfl rfl ?aP (fun _ hk => hk) ?aF ?aO ?aB ?aS ?aL ?_
          (case aP => exact Kd.M_row (Kd.R_mono (Kd.R_apart' (Kd.R_apart' (HO240.out) (Kd.R_typed HO_222000.out) (by decide)) (Kd.R_typed HO_222001.out) (by decide)) (fun k_ hk => ⟨hk.1.2, hk.2⟩)))
          (case aB => exact (by repeat (first | (with_reducible first | exact HB.out | apply below_alloc | apply pw_below_drewN | apply below_drew1 | refine below_set ?_ GE217.out | refine below_set ?_ GE221.out) | exact HB.out)))
          (case aF => exact (fun k_ hk => Kd.fresh' (Kd.R_lt (Kd.rv HO_222000.out)) k_ hk))
          (case aO => exact (by (with_reducible repeat (first | apply Kd.R_alloc | apply Kd.R_drewN | apply Kd.R_drew)); exact Kd.R_mono HO_222001.out (fun _ hk => hk.1)))
          (case aS => exact (below_size (by repeat (first | (with_reducible first | exact HB.out | apply below_alloc | apply pw_below_drewN | apply below_drew1 | refine below_set ?_ GE217.out | refine below_set ?_ GE221.out) | exact HB.out))))
          (case aL => have := LMc42.out; omega)
          intro v242 w47 ho hb hg hat
          rw [← Ny241.out] at ho
          have n0_ := Aside0.mk (Kd.R_over' (Kd.rv HO_0.out) (Kd.R_typed (Kd.rv HO_222001.out)) (by decide) hg)
          have n1_ := Aside0.mk (Kd.R_after (ok := (fun k_ => some k_ ≠ (.slice Ao48 t238.length co48 : Value).ownBlock)) (by (with_reducible repeat (first | apply Kd.R_alloc | apply Kd.R_drewN | apply Kd.R_drew)); exact Kd.R_mono HO_222000.out (fun _ hk => ⟨hk.2, hk.1⟩)) hg hat)
          have n2_ := Aside0.mk (blk_grown (g := gb217) (o := .cells #[.slice none 0 0, .slice none 0 0] 25 (0, 0)) (bv BK217.out) hg (Kd.R_ne HO_222001.out BK217.out (by decide)))
          have n3_ := Aside0.mk (blk_grown (g := gb221) (o := .cells #[u222000, u222001] 25 (0, 0)) (bv BK221.out) hg (Kd.R_ne HO_222001.out BK221.out (by decide)))
          have n4_ := Aside0.mk (Kd.R_over' (Kd.rv HL234_0.out) (Kd.R_typed (Kd.rv HO_222001.out)) (by decide) hg)
          have n5_ := Aside0.mk (Kd.R_over' (Kd.rv HO237.out) (Kd.R_typed (Kd.rv HO_222001.out)) (by decide) hg)
          have n6_ := Aside0.mk (hb)
          have n7_ := Aside0.mk (ho)
          clear HO_0 HO_222000 BK217 BK221 HL234_0 HO237 HB HO_222001 HO240
          have HO_0 := n0_
          have HO_222000 := n1_
          have BK217 := n2_
          have BK221 := n3_
          have HL234_0 := n4_
          have HO237 := n5_
          have HB := n6_
          have HO243 := n7_
          clear n0_ n1_ n2_ n3_ n4_ n5_ n6_ n7_ ho hb hg hat
          obtain ⟨Ao49, co49, eo49⟩ := Kd.R_slice HO243.out
          (first | subst eo49 | (injection eo49 with f1_ f2_ f3_; have f4_ := f1_.symm; have f5_ := f3_.symm; clear f1_ f2_ f3_; subst f4_; subst f5_))
          refine hK.out _ _ ⟨(blk_cell BK221.out 0).trans rfl, (blk_cell BK221.out 1).trans rfl⟩ (fun hHeld => ?_)
          clear hK K
          refine norm_ (a' := ?_) ?_ ?_
          rotate_left
          ·show Act.put _ (some 65) _ = _
           simp only [Act.put, List.setIfInBounds_toArray, List.set_cons_zero, List.set_cons_succ, i64_w, i32_w]
           rfl
          refine pure_ (i := 8) (N := some 66) (v := ?_) (a' := ?_) #[true, true, true, true, true, true, true, true, true, false] rfl rfl (any_of HT_.out (by kernel_rfl)) (fun _ _ _ h => h) (Or.inl ⟨by rfl, ?_⟩) ?_ ?_
          rotate_left
          ·intro w'
           go_simp
           with_reducible rfl
          rotate_left
          ·simp only [Act.put, List.setIfInBounds_toArray, List.set_cons_zero, List.set_cons_succ, i64_w, i32_w]
           rfl
          refine last_ (i := 9) (N := none) #[true, true, true, true, true, true, true, true, true, true] rfl rfl (one_of HT_.out (by kernel_rfl)) (by decide) (fun K hK => ?_)
          have hs50 : w47.cell? ⟨gb221, 1, none⟩ = some (u222001) := (blk_cell BK221.out 1).trans rfl
          have hfs50 := blk_frozen BK221.out 1
          have hns50_0 := NB217_221.out
          have hms50_0 := NB221_217.out
          refine skip_ (w1 := ?_) (by rfl) rfl ?_ ?_
          rotate_left
          ·go_simp
           rfl
          refine hK.out _ _ ?_
          clear hK K
          refine done_ (done_of HT_.out (by kernel_rfl)) ?_
          try go_wp2
          go_roundg k3
          case measure => have := HJ2.out; have := HK2.out; have := HK3.out; omega
          case rel => exact ⟨(wrap64 (x6_3 + 1)), (y241), (.slice Ao49 y241.length co49), (by first | rfl | (simp; done) | (simp [*]; done)), H', ⟨by have := HJ2.out; have := HK2.out; have := HK3.out; omega⟩, ⟨by (with_reducible repeat (first | apply Kd.R_alloc | apply Kd.R_drewN | apply Kd.R_drew)); exact Kd.R_mono (Kd.R_far (p := ⟨gb221, 1, none⟩) (Kd.R_types HO_0.out BK221.out (by decide)) (fun _ hk => hk.2) (.slice Ao49 y241.length co49)) (fun _ hk => trivial)⟩, ⟨by (with_reducible repeat (first | apply Kd.R_alloc | apply Kd.R_drewN | apply Kd.R_drew)); exact Kd.R_mono (Kd.R_far (p := ⟨gb221, 1, none⟩) (Kd.R_types HO_222000.out BK221.out (by decide)) (fun _ hk => hk.2) (.slice Ao49 y241.length co49)) (fun _ hk => hk.1.2)⟩, ⟨by (with_reducible repeat (first | apply Kd.R_alloc | apply Kd.R_drewN | apply Kd.R_drew)); exact Kd.R_mono (Kd.R_far (p := ⟨gb221, 1, none⟩) (Kd.R_types HO243.out BK221.out (by decide)) (fun _ hk => hk.2) (.slice Ao49 y241.length co49)) (fun _ hk => hk.1)⟩, ⟨by (with_reducible repeat (first | refine blk_drewN ?_ _ | refine blk_drew ?_ | refine blk_alloc ?_ _)); refine blk_far ?_ NB217_221.out _; (with_reducible repeat (first | refine blk_drewN ?_ _ | refine blk_drew ?_ | refine blk_alloc ?_ _)); exact BK217.out⟩, ⟨by (with_reducible repeat (first | refine blk_drewN ?_ _ | refine blk_drew ?_ | refine blk_alloc ?_ _)); refine blk_put (cs := #[u222000, u222001]) ?_ 1 _ rfl; (with_reducible repeat (first | refine blk_drewN ?_ _ | refine blk_drew ?_ | refine blk_alloc ?_ _)); exact BK221.out⟩, ⟨by repeat (first | (with_reducible first | exact HB.out | apply below_alloc | apply pw_below_drewN | apply below_drew1 | refine below_set ?_ GE217.out | refine below_set ?_ GE221.out) | exact HB.out)⟩⟩
         ·rw [if_neg c39] at H
          have c39b0 : decide (x6_3 < ((rd_L3 t218 0).length : Int)) = false := decide_eq_false c39
          clear c39
          simp only [Option.some.injEq, Prod.mk.injEq] at H
          obtain ⟨rfl, rfl, rfl⟩ := H
          have p234 : 0 ≤ (0 : Int) := (by omega)
          have q234 : 0 < (t218.length : Int) := of_decide_eq_true (by first | (with_reducible assumption) | assumption)
          obtain ⟨ad234, A234_0, c234_0, e234, hx234_0, hl234_0, hi234_0⟩ := at_L3 (Kd.R_reads' HO_0.out).2.2 0 p234 q234
          cases e234
          obtain ⟨ce234, hce234, hMe234, hcc234⟩ := Kd.R_get HO_0.out [] 0 p234 (by first | exact q234 | exact of_decide_eq_true (by first | (with_reducible assumption) | assumption) | (have e_ := (Kd.R_reads' HO_0.out).1; omega))
          obtain ⟨ve234_0, rfl, ge234_0⟩ := hMe234
          have hv234_0 := hcc234 0 _ rfl
          rw [Nat.add_zero, show ((Kd.slice 4 Kd.bool)).sz = 1 from rfl, Nat.mul_one] at hv234_0
          replace hv234_0 := Option.some.inj (hv234_0.symm.trans hx234_0)
          rw [hv234_0] at ge234_0
          have HL234_0 := Aside0.mk (show Kd.R Kd.bool 4 _ _ _ _ (rd_L3 t218 0) from ge234_0)
          clear hv234_0 ge234_0 hcc234 hce234
          have qi234 : (0 < t218.length) = True := eq_true (by omega)
          (try rw [show ((0 : Int)).toNat = 0 from rfl] at hx234_0)
          (try rw [Addr.add_zero'] at hx234_0)
          have HR234_0 := Aside0.mk hi234_0
          have HC234_0 := Aside0.mk hl234_0
          clear hi234_0 hl234_0
          replace p234 := eq_true p234
          replace q234 := eq_true q234
          have hnb51 := NB221_217.out
          have hnc51 := NB217_221.out
          have hcz52_0 : wr.cell? ⟨gb221, 0, none⟩ = some (u222000) := (blk_cell BK221.out 0).trans rfl
          have hcz52_1 : wr.cell? ⟨gb221, 1, none⟩ = some (u222001) := (blk_cell BK221.out 1).trans rfl
          have hfz52_0 := blk_frozen BK221.out 0
          have hfz52_1 := blk_frozen BK221.out 1
          obtain ⟨Ao53, co53, eo53⟩ := Kd.R_slice HO_222000.out
          subst eo53
          have hcz54_0 : wr.cell? ⟨gb217, 0, none⟩ = some (.slice none 0 0) := (blk_cell BK217.out 0).trans rfl
          have hcz54_1 : wr.cell? ⟨gb217, 1, none⟩ = some (.slice none 0 0) := (blk_cell BK217.out 1).trans rfl
          have hfz54_0 := blk_frozen BK217.out 0
          have hfz54_1 := blk_frozen BK217.out 1
          obtain ⟨Ao55, co55, eo55⟩ := Kd.R_slice HO_222001.out
          subst eo55
          go_wp2
          refine bodyPost_ret (results_ct rfl _ _ gb217 25 #[.slice Ao53 x222000_2.length co53, .slice Ao55 x222001_3.length co55] (0, 0) _ rfl (by (with_reducible repeat (first | refine blk_drewN ?_ _ | refine blk_drew ?_ | refine blk_alloc ?_ _)); refine blk_put (cs := #[.slice Ao53 x222000_2.length co53, .slice none 0 0]) ?_ 1 _ rfl; (with_reducible repeat (first | refine blk_drewN ?_ _ | refine blk_drew ?_ | refine blk_alloc ?_ _)); refine blk_put (cs := #[.slice none 0 0, .slice none 0 0]) ?_ 0 _ rfl; (with_reducible repeat (first | refine blk_drewN ?_ _ | refine blk_drew ?_ | refine blk_alloc ?_ _)); exact BK217.out) Try.underlying25 rfl (by kernel_rfl)) rfl ?_
          exact ⟨_, _, by first | rfl | (simp [errW_none, errW_some] <;> rfl) | (simp [*, errW_none, errW_some] <;> rfl), by (with_reducible repeat (first | apply Kd.R_alloc | apply Kd.R_drewN | apply Kd.R_drew)); exact Kd.R_mono (Kd.R_far (p := ⟨gb217, 1, none⟩) (Kd.R_far (p := ⟨gb217, 0, none⟩) (Kd.R_types HO_222000.out BK217.out (by decide)) (fun _ hk => hk.2) (.slice Ao53 x222000_2.length co53)) (fun _ hk => hk.2) (.slice Ao55 x222001_3.length co55)) (fun _ hk => hk.1), by (with_reducible repeat (first | apply Kd.R_alloc | apply Kd.R_drewN | apply Kd.R_drew)); exact Kd.R_mono (Kd.R_far (p := ⟨gb217, 1, none⟩) (Kd.R_far (p := ⟨gb217, 0, none⟩) (Kd.R_types HO_222001.out BK217.out (by decide)) (fun _ hk => hk.2) (.slice Ao53 x222000_2.length co53)) (fun _ hk => hk.2) (.slice Ao55 x222001_3.length co55)) (fun _ hk => hk.1), by repeat (first | (with_reducible first | exact HB.out | apply below_alloc | apply pw_below_drewN | apply below_drew1 | refine below_set ?_ GE217.out | refine below_set ?_ GE221.out) | exact HB.out)⟩

end Go.Proofs.Ytapnohcfnclleaa.PFnPictureFirst
