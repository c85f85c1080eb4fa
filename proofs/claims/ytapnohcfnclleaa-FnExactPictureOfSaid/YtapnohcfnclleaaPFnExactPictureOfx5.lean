-- Made by a program of this session (a changed copy of the kit print): the kit print itself does not give this text
import Derived.Test.YtapnohcfnclleaaPFnExactPictureOfx0
import Derived.Test.YtapnohcfnclleaaPFnExactPictureOfx4
namespace Go.Proofs.Ytapnohcfnclleaa.PFnExactPictureOf
open Go.RowKit Go.Proofs.YtapnohcfnclleaaW.PrintWords Go.Proofs.YtapnohcfnclleaaW.PrintLast Go.Proofs.YtapnohcfnclleaaW.PrintMore
attribute [local go_sem] max2_int min2_int max_two min_two max_three min_three max_four min_four   -- for this text's walks alone
set_option linter.unusedVariables false
set_option linter.unusedSimpArgs false

/-! ### impl_PictureOf: function 30 -/
mutual
def impl_PictureOf.j0 : Nat → List (List Bool) → Bool → Option ((List (List Int)) × (List (List Int)) × Bool)
  | 0, _, _ => none
  | k + 1, x0, x32 => if x32 = true then (some (([] : List (List Int)), ([] : List (List Int)), false)) else (impl_PictureOf.l0 k x0 x0 (x0.length : Int) 0 ([] : List (List Int)))
def impl_PictureOf.l0 : Nat → List (List Bool) → List (List Bool) → Int → Int → List (List Int) → Option ((List (List Int)) × (List (List Int)) × Bool)
  | 0, _, _, _, _, _ => none
  | k + 1, x0, x35, x36, x37, x197000 => if x37 < x36 then (if 0 ≤ x37 then (if x37 < (x35.length : Int) then (if 0 < (x0.length : Int) then (if ((rd_L3 x35 x37).length : Int) = ((rd_L3 x0 0).length : Int) then ((impl_ClueOf.f k (rd_L3 x35 x37)).bind fun t199 => (if x197000.length < 5864062014805 then (impl_PictureOf.l0 k x0 x35 x36 (wrap64 (x37 + 1)) (x197000 ++ [t199])) else (none))) else (some (([] : List (List Int)), ([] : List (List Int)), false))) else (none)) else (none)) else (none)) else (if 0 < (x0.length : Int) then (impl_PictureOf.l1 k x0 ((rd_L3 x0 0).length : Int) 0 x197000 ([] : List (List Int))) else (none))
def impl_PictureOf.l1 : Nat → List (List Bool) → Int → Int → List (List Int) → List (List Int) → Option ((List (List Int)) × (List (List Int)) × Bool)
  | 0, _, _, _, _, _ => none
  | k + 1, x0, x60, x61, x197000, x197001 => if x61 < x60 then (impl_PictureOf.l2 k x0 x61 (([] : List Bool)) x60 x61 x0 (x0.length : Int) 0 x197000 x197001) else (some (x197000, x197001, true))
def impl_PictureOf.l2 : Nat → List (List Bool) → Int → List Bool → Int → Int → List (List Bool) → Int → Int → List (List Int) → List (List Int) → Option ((List (List Int)) × (List (List Int)) × Bool)
  | 0, _, _, _, _, _, _, _, _, _, _ => none
  | k + 1, x0, x7, x8, x60, x61, x65, x66, x67, x197000, x197001 => if x67 < x66 then (if 0 ≤ x67 then (if x67 < (x65.length : Int) then (if 0 ≤ x7 then (if x7 < ((rd_L3 x65 x67).length : Int) then (if x8.length < 140737488355328 then (impl_PictureOf.l2 k x0 x7 (x8 ++ [rdOf false (rd_L3 x65 x67) x7]) x60 x61 x65 x66 (wrap64 (x67 + 1)) x197000 x197001) else (none)) else (none)) else (none)) else (none)) else (none)) else ((impl_ClueOf.f k x8).bind fun t214 => (if x197001.length < 5864062014805 then (impl_PictureOf.l1 k x0 x60 (wrap64 (x61 + 1)) x197000 (x197001 ++ [t214])) else (none)))
end
def impl_PictureOf.f (k : Nat) (l0 : List (List Bool)) : Option ((List (List Int)) × (List (List Int)) × Bool) := if (l0.length : Int) < 1 then (impl_PictureOf.j0 k l0 true) else (if (l0.length : Int) > 5 then (impl_PictureOf.j0 k l0 true) else (if 0 < (l0.length : Int) then (if ((rd_L3 l0 0).length : Int) < 1 then (impl_PictureOf.j0 k l0 true) else (impl_PictureOf.j0 k l0 (decide (((rd_L3 l0 0).length : Int) > 5)))) else (none)))
theorem impl_PictureOf.mono_l : ∀ k, (∀ y0 y1, LeO (impl_PictureOf.j0 k y0 y1) (impl_PictureOf.j0 (k + 1) y0 y1)) ∧ (∀ y0 y1 y2 y3 y4, LeO (impl_PictureOf.l0 k y0 y1 y2 y3 y4) (impl_PictureOf.l0 (k + 1) y0 y1 y2 y3 y4)) ∧ (∀ y0 y1 y2 y3 y4, LeO (impl_PictureOf.l1 k y0 y1 y2 y3 y4) (impl_PictureOf.l1 (k + 1) y0 y1 y2 y3 y4)) ∧ (∀ y0 y1 y2 y3 y4 y5 y6 y7 y8 y9, LeO (impl_PictureOf.l2 k y0 y1 y2 y3 y4 y5 y6 y7 y8 y9) (impl_PictureOf.l2 (k + 1) y0 y1 y2 y3 y4 y5 y6 y7 y8 y9))
  | 0 => ⟨fun _ _ r h => by simp [impl_PictureOf.j0] at h, fun _ _ _ _ _ r h => by simp [impl_PictureOf.l0] at h, fun _ _ _ _ _ r h => by simp [impl_PictureOf.l1] at h, fun _ _ _ _ _ _ _ _ _ _ r h => by simp [impl_PictureOf.l2] at h⟩
  | k + 1 => by
    obtain ⟨ih0, ih1, ih2, ih3⟩ := impl_PictureOf.mono_l k
    refine ⟨?_, ?_, ?_, ?_⟩
    · intro y0 y1
      unfold impl_PictureOf.j0
      repeat' first
      | (with_reducible exact ih0 _ _)
      | (with_reducible exact ih1 _ _ _ _ _)
      | (with_reducible exact ih2 _ _ _ _ _)
      | (with_reducible exact ih3 _ _ _ _ _ _ _ _ _ _)
      | (with_reducible exact impl_ClueOf.mono _ _)
      | (with_reducible exact LeO.refl _)
      | (with_reducible exact LeO.none _)
      | (with_reducible refine LeO.ite ?_ ?_)
      | (with_reducible refine LeO.bind ?_ (fun _ => ?_))
      | exact ih0 _ _
      | exact ih1 _ _ _ _ _
      | exact ih2 _ _ _ _ _
      | exact ih3 _ _ _ _ _ _ _ _ _ _
      | exact impl_ClueOf.mono _ _
      | exact LeO.none _
      | refine LeO.ite ?_ ?_
      | refine LeO.bind ?_ (fun _ => ?_)
    · intro y0 y1 y2 y3 y4
      unfold impl_PictureOf.l0
      repeat' first
      | (with_reducible exact ih0 _ _)
      | (with_reducible exact ih1 _ _ _ _ _)
      | (with_reducible exact ih2 _ _ _ _ _)
      | (with_reducible exact ih3 _ _ _ _ _ _ _ _ _ _)
      | (with_reducible exact impl_ClueOf.mono _ _)
      | (with_reducible exact LeO.refl _)
      | (with_reducible exact LeO.none _)
      | (with_reducible refine LeO.ite ?_ ?_)
      | (with_reducible refine LeO.bind ?_ (fun _ => ?_))
      | exact ih0 _ _
      | exact ih1 _ _ _ _ _
      | exact ih2 _ _ _ _ _
      | exact ih3 _ _ _ _ _ _ _ _ _ _
      | exact impl_ClueOf.mono _ _
      | exact LeO.none _
      | refine LeO.ite ?_ ?_
      | refine LeO.bind ?_ (fun _ => ?_)
    · intro y0 y1 y2 y3 y4
      unfold impl_PictureOf.l1
      repeat' first
      | (with_reducible exact ih0 _ _)
      | (with_reducible exact ih1 _ _ _ _ _)
      | (with_reducible exact ih2 _ _ _ _ _)
      | (with_reducible exact ih3 _ _ _ _ _ _ _ _ _ _)
      | (with_reducible exact impl_ClueOf.mono _ _)
      | (with_reducible exact LeO.refl _)
      | (with_reducible exact LeO.none _)
      | (with_reducible refine LeO.ite ?_ ?_)
      | (with_reducible refine LeO.bind ?_ (fun _ => ?_))
      | exact ih0 _ _
      | exact ih1 _ _ _ _ _
      | exact ih2 _ _ _ _ _
      | exact ih3 _ _ _ _ _ _ _ _ _ _
      | exact impl_ClueOf.mono _ _
      | exact LeO.none _
      | refine LeO.ite ?_ ?_
      | refine LeO.bind ?_ (fun _ => ?_)
    · intro y0 y1 y2 y3 y4 y5 y6 y7 y8 y9
      unfold impl_PictureOf.l2
      repeat' first
      | (with_reducible exact ih0 _ _)
      | (with_reducible exact ih1 _ _ _ _ _)
      | (with_reducible exact ih2 _ _ _ _ _)
      | (with_reducible exact ih3 _ _ _ _ _ _ _ _ _ _)
      | (with_reducible exact impl_ClueOf.mono _ _)
      | (with_reducible exact LeO.refl _)
      | (with_reducible exact LeO.none _)
      | (with_reducible refine LeO.ite ?_ ?_)
      | (with_reducible refine LeO.bind ?_ (fun _ => ?_))
      | exact ih0 _ _
      | exact ih1 _ _ _ _ _
      | exact ih2 _ _ _ _ _
      | exact ih3 _ _ _ _ _ _ _ _ _ _
      | exact impl_ClueOf.mono _ _
      | exact LeO.none _
      | refine LeO.ite ?_ ?_
      | refine LeO.bind ?_ (fun _ => ?_)
theorem impl_PictureOf.mono : ∀ a0 k, LeO (impl_PictureOf.f k a0) (impl_PictureOf.f (k + 1) a0) := by
  intro a0 k
  obtain ⟨ih0, ih1, ih2, ih3⟩ := impl_PictureOf.mono_l k
  unfold impl_PictureOf.f
  repeat' first
      | (with_reducible exact ih0 _ _)
      | (with_reducible exact ih1 _ _ _ _ _)
      | (with_reducible exact ih2 _ _ _ _ _)
      | (with_reducible exact ih3 _ _ _ _ _ _ _ _ _ _)
      | (with_reducible exact impl_ClueOf.mono _ _)
      | (with_reducible exact LeO.refl _)
      | (with_reducible exact LeO.none _)
      | (with_reducible refine LeO.ite ?_ ?_)
      | (with_reducible refine LeO.bind ?_ (fun _ => ?_))
      | exact ih0 _ _
      | exact ih1 _ _ _ _ _
      | exact ih2 _ _ _ _ _
      | exact ih3 _ _ _ _ _ _ _ _ _ _
      | exact impl_ClueOf.mono _ _
      | exact LeO.none _
      | refine LeO.ite ?_ ?_
      | refine LeO.bind ?_ (fun _ => ?_)
def impl_PictureOf.T9 : Bool × List (List Nat × List Nat) := (true, [([], []), ([0], [0]), ([], []), ([2], [2]), ([3], [3]), ([1, 4, 3], [1, 4]), ([0, 1, 2, 3, 4, 5], []), ([6, 5, 5, 0, 1, 2, 3, 4, 5], [5, 6])])
def impl_PictureOf.B9 : List Nat := [0, 1, 0, 4, 12, 31, 63, 127]
theorem impl_PictureOf.tab9 : rtab .any (opsOf Try.f30 9) = impl_PictureOf.T9 := by kernel_rfl
theorem impl_PictureOf.bits9 : waitsOk impl_PictureOf.T9.2 impl_PictureOf.B9 = true := by kernel_rfl
def impl_PictureOf.T20 : Bool × List (List Nat × List Nat) := (true, [([], []), ([0], [0]), ([], []), ([2], [2]), ([3], [3]), ([1, 4, 3], [1, 4]), ([0, 1, 2, 3, 4, 5], []), ([6, 5, 5, 0, 1, 2, 3, 4, 5], [5, 6])])
def impl_PictureOf.B20 : List Nat := [0, 1, 0, 4, 12, 31, 63, 127]
theorem impl_PictureOf.tab20 : rtab .any (opsOf Try.f30 20) = impl_PictureOf.T20 := by kernel_rfl
theorem impl_PictureOf.bits20 : waitsOk impl_PictureOf.T20.2 impl_PictureOf.B20 = true := by kernel_rfl
def PicApart (w w' : World) (v0 v1 : Value) (r1 r2 : List (List Int)) : Prop := ∃ PA PB : Nat → Prop, Kd.S (Kd.slice 3 (Kd.int .i64)) 36 w' w.heap.size PA v0 r1 ∧ Kd.S (Kd.slice 3 (Kd.int .i64)) 36 w' w.heap.size PB v1 r2 ∧ ∀ k_, PA k_ → PB k_ → False
set_option maxHeartbeats 8000000 in
set_option maxRecDepth 100000 in
theorem impl_PictureOf.calls (k : Nat) (A0 : Option Addr) (c0 : Nat) (l0 : List (List Bool)) (r1 : List (List Int)) (r2 : List (List Int)) (r3 : Bool) (w : World) (hr0 : Kd.C (Kd.slice 4 Kd.bool) w A0 l0.length l0) (hc0 : l0.length ≤ c0) (h : impl_PictureOf.f k l0 = some (r1, r2, r3)) :
    Calls Try.prog 30 #[.slice A0 l0.length c0] w fun e w' => ∃ v0_ v1_ : Value, e = .returned (.tuple #[.agg #[v0_, v1_], .bool r3]) ∧ PicApart w w' v0_ v1_ r1 r2 ∧ Below w.heap.size w w' := by
  have hu25 := Try.underlying25
  have HR0 := Aside0.mk hr0
  have HC0 := Aside0.mk hc0
  clear hr0 hc0
  have HB := Aside0.mk (Below.refl w.heap.size w)
  have H : (if (l0.length : Int) < 1 then (impl_PictureOf.j0 k l0 true) else (if (l0.length : Int) > 5 then (impl_PictureOf.j0 k l0 true) else (if 0 < (l0.length : Int) then (if ((rd_L3 l0 0).length : Int) < 1 then (impl_PictureOf.j0 k l0 true) else (impl_PictureOf.j0 k l0 (decide (((rd_L3 l0 0).length : Int) > 5)))) else (none)))) = some (r1, r2, r3) := h
  clear h
  have HC2 := Aside0.mk H
  clear H
  go_enter Try.func30, Try.ntmps30
  go_upto_region 1 with (first | ((with_reducible refine gate_dst (N := 2) rfl ?_); (try (refine gate_guard (by rfl) ?_; dsimp only)); refine box_event ?hg (N := 2) ?hd (cs := #[.slice none 0 0, .slice none 0 0]) (t := 25) ?hr ?_; (case hd => rfl); (case hg => rfl); (case hr => first | (go_simp; done) | (go_simp; rfl)); intro gb193 hg w3 hbox hb; have n0_ := Aside0.mk (below_step (by repeat (first | (with_reducible first | exact HB.out | apply below_alloc | apply pw_below_drewN | apply below_drew1) | exact HB.out)) hb); have n1_ := Aside0.mk (hbox); have n2_ := Aside0.mk ((by rw [hg]; exact (below_size (by repeat (first | (with_reducible first | exact HB.out | apply below_alloc | apply pw_below_drewN | apply below_drew1) | exact HB.out))) : w.heap.size ≤ gb193)); have n3_ := Aside0.mk ((by rw [hg]; exact (below_size (by repeat (first | (with_reducible first | exact HB.out | apply below_alloc | apply pw_below_drewN | apply below_drew1) | exact HB.out))) : w.heap.size ≤ gb193)); clear HB; have HB := n0_; have BK193 := n1_; have GW193 := n2_; have GE193 := n3_; clear n0_ n1_ n2_ n3_; clear hb hbox hg))
  (try simp only [Act.put, List.setIfInBounds_toArray, List.set_cons_zero, List.set_cons_succ])
  go_cut [32] (fun v32 wc => ∃ (kq : Nat) (x32_1 : Bool), v32 = .bool x32_1 ∧ Aside0 (impl_PictureOf.j0 kq l0 x32_1 = some (r1, r2, r3)) ∧ Aside0 (kq ≤ k) ∧ Aside0 (wc.heap[gb193]? = some (.cells #[(.slice none 0 0), (.slice none 0 0)] 25 (0, 0))) ∧ Aside0 (Below w.heap.size w wc))
  case first =>
    have H := HC2.out
    clear HC2
    by_cases c4 : (l0.length : Int) < 1
    · rw [if_pos c4] at H
      have c4b0 : decide ((l0.length : Int) < 1) = true := decide_eq_true c4
      have c4b1 : decide (l0.length < 1) = true := decide_eq_true (by omega)
      clear c4
      (first | rw [c4b0] | (simp only [i64_w, i32_w]; rw [c4b0]) | skip)
      have H' := Aside0.mk H
      clear H
      go_wp2
      go_meet
      case rel => exact ⟨_, (true), (by first | rfl | (simp; done) | (simp [*]; done)), H', ⟨by first | omega | exact Nat.le_refl _⟩, ⟨by (with_reducible repeat (first | refine blk_drewN ?_ _ | refine blk_drew ?_ | refine blk_alloc ?_ _)); exact BK193.out⟩, ⟨by repeat (first | (with_reducible first | exact HB.out | apply below_alloc | apply pw_below_drewN | apply below_drew1 | refine below_set ?_ GE193.out) | exact HB.out)⟩⟩
    · rw [if_neg c4] at H
      have c4b0 : decide ((l0.length : Int) < 1) = false := decide_eq_false c4
      have c4b1 : decide (l0.length < 1) = false := decide_eq_false (by omega)
      clear c4
      (first | rw [c4b0] | (simp only [i64_w, i32_w]; rw [c4b0]) | skip)
      by_cases c5 : (l0.length : Int) > 5
      · rw [if_pos c5] at H
        have c5b0 : decide (5 < (l0.length : Int)) = true := decide_eq_true c5
        have c5b1 : decide (5 < l0.length) = true := decide_eq_true (by omega)
        clear c5
        have H' := Aside0.mk H
        clear H
        go_wp2
        go_meet
        case rel => exact ⟨_, (true), (by first | rfl | (simp; done) | (simp [*]; done)), H', ⟨by first | omega | exact Nat.le_refl _⟩, ⟨by (with_reducible repeat (first | refine blk_drewN ?_ _ | refine blk_drew ?_ | refine blk_alloc ?_ _)); exact BK193.out⟩, ⟨by repeat (first | (with_reducible first | exact HB.out | apply below_alloc | apply pw_below_drewN | apply below_drew1 | refine below_set ?_ GE193.out) | exact HB.out)⟩⟩
      · rw [if_neg c5] at H
        have c5b0 : decide (5 < (l0.length : Int)) = false := decide_eq_false c5
        have c5b1 : decide (5 < l0.length) = false := decide_eq_false (by omega)
        clear c5
        by_cases c6 : 0 < (l0.length : Int)
        · rw [if_pos c6] at H
          have c6b0 : decide (0 < (l0.length : Int)) = true := decide_eq_true c6
          have c6b1 : decide (0 < l0.length) = true := decide_eq_true (by omega)
          clear c6
          by_cases c7 : ((rd_L3 l0 0).length : Int) < 1
          · rw [if_pos c7] at H
            have c7b0 : decide (((rd_L3 l0 0).length : Int) < 1) = true := decide_eq_true c7
            have c7b1 : decide ((rd_L3 l0 0).length < 1) = true := decide_eq_true (by omega)
            clear c7
            have H' := Aside0.mk H
            clear H
            have p194 : 0 ≤ (0 : Int) := (by omega)
            have q194 : 0 < (l0.length : Int) := of_decide_eq_true (by first | (with_reducible assumption) | assumption)
            obtain ⟨ad194, A194_0, c194_0, e194, hx194_0, hl194_0, hi194_0⟩ := at_L3 HR0.out 0 p194 q194
            cases e194
            have qi194 : (0 < l0.length) = True := eq_true (by omega)
            (try rw [show ((0 : Int)).toNat = 0 from rfl] at hx194_0)
            (try rw [Addr.add_zero'] at hx194_0)
            replace hx194_0 := (HB.out.cell (World.block_lt_of_cell? w _ hx194_0)).trans hx194_0
            have HR194_0 := Aside0.mk hi194_0
            have HC194_0 := Aside0.mk hl194_0
            clear hi194_0 hl194_0
            replace p194 := eq_true p194
            replace q194 := eq_true q194
            go_wp2
            go_meet
            case rel => exact ⟨_, (true), (by first | rfl | (simp; done) | (simp [*]; done)), H', ⟨by first | omega | exact Nat.le_refl _⟩, ⟨by (with_reducible repeat (first | refine blk_drewN ?_ _ | refine blk_drew ?_ | refine blk_alloc ?_ _)); exact BK193.out⟩, ⟨by repeat (first | (with_reducible first | exact HB.out | apply below_alloc | apply pw_below_drewN | apply below_drew1 | refine below_set ?_ GE193.out) | exact HB.out)⟩⟩
          · rw [if_neg c7] at H
            have c7b0 : decide (((rd_L3 l0 0).length : Int) < 1) = false := decide_eq_false c7
            have c7b1 : decide ((rd_L3 l0 0).length < 1) = false := decide_eq_false (by omega)
            clear c7
            have H' := Aside0.mk H
            clear H
            have p194 : 0 ≤ (0 : Int) := (by omega)
            have q194 : 0 < (l0.length : Int) := of_decide_eq_true (by first | (with_reducible assumption) | assumption)
            obtain ⟨ad194, A194_0, c194_0, e194, hx194_0, hl194_0, hi194_0⟩ := at_L3 HR0.out 0 p194 q194
            cases e194
            have qi194 : (0 < l0.length) = True := eq_true (by omega)
            (try rw [show ((0 : Int)).toNat = 0 from rfl] at hx194_0)
            (try rw [Addr.add_zero'] at hx194_0)
            replace hx194_0 := (HB.out.cell (World.block_lt_of_cell? w _ hx194_0)).trans hx194_0
            have HR194_0 := Aside0.mk hi194_0
            have HC194_0 := Aside0.mk hl194_0
            clear hi194_0 hl194_0
            replace p194 := eq_true p194
            replace q194 := eq_true q194
            have p195 : 0 ≤ (0 : Int) := (by omega)
            have q195 : 0 < (l0.length : Int) := of_decide_eq_true (by first | (with_reducible assumption) | assumption)
            obtain ⟨ad195, A195_0, c195_0, e195, hx195_0, hl195_0, hi195_0⟩ := at_L3 HR0.out 0 p195 q195
            obtain rfl : ad194 = ad195 := (by injection e195)
            have qi195 : (0 < l0.length) = True := eq_true (by omega)
            (try rw [show ((0 : Int)).toNat = 0 from rfl] at hx195_0)
            (try rw [Addr.add_zero'] at hx195_0)
            replace hx195_0 := (HB.out.cell (World.block_lt_of_cell? w _ hx195_0)).trans hx195_0
            have HR195_0 := Aside0.mk hi195_0
            have HC195_0 := Aside0.mk hl195_0
            clear hi195_0 hl195_0
            replace p195 := eq_true p195
            replace q195 := eq_true q195
            have ea_ := Option.some.inj (hx194_0.symm.trans hx195_0)
            injection ea_ with ea_ en_ ec_
            subst ea_
            subst ec_
            clear en_
            go_wp2
            go_meet
            case rel => exact ⟨_, (decide (((rd_L3 l0 0).length : Int) > 5)), (by first | rfl | (simp; done) | (simp [*]; done)), H', ⟨by first | omega | exact Nat.le_refl _⟩, ⟨by (with_reducible repeat (first | refine blk_drewN ?_ _ | refine blk_drew ?_ | refine blk_alloc ?_ _)); exact BK193.out⟩, ⟨by repeat (first | (with_reducible first | exact HB.out | apply below_alloc | apply pw_below_drewN | apply below_drew1 | refine below_set ?_ GE193.out) | exact HB.out)⟩⟩
        · rw [if_neg c6] at H
          exact absurd H (by simp)
  case rest =>
    clear HC2
    try clear c1
    try clear p1
    try clear q1
    try clear hx1
    try clear qi1
    try clear p2
    try clear c3
    try clear c4
    try clear c4b0
    try clear c4b1
    try clear c5
    try clear c5b0
    try clear c5b1
    try clear c6
    try clear c6b0
    try clear c6b1
    try clear c7
    try clear c7b0
    try clear c7b1
    try clear hx194_0
    try clear hx195_0
    try clear p194
    try clear p195
    try clear q194
    try clear q195
    obtain ⟨kq, x32_1, rfl, HA, HJ1, BK193, HB⟩ := hcut
    cases kq with
    | zero => exact absurd HA.out (by simp [impl_PictureOf.j0])
    | succ kj1 =>
      have H := HA.out
      clear HA
      simp only [impl_PictureOf.j0] at H
      by_cases c8 : x32_1 = true
      · subst c8
        have H1 : (some (([] : List (List Int)), ([] : List (List Int)), false)) = some (r1, r2, r3) := by rw [if_pos rfl] at H; exact H
        clear H
        have H := H1
        clear H1
        simp only [Option.some.injEq, Prod.mk.injEq] at H
        obtain ⟨rfl, rfl, rfl⟩ := H
        have hcz9_0 : wc.cell? ⟨gb193, 0, none⟩ = some (.slice none 0 0) := (blk_cell BK193.out 0).trans rfl
        have hcz9_1 : wc.cell? ⟨gb193, 1, none⟩ = some (.slice none 0 0) := (blk_cell BK193.out 1).trans rfl
        have hfz9_0 := blk_frozen BK193.out 0
        have hfz9_1 := blk_frozen BK193.out 1
        go_wp2
        refine bodyPost_ret (results_ct rfl _ _ gb193 25 #[.slice none 0 0, .slice none 0 0] (0, 0) _ rfl (by (with_reducible repeat (first | refine blk_drewN ?_ _ | refine blk_drew ?_ | refine blk_alloc ?_ _)); refine blk_put (cs := #[.slice none 0 0, .slice none 0 0]) ?_ 1 _ rfl; (with_reducible repeat (first | refine blk_drewN ?_ _ | refine blk_drew ?_ | refine blk_alloc ?_ _)); refine blk_put (cs := #[.slice none 0 0, .slice none 0 0]) ?_ 0 _ rfl; (with_reducible repeat (first | refine blk_drewN ?_ _ | refine blk_drew ?_ | refine blk_alloc ?_ _)); exact BK193.out) Try.underlying25 rfl (by kernel_rfl)) rfl ?_
        exact ⟨_, _, by first | rfl | (simp [errW_none, errW_some] <;> rfl) | (simp [*, errW_none, errW_some] <;> rfl), ⟨fun _ => False, fun _ => False, by first | exact Kd.S_nil _ _ _ _ _ | exact Kd.N_nil _ _ _ _ _ | exact Kd.V_nil _ _ _ _ _ | exact Kd.Q_nil _ _ _ _ _ | exact Kd.R_nil _ _ _ _ _, by first | exact Kd.S_nil _ _ _ _ _ | exact Kd.N_nil _ _ _ _ _ | exact Kd.V_nil _ _ _ _ _ | exact Kd.Q_nil _ _ _ _ _ | exact Kd.R_nil _ _ _ _ _, fun _ h_ _ => h_⟩, by repeat (first | (with_reducible first | exact HB.out | apply below_alloc | apply pw_below_drewN | apply below_drew1 | refine below_set ?_ GE193.out) | exact HB.out)⟩
      · replace c8 := Bool.eq_false_iff.mpr c8
        subst c8
        have H1 : (impl_PictureOf.l0 kj1 l0 l0 (l0.length : Int) 0 ([] : List (List Int))) = some (r1, r2, r3) := by rw [if_neg (show ¬ (false = true) by decide)] at H; exact H
        clear H
        have H := H1
        clear H1
        have H' := Aside0.mk H
        clear H
        go_wp2_with (first | ((with_reducible refine gate_dst (N := 4) rfl ?_); (try (refine gate_guard (by rfl) ?_; dsimp only)); refine box_event ?hg (N := 4) ?hd (cs := #[.slice none 0 0, .slice none 0 0]) (t := 25) ?hr ?_; (case hd => rfl); (case hg => rfl); (case hr => first | (go_simp; done) | (go_simp; rfl)); intro gb196 hg w10 hbox hb; have n0_ := Aside0.mk (blk_below (g := gb193) (o := .cells #[.slice none 0 0, .slice none 0 0] 25 (0, 0)) (by (with_reducible repeat (first | refine blk_drewN ?_ _ | refine blk_drew ?_ | refine blk_alloc ?_ _)); exact BK193.out) hb); have n1_ := Aside0.mk (below_step (by repeat (first | (with_reducible first | exact HB.out | apply below_alloc | apply pw_below_drewN | apply below_drew1 | refine below_set ?_ GE193.out) | exact HB.out)) hb); have n2_ := Aside0.mk (hbox); have n3_ := Aside0.mk ((by rw [hg]; exact (below_size (by repeat (first | (with_reducible first | exact HB.out | apply below_alloc | apply pw_below_drewN | apply below_drew1 | refine below_set ?_ GE193.out) | exact HB.out))) : w.heap.size ≤ gb196)); have n4_ := Aside0.mk ((by rw [hg]; exact (below_size (by repeat (first | (with_reducible first | exact HB.out | apply below_alloc | apply pw_below_drewN | apply below_drew1 | refine below_set ?_ GE193.out) | exact HB.out))) : w.heap.size ≤ gb196)); have n5_ := Aside0.mk ((by rw [hg]; exact Nat.ne_of_lt (blk_lt (g := gb193) (o := .cells #[.slice none 0 0, .slice none 0 0] 25 (0, 0)) (by (with_reducible repeat (first | refine blk_drewN ?_ _ | refine blk_drew ?_ | refine blk_alloc ?_ _)); exact BK193.out)) : gb193 ≠ gb196)); have n6_ := Aside0.mk ((by rw [hg]; exact Nat.ne_of_gt (blk_lt (g := gb193) (o := .cells #[.slice none 0 0, .slice none 0 0] 25 (0, 0)) (by (with_reducible repeat (first | refine blk_drewN ?_ _ | refine blk_drew ?_ | refine blk_alloc ?_ _)); exact BK193.out)) : gb196 ≠ gb193)); clear BK193; clear HB; have BK193 := n0_; have HB := n1_; have BK196 := n2_; have GW196 := n3_; have GE196 := n4_; have NB193_196 := n5_; have NB196_193 := n6_; clear n0_ n1_ n2_ n3_ n4_ n5_ n6_; clear hb hbox hg; have hnb11 := NB196_193.out; have hnc11 := NB193_196.out; have hcz12_0 : w10.cell? ⟨gb196, 0, none⟩ = some (.slice none 0 0) := (blk_cell BK196.out 0).trans rfl; have hcz12_1 : w10.cell? ⟨gb196, 1, none⟩ = some (.slice none 0 0) := (blk_cell BK196.out 1).trans rfl; have hfz12_0 := blk_frozen BK196.out 0; have hfz12_1 := blk_frozen BK196.out 1))
        go_loopg [37] kj1 (fun kq v37 w' => ∃ (x37_2 : Int) (x197000_2 : List (List Int)) (u197000 : Value), v37 = .int .i64 x37_2 ∧ Aside0 (impl_PictureOf.l0 kq l0 l0 (l0.length : Int) x37_2 x197000_2 = some (r1, r2, r3)) ∧ Aside0 (kq ≤ kj1) ∧ Aside0 (Kd.S (Kd.slice 3 (Kd.int .i64)) 36 w' w.heap.size (fun _ => True) u197000 x197000_2) ∧ Aside0 (w'.heap[gb193]? = some (.cells #[(.slice none 0 0), (.slice none 0 0)] 25 (0, 0))) ∧ Aside0 (w'.heap[gb196]? = some (.cells #[u197000, (.slice none 0 0)] 25 (0, 0))) ∧ Aside0 (Below w.heap.size w w'))
        case atStart => exact ⟨(0), (([] : List (List Int))), (.slice none 0 0), (by first | rfl | (simp; done) | (simp [*]; done)), H', ⟨Nat.le_refl _⟩, ⟨by first | exact Kd.S_nil _ _ _ _ _ | exact Kd.N_nil _ _ _ _ _ | exact Kd.V_nil _ _ _ _ _ | exact Kd.Q_nil _ _ _ _ _ | exact Kd.R_nil _ _ _ _ _⟩, ⟨by (with_reducible repeat (first | refine blk_drewN ?_ _ | refine blk_drew ?_ | refine blk_alloc ?_ _)); refine blk_far ?_ NB193_196.out _; (with_reducible repeat (first | refine blk_drewN ?_ _ | refine blk_drew ?_ | refine blk_alloc ?_ _)); refine blk_far ?_ NB193_196.out _; (with_reducible repeat (first | refine blk_drewN ?_ _ | refine blk_drew ?_ | refine blk_alloc ?_ _)); exact BK193.out⟩, ⟨by (with_reducible repeat (first | refine blk_drewN ?_ _ | refine blk_drew ?_ | refine blk_alloc ?_ _)); refine blk_put (cs := #[.slice none 0 0, .slice none 0 0]) ?_ 1 _ rfl; (with_reducible repeat (first | refine blk_drewN ?_ _ | refine blk_drew ?_ | refine blk_alloc ?_ _)); refine blk_put (cs := #[.slice none 0 0, .slice none 0 0]) ?_ 0 _ rfl; (with_reducible repeat (first | refine blk_drewN ?_ _ | refine blk_drew ?_ | refine blk_alloc ?_ _)); exact BK196.out⟩, ⟨by repeat (first | (with_reducible first | exact HB.out | apply below_alloc | apply pw_below_drewN | apply below_drew1 | refine below_set ?_ GE193.out | refine below_set ?_ GE196.out) | exact HB.out)⟩⟩
        case round =>
          clear H'
          try clear c1
          try clear p1
          try clear q1
          try clear hx1
          try clear qi1
          try clear p2
          try clear c3
          try clear c4
          try clear c4b0
          try clear c4b1
          try clear c5
          try clear c5b0
          try clear c5b1
          try clear c6
          try clear c6b0
          try clear c6b1
          try clear c7
          try clear c7b0
          try clear c7b1
          try clear c8
          try clear c11
          try clear hcz12_0
          try clear hcz12_1
          try clear hcz9_0
          try clear hcz9_1
          try clear hfz12_0
          try clear hfz12_1
          try clear hfz9_0
          try clear hfz9_1
          try clear hx194_0
          try clear hx195_0
          try clear p1
          try clear p194
          try clear p195
          try clear p2
          try clear q1
          try clear q194
          try clear q195
          obtain ⟨x37_2, x197000_2, u197000, rfl, HA, HK2, HO_197000, BK193, BK196, HB⟩ := hrel
          cases gk with
          | zero => exact absurd HA.out (by simp [impl_PictureOf.l0])
          | succ k2 =>
            have H := HA.out
            clear HA
            simp only [impl_PictureOf.l0] at H
            by_cases c13 : x37_2 < (l0.length : Int)
            · rw [if_pos c13] at H
              have c13b0 : decide (x37_2 < (l0.length : Int)) = true := decide_eq_true c13
              clear c13
              by_cases c14 : 0 ≤ x37_2
              · rw [if_pos c14] at H
                have c14b0 : decide (0 ≤ x37_2) = true := decide_eq_true c14
                clear c14
                by_cases c15 : x37_2 < (l0.length : Int)
                · rw [if_pos c15] at H
                  have c15b0 : decide (x37_2 < (l0.length : Int)) = true := decide_eq_true c15
                  clear c15
                  by_cases c16 : 0 < (l0.length : Int)
                  · rw [if_pos c16] at H
                    have c16b0 : decide (0 < (l0.length : Int)) = true := decide_eq_true c16
                    have c16b1 : decide (0 < l0.length) = true := decide_eq_true (by omega)
                    clear c16
                    by_cases c17 : ((rd_L3 l0 x37_2).length : Int) = ((rd_L3 l0 0).length : Int)
                    · rw [if_pos c17] at H
                      have c17b0 : (((rd_L3 l0 x37_2).length : Int) == ((rd_L3 l0 0).length : Int)) = true := beq_iff_eq.mpr c17
                      have c17b1 : (((rd_L3 l0 x37_2).length : Int) != ((rd_L3 l0 0).length : Int)) = false := bne_eq_false_iff_eq.mpr c17
                      have c17b2 : ((rd_L3 l0 x37_2).length == (rd_L3 l0 0).length) = true := by first | simpa using c17 | (simp at c17 ⊢; omega)
                      clear c17
                      replace H := Option.bind_eq_some_iff.mp H
                      obtain ⟨t199, A180, H⟩ := H
                      replace H : (if x197000_2.length < 5864062014805 then (impl_PictureOf.l0 k2 l0 l0 (l0.length : Int) (wrap64 (x37_2 + 1)) (x197000_2 ++ [t199])) else (none)) = some (r1, r2, r3) := H
                      have A18 := Aside0.mk A180
                      clear A180
                      by_cases c19 : x197000_2.length < 5864062014805
                      · rw [if_pos c19] at H
                        have LMc19 := Aside0.mk c19
                        clear c19
                        obtain ⟨y202, hy202⟩ : ∃ y_ : List (List Int), y_ = (x197000_2 ++ [t199]) := ⟨_, rfl⟩
                        replace H : (impl_PictureOf.l0 k2 l0 l0 (l0.length : Int) (wrap64 (x37_2 + 1)) y202) = some (r1, r2, r3) := by first | (rw [hy202]; with_reducible exact H) | (have H2_ := (Option.bind_some _ _).symm.trans H; rw [hy202]; with_reducible exact H2_) | (have H2_ := (Option.bind_some _ _).symm.trans H; with_reducible exact H2_) | with_reducible exact H | (rw [hy202]; exact H) | exact H
                        have Ny202 := Aside0.mk hy202
                        clear hy202
                        have H' := Aside0.mk H
                        clear H
                        have p197 : 0 ≤ (x37_2 : Int) := of_decide_eq_true (by first | (with_reducible assumption) | assumption)
                        have q197 : x37_2 < (l0.length : Int) := of_decide_eq_true (by first | (with_reducible assumption) | assumption)
                        obtain ⟨ad197, A197_0, c197_0, e197, hx197_0, hl197_0, hi197_0⟩ := at_L3 HR0.out x37_2 p197 q197
                        cases e197
                        replace hx197_0 := (HB.out.cell (World.block_lt_of_cell? w _ hx197_0)).trans hx197_0
                        have HR197_0 := Aside0.mk hi197_0
                        have HC197_0 := Aside0.mk hl197_0
                        clear hi197_0 hl197_0
                        replace p197 := eq_true p197
                        replace q197 := eq_true q197
                        have p198 : 0 ≤ (0 : Int) := (by omega)
                        have q198 : 0 < (l0.length : Int) := of_decide_eq_true (by first | (with_reducible assumption) | assumption)
                        obtain ⟨ad198, A198_0, c198_0, e198, hx198_0, hl198_0, hi198_0⟩ := at_L3 HR0.out 0 p198 q198
                        obtain rfl : ad197 = ad198 := (by injection e198)
                        have qi198 : (0 < l0.length) = True := eq_true (by omega)
                        (try rw [show ((0 : Int)).toNat = 0 from rfl] at hx198_0)
                        (try rw [Addr.add_zero'] at hx198_0)
                        replace hx198_0 := (HB.out.cell (World.block_lt_of_cell? w _ hx198_0)).trans hx198_0
                        have HR198_0 := Aside0.mk hi198_0
                        have HC198_0 := Aside0.mk hl198_0
                        clear hi198_0 hl198_0
                        replace p198 := eq_true p198
                        replace q198 := eq_true q198
                        try go_wp2
                        have n0_ := Aside0.mk (Kd.S_drew HO_197000.out)
                        have n1_ := Aside0.mk (blk_drew BK193.out)
                        have n2_ := Aside0.mk (blk_drew BK196.out)
                        have n3_ := Aside0.mk (below_drew1 HB.out)
                        clear HO_197000
                        clear BK193
                        clear BK196
                        clear HB
                        have HO_197000 := n0_
                        have BK193 := n1_
                        have BK196 := n2_
                        have HB := n3_
                        clear n0_ n1_ n2_ n3_
                        refine start_ (n := 8) (S := fun w' => w'.cell? ⟨gb196, 0, none⟩ = some (u197000) ∧ w'.cell? ⟨gb196, 1, none⟩ = some (.slice none 0 0)) (ds := [7]) #[false, false, false, false, false, false, false, false] (by kernel_rfl) rfl rfl ⟨(blk_cell BK196.out 0).trans rfl, (blk_cell BK196.out 1).trans rfl⟩ (fun hHeld => ?_); refine with_tabW impl_PictureOf.tab9 impl_PictureOf.bits9 (fun HT_ HW_ => ?_)
                        generalize wr.drew = w20 at HO_197000 BK193 BK196 HB hHeld ⊢
                        refine pure_ (i := 0) (N := some 49) (v := ?_) (a' := ?_) #[true, false, false, false, false, false, false, false] rfl rfl (any_of HT_.out (by kernel_rfl)) (fun _ _ _ h => h) (Or.inl ⟨by rfl, ?_⟩) ?_ ?_
                        rotate_left
                        · intro w'
                          go_simp
                          with_reducible rfl
                        rotate_left
                        · simp only [Act.put, List.setIfInBounds_toArray, List.set_cons_zero, List.set_cons_succ, i64_w, i32_w]
                          rfl
                        refine pure_ (i := 2) (N := some 51) (v := ?_) (a' := ?_) #[true, false, true, false, false, false, false, false] rfl rfl (any_of HT_.out (by kernel_rfl)) (fun _ _ _ h => h) (Or.inl ⟨by rfl, ?_⟩) ?_ ?_
                        rotate_left
                        · intro w'
                          go_simp
                          with_reducible rfl
                        rotate_left
                        · simp only [Act.put, List.setIfInBounds_toArray, List.set_cons_zero, List.set_cons_succ, i64_w, i32_w]
                          rfl
                        refine take_ (i := 1) (N := some 50) (v := ?_) (a' := ?_) #[true, true, true, false, false, false, false, false] rfl rfl (take_ofW HT_.out HW_.out (by kernel_rfl)) (fun _ _ _ h => h) (Or.inl ⟨by rfl, ?_⟩) hHeld ?_ ?_
                        rotate_left
                        · rintro w' ⟨s0, s1⟩
                          go_simp
                          with_reducible rfl
                        rotate_left
                        · simp only [Act.put, List.setIfInBounds_toArray, List.set_cons_zero, List.set_cons_succ, i64_w, i32_w]
                          rfl
                        refine one_ (i := 3) (N := some 52) #[true, true, true, true, false, false, false, false] rfl rfl (one_of HT_.out (by kernel_rfl)) (by decide) (fun K hK => ?_)
                        refine goes_ Try.func65 (by kernel_rfl) rfl #[.slice A197_0 (rd_L3 l0 x37_2).length c197_0] (by rfl) rfl rfl (by (try simp only [List.map_toArray, List.map_cons, List.map_nil]); first | done | rfl | (simp only [List.length_drop, List.length_take]; rfl)) ?_
                        with_reducible refine (impl_ClueOf.calls k2 _ _ (rd_L3 l0 x37_2) t199 _ ?side1 ?side2 A18.out).mono ?_
                        (case side1 => repeat (first | exact (Kd.C_below HR197_0.out HB.out) | (with_reducible refine Kd.C_alloc ?_ _) | (with_reducible refine Kd.C_drewN ?_ _) | (with_reducible refine Kd.C_drew ?_)))
                        (case side2 => exact HC197_0.out)
                        rintro e w21 ⟨v200, rfl, ho0, hb⟩
                        refine ⟨_, rfl, ?_⟩
                        have n0_ := Aside0.mk (Kd.S_elder' (by (with_reducible repeat (first | apply Kd.S_alloc | apply Kd.S_drewN | apply Kd.S_drew)); exact HO_197000.out) (Kd.R_base ho0) hb)
                        have n1_ := Aside0.mk (Kd.R_lower ho0 (below_size (by repeat (first | (with_reducible first | exact HB.out | apply below_alloc | apply pw_below_drewN | apply below_drew1 | refine below_set ?_ GE193.out | refine below_set ?_ GE196.out) | exact HB.out))))
                        have n2_ := Aside0.mk (blk_below (g := gb193) (o := .cells #[.slice none 0 0, .slice none 0 0] 25 (0, 0)) (by (with_reducible repeat (first | refine blk_drewN ?_ _ | refine blk_drew ?_ | refine blk_alloc ?_ _)); exact BK193.out) hb)
                        have n3_ := Aside0.mk (blk_below (g := gb196) (o := .cells #[u197000, .slice none 0 0] 25 (0, 0)) (by (with_reducible repeat (first | refine blk_drewN ?_ _ | refine blk_drew ?_ | refine blk_alloc ?_ _)); exact BK196.out) hb)
                        have n4_ := Aside0.mk (below_step (by repeat (first | (with_reducible first | exact HB.out | apply below_alloc | apply pw_below_drewN | apply below_drew1 | refine below_set ?_ GE193.out | refine below_set ?_ GE196.out) | exact HB.out)) hb)
                        clear HO_197000
                        clear BK193
                        clear BK196
                        clear HB
                        have HO_197000 := n0_
                        have HO201 := n1_
                        have BK193 := n2_
                        have BK196 := n3_
                        have HB := n4_
                        clear n0_ n1_ n2_ n3_ n4_
                        (try clear hb)
                        (try clear hb2)
                        (try clear hk)
                        (try clear hi)
                        (try clear ho0)
                        obtain ⟨Ao23, co23, eo23⟩ := Kd.R_slice HO201.out
                        (first | subst eo23 | (injection eo23 with f1_ f2_ f3_; have f4_ := f1_.symm; have f5_ := f3_.symm; clear f1_ f2_ f3_; subst f4_; subst f5_))
                        refine hK.out _ _ ⟨(blk_cell BK196.out 0).trans rfl, (blk_cell BK196.out 1).trans rfl⟩ (fun hHeld => ?_)
                        clear hK K
                        refine norm_ (a' := ?_) ?_ ?_
                        rotate_left
                        · show Act.put _ (some 52) _ = _
                          simp only [Act.put, List.setIfInBounds_toArray, List.set_cons_zero, List.set_cons_succ, i64_w, i32_w]
                          rfl
                        refine one_ (i := 4) (N := some 53) #[true, true, true, true, true, false, false, false] rfl rfl (one_of HT_.out (by kernel_rfl)) (by decide) (fun K hK => ?_)
                        refine value_ (w1 := ?_) (v := ?_) (by rfl) rfl ?_ ?_
                        rotate_left 2
                        · go_simp
                          constructor
                          · rfl
                          · rfl
                        refine hK.out _ _ ⟨(blk_cell (blk_alloc BK196.out _) 0).trans rfl, (blk_cell (blk_alloc BK196.out _) 1).trans rfl⟩ (fun hHeld => ?_)
                        clear hK K
                        refine norm_ (a' := ?_) ?_ ?_
                        rotate_left
                        · show Act.put _ (some 53) _ = _
                          simp only [Act.put, List.setIfInBounds_toArray, List.set_cons_zero, List.set_cons_succ, i64_w, i32_w]
                          rfl
                        refine one_ (i := 5) (N := some 54) #[true, true, true, true, true, true, false, false] rfl rfl (one_of HT_.out (by kernel_rfl)) (by decide) (fun K hK => ?_)
                        refine Kd.S_append_step (Kd.slice 3 (Kd.int .i64)) (w0 := w) w.heap.size (by rfl) (.tmp 50) (.tmp 53) 23 36 (.slice none 0 0) 24 rfl Try.underlying23 info36 rfl (by decide) (by omega) u197000 x197000_2 t199 [.slice Ao23 t199.length co23] (fun _ => True) (fun k_ => some k_ = (.slice Ao23 t199.length co23 : Value).ownBlock) rfl rfl ?aP (fun k_ hk_ => ((Kd.R_mono (ok' := fun k_ => ((fun _ => True)) k_ ∧ some k_ ≠ (u197000 : Value).ownBlock) (Kd.R_apart' (HO201.out) (Kd.S_typed HO_197000.out) (by decide)) (fun k_ hk => ⟨trivial, hk.2⟩))).1 k_ hk_.symm) ?aF ?aO ?aB ?aS ?aL ?_
                        (case aP => exact Kd.M_row (Kd.R_mono (Kd.R_tight rfl (Kd.R_mono (ok' := fun k_ => ((fun _ => True)) k_ ∧ some k_ ≠ (u197000 : Value).ownBlock) (Kd.R_apart' (HO201.out) (Kd.S_typed HO_197000.out) (by decide)) (fun k_ hk => ⟨trivial, hk.2⟩))) (fun _ h_ => h_)))
                        (case aB => exact (by repeat (first | (with_reducible first | exact HB.out | apply below_alloc | apply pw_below_drewN | apply below_drew1 | refine below_set ?_ GE193.out | refine below_set ?_ GE196.out) | exact HB.out)))
                        (case aF => exact (fun _ _ => trivial))
                        (case aO => exact (by (with_reducible repeat (first | apply Kd.S_alloc | apply Kd.S_drewN | apply Kd.S_drew)); exact Kd.S_mono HO_197000.out (fun k_ hk => ⟨trivial, fun e_ => hk.2 e_⟩)))
                        (case aS => exact (below_size (by repeat (first | (with_reducible first | exact HB.out | apply below_alloc | apply pw_below_drewN | apply below_drew1 | refine below_set ?_ GE193.out | refine below_set ?_ GE196.out) | exact HB.out))))
                        (case aL => have := LMc19.out; omega)
                        intro v203 w22 ho hb hg hat
                        rw [← Ny202.out] at ho
                        have n0_ := Aside0.mk (blk_grown (g := gb193) (o := .cells #[.slice none 0 0, .slice none 0 0] 25 (0, 0)) (by (with_reducible repeat (first | refine blk_drewN ?_ _ | refine blk_drew ?_ | refine blk_alloc ?_ _)); exact BK193.out) hg (Kd.S_ne HO_197000.out BK193.out (by decide)))
                        have n1_ := Aside0.mk (blk_grown (g := gb196) (o := .cells #[u197000, .slice none 0 0] 25 (0, 0)) (by (with_reducible repeat (first | refine blk_drewN ?_ _ | refine blk_drew ?_ | refine blk_alloc ?_ _)); exact BK196.out) hg (Kd.S_ne HO_197000.out BK196.out (by decide)))
                        have n2_ := Aside0.mk (hb)
                        have n3_ := Aside0.mk (ho)
                        clear BK193
                        clear BK196
                        clear HB
                        clear HO_197000
                        clear HO201
                        have BK193 := n0_
                        have BK196 := n1_
                        have HB := n2_
                        have HO204 := n3_
                        clear n0_ n1_ n2_ n3_
                        clear ho hb hg hat
                        obtain ⟨Ao24, co24, eo24⟩ := Kd.S_slice HO204.out
                        (first | subst eo24 | (injection eo24 with f1_ f2_ f3_; have f4_ := f1_.symm; have f5_ := f3_.symm; clear f1_ f2_ f3_; subst f4_; subst f5_))
                        refine hK.out _ _ ⟨(blk_cell BK196.out 0).trans rfl, (blk_cell BK196.out 1).trans rfl⟩ (fun hHeld => ?_)
                        clear hK K
                        refine norm_ (a' := ?_) ?_ ?_
                        rotate_left
                        · show Act.put _ (some 54) _ = _
                          simp only [Act.put, List.setIfInBounds_toArray, List.set_cons_zero, List.set_cons_succ, i64_w, i32_w]
                          rfl
                        refine pure_ (i := 6) (N := some 55) (v := ?_) (a' := ?_) #[true, true, true, true, true, true, true, false] rfl rfl (any_of HT_.out (by kernel_rfl)) (fun _ _ _ h => h) (Or.inl ⟨by rfl, ?_⟩) ?_ ?_
                        rotate_left
                        · intro w'
                          go_simp
                          with_reducible rfl
                        rotate_left
                        · simp only [Act.put, List.setIfInBounds_toArray, List.set_cons_zero, List.set_cons_succ, i64_w, i32_w]
                          rfl
                        refine last_ (i := 7) (N := none) #[true, true, true, true, true, true, true, true] rfl rfl (one_of HT_.out (by kernel_rfl)) (by decide) (fun K hK => ?_)
                        have hs25 : w22.cell? ⟨gb196, 0, none⟩ = some (u197000) := (blk_cell BK196.out 0).trans rfl
                        have hfs25 := blk_frozen BK196.out 0
                        have hns25_0 := NB193_196.out
                        have hms25_0 := NB196_193.out
                        refine skip_ (w1 := ?_) (by rfl) rfl ?_ ?_
                        rotate_left
                        · go_simp
                          rfl
                        refine hK.out _ _ ?_
                        clear hK K
                        refine done_ (done_of HT_.out (by kernel_rfl)) ?_
                        try go_wp2
                        go_roundg k2
                        case measure => have := HJ1.out; have := HK2.out; omega
                        case rel => exact ⟨(wrap64 (x37_2 + 1)), (y202), (.slice Ao24 y202.length co24), (by first | rfl | (simp; done) | (simp [*]; done)), H', ⟨by have := HJ1.out; have := HK2.out; omega⟩, ⟨by (with_reducible repeat (first | apply Kd.S_alloc | apply Kd.S_drewN | apply Kd.S_drew)); exact Kd.S_mono (Kd.S_far (p := ⟨gb196, 0, none⟩) (Kd.S_types HO204.out BK196.out (by decide)) (fun _ hk => hk.2) (.slice Ao24 y202.length co24)) (fun _ hk => trivial)⟩, ⟨by (with_reducible repeat (first | refine blk_drewN ?_ _ | refine blk_drew ?_ | refine blk_alloc ?_ _)); refine blk_far ?_ NB193_196.out _; (with_reducible repeat (first | refine blk_drewN ?_ _ | refine blk_drew ?_ | refine blk_alloc ?_ _)); exact BK193.out⟩, ⟨by (with_reducible repeat (first | refine blk_drewN ?_ _ | refine blk_drew ?_ | refine blk_alloc ?_ _)); refine blk_put (cs := #[u197000, .slice none 0 0]) ?_ 0 _ rfl; (with_reducible repeat (first | refine blk_drewN ?_ _ | refine blk_drew ?_ | refine blk_alloc ?_ _)); exact BK196.out⟩, ⟨by repeat (first | (with_reducible first | exact HB.out | apply below_alloc | apply pw_below_drewN | apply below_drew1 | refine below_set ?_ GE193.out | refine below_set ?_ GE196.out) | exact HB.out)⟩⟩
                      · rw [if_neg c19] at H
                        exact absurd H (by simp)
                    · rw [if_neg c17] at H
                      have c17b0 : (((rd_L3 l0 x37_2).length : Int) == ((rd_L3 l0 0).length : Int)) = false := beq_eq_false_iff_ne.mpr c17
                      have c17b1 : (((rd_L3 l0 x37_2).length : Int) != ((rd_L3 l0 0).length : Int)) = true := bne_iff_ne.mpr c17
                      have c17b2 : ((rd_L3 l0 x37_2).length == (rd_L3 l0 0).length) = false := by first | simpa using c17 | (simp at c17 ⊢; omega)
                      simp only [Option.some.injEq, Prod.mk.injEq] at H
                      obtain ⟨rfl, rfl, rfl⟩ := H
                      have p197 : 0 ≤ (x37_2 : Int) := of_decide_eq_true (by first | (with_reducible assumption) | assumption)
                      have q197 : x37_2 < (l0.length : Int) := of_decide_eq_true (by first | (with_reducible assumption) | assumption)
                      obtain ⟨ad197, A197_0, c197_0, e197, hx197_0, hl197_0, hi197_0⟩ := at_L3 HR0.out x37_2 p197 q197
                      cases e197
                      replace hx197_0 := (HB.out.cell (World.block_lt_of_cell? w _ hx197_0)).trans hx197_0
                      have HR197_0 := Aside0.mk hi197_0
                      have HC197_0 := Aside0.mk hl197_0
                      clear hi197_0 hl197_0
                      replace p197 := eq_true p197
                      replace q197 := eq_true q197
                      have p198 : 0 ≤ (0 : Int) := (by omega)
                      have q198 : 0 < (l0.length : Int) := of_decide_eq_true (by first | (with_reducible assumption) | assumption)
                      obtain ⟨ad198, A198_0, c198_0, e198, hx198_0, hl198_0, hi198_0⟩ := at_L3 HR0.out 0 p198 q198
                      obtain rfl : ad197 = ad198 := (by injection e198)
                      have qi198 : (0 < l0.length) = True := eq_true (by omega)
                      (try rw [show ((0 : Int)).toNat = 0 from rfl] at hx198_0)
                      (try rw [Addr.add_zero'] at hx198_0)
                      replace hx198_0 := (HB.out.cell (World.block_lt_of_cell? w _ hx198_0)).trans hx198_0
                      have HR198_0 := Aside0.mk hi198_0
                      have HC198_0 := Aside0.mk hl198_0
                      clear hi198_0 hl198_0
                      replace p198 := eq_true p198
                      replace q198 := eq_true q198
                      have hnb26 := NB193_196.out
                      have hnc26 := NB196_193.out
                      have hcz27_0 : wr.cell? ⟨gb193, 0, none⟩ = some (.slice none 0 0) := (blk_cell BK193.out 0).trans rfl
                      have hcz27_1 : wr.cell? ⟨gb193, 1, none⟩ = some (.slice none 0 0) := (blk_cell BK193.out 1).trans rfl
                      have hfz27_0 := blk_frozen BK193.out 0
                      have hfz27_1 := blk_frozen BK193.out 1
                      go_wp2
                      refine bodyPost_ret (results_ct rfl _ _ gb193 25 #[.slice none 0 0, .slice none 0 0] (0, 0) _ rfl (by (with_reducible repeat (first | refine blk_drewN ?_ _ | refine blk_drew ?_ | refine blk_alloc ?_ _)); refine blk_put (cs := #[.slice none 0 0, .slice none 0 0]) ?_ 1 _ rfl; (with_reducible repeat (first | refine blk_drewN ?_ _ | refine blk_drew ?_ | refine blk_alloc ?_ _)); refine blk_put (cs := #[.slice none 0 0, .slice none 0 0]) ?_ 0 _ rfl; (with_reducible repeat (first | refine blk_drewN ?_ _ | refine blk_drew ?_ | refine blk_alloc ?_ _)); exact BK193.out) Try.underlying25 rfl (by kernel_rfl)) rfl ?_
                      exact ⟨_, _, by first | rfl | (simp [errW_none, errW_some] <;> rfl) | (simp [*, errW_none, errW_some] <;> rfl), ⟨fun _ => False, fun _ => False, by first | exact Kd.S_nil _ _ _ _ _ | exact Kd.N_nil _ _ _ _ _ | exact Kd.V_nil _ _ _ _ _ | exact Kd.Q_nil _ _ _ _ _ | exact Kd.R_nil _ _ _ _ _, by first | exact Kd.S_nil _ _ _ _ _ | exact Kd.N_nil _ _ _ _ _ | exact Kd.V_nil _ _ _ _ _ | exact Kd.Q_nil _ _ _ _ _ | exact Kd.R_nil _ _ _ _ _, fun _ h_ _ => h_⟩, by repeat (first | (with_reducible first | exact HB.out | apply below_alloc | apply pw_below_drewN | apply below_drew1 | refine below_set ?_ GE193.out | refine below_set ?_ GE196.out) | exact HB.out)⟩
                  · rw [if_neg c16] at H
                    exact absurd H (by simp)
                · rw [if_neg c15] at H
                  exact absurd H (by simp)
              · rw [if_neg c14] at H
                exact absurd H (by simp)
            · rw [if_neg c13] at H
              have c13b0 : decide (x37_2 < (l0.length : Int)) = false := decide_eq_false c13
              clear c13
              by_cases c28 : 0 < (l0.length : Int)
              · rw [if_pos c28] at H
                have c28b0 : decide (0 < (l0.length : Int)) = true := decide_eq_true c28
                have c28b1 : decide (0 < l0.length) = true := decide_eq_true (by omega)
                clear c28
                have H' := Aside0.mk H
                clear H
                have p205 : 0 ≤ (0 : Int) := (by omega)
                have q205 : 0 < (l0.length : Int) := of_decide_eq_true (by first | (with_reducible assumption) | assumption)
                obtain ⟨ad205, A205_0, c205_0, e205, hx205_0, hl205_0, hi205_0⟩ := at_L3 HR0.out 0 p205 q205
                cases e205
                have qi205 : (0 < l0.length) = True := eq_true (by omega)
                (try rw [show ((0 : Int)).toNat = 0 from rfl] at hx205_0)
                (try rw [Addr.add_zero'] at hx205_0)
                replace hx205_0 := (HB.out.cell (World.block_lt_of_cell? w _ hx205_0)).trans hx205_0
                have HR205_0 := Aside0.mk hi205_0
                have HC205_0 := Aside0.mk hl205_0
                clear hi205_0 hl205_0
                replace p205 := eq_true p205
                replace q205 := eq_true q205
                go_wp2
                go_loopg [61] k2 (fun kq v61 w' => ∃ (x61_3 : Int) (x197001_3 : List (List Int)) (u197001 : Value), v61 = .int .i64 x61_3 ∧ Aside0 (impl_PictureOf.l1 kq l0 ((rd_L3 l0 0).length : Int) x61_3 x197000_2 x197001_3 = some (r1, r2, r3)) ∧ Aside0 (kq ≤ k2) ∧ Aside0 (∃ PA PB : Nat → Prop, (∀ k_, PA k_ → PB k_ → False) ∧ Kd.S (Kd.slice 3 (Kd.int .i64)) 36 w' w.heap.size (fun k_ => PA k_ ∧ some k_ ≠ (u197001 : Value).ownBlock) u197000 x197000_2 ∧ Kd.S (Kd.slice 3 (Kd.int .i64)) 36 w' w.heap.size (fun k_ => PB k_ ∧ some k_ ≠ (u197000 : Value).ownBlock) u197001 x197001_3) ∧ Aside0 True ∧ Aside0 (w'.heap[gb193]? = some (.cells #[(.slice none 0 0), (.slice none 0 0)] 25 (0, 0))) ∧ Aside0 (w'.heap[gb196]? = some (.cells #[u197000, u197001] 25 (0, 0))) ∧ Aside0 (Below w.heap.size w w'))
                case atStart => exact ⟨(0), (([] : List (List Int))), (.slice none 0 0), (by first | rfl | (simp; done) | (simp [*]; done)), H', ⟨Nat.le_refl _⟩, ⟨⟨fun _ => True, fun _ => False, fun _ _ h_ => h_, by (with_reducible repeat (first | apply Kd.S_alloc | apply Kd.S_drewN | apply Kd.S_drew)); exact Kd.S_mono HO_197000.out (fun _ hk => ⟨trivial, by simp [Value.ownBlock]⟩), by first | exact Kd.S_nil _ _ _ _ _ | exact Kd.N_nil _ _ _ _ _ | exact Kd.V_nil _ _ _ _ _ | exact Kd.Q_nil _ _ _ _ _ | exact Kd.R_nil _ _ _ _ _⟩⟩, ⟨trivial⟩, ⟨by (with_reducible repeat (first | refine blk_drewN ?_ _ | refine blk_drew ?_ | refine blk_alloc ?_ _)); exact BK193.out⟩, ⟨by (with_reducible repeat (first | refine blk_drewN ?_ _ | refine blk_drew ?_ | refine blk_alloc ?_ _)); exact BK196.out⟩, ⟨by repeat (first | (with_reducible first | exact HB.out | apply below_alloc | apply pw_below_drewN | apply below_drew1 | refine below_set ?_ GE193.out | refine below_set ?_ GE196.out) | exact HB.out)⟩⟩
                case round =>
                  clear H'
                  try clear c1
                  try clear p1
                  try clear q1
                  try clear hx1
                  try clear qi1
                  try clear c2
                  try clear p2
                  try clear q2
                  try clear hx2
                  try clear qi2
                  try clear c3
                  try clear c4
                  try clear c4b0
                  try clear c4b1
                  try clear c5
                  try clear c5b0
                  try clear c5b1
                  try clear c6
                  try clear c6b0
                  try clear c6b1
                  try clear p6
                  try clear c7
                  try clear c7b0
                  try clear c7b1
                  try clear c8
                  try clear c11
                  try clear c13
                  try clear c13b0
                  try clear c14
                  try clear c14b0
                  try clear c15
                  try clear c15b0
                  try clear c16
                  try clear c16b0
                  try clear c16b1
                  try clear c17
                  try clear c17b0
                  try clear c17b1
                  try clear c17b2
                  try clear c19
                  try clear p19
                  try clear q19
                  try clear hx19
                  try clear qi19
                  try clear c20
                  try clear p20
                  try clear q20
                  try clear hx20
                  try clear qi20
                  try clear c26
                  try clear c28
                  try clear c28b0
                  try clear c28b1
                  try clear hcz12_0
                  try clear hcz12_1
                  try clear hcz27_0
                  try clear hcz27_1
                  try clear hcz9_0
                  try clear hcz9_1
                  try clear hfz12_0
                  try clear hfz12_1
                  try clear hfz27_0
                  try clear hfz27_1
                  try clear hfz9_0
                  try clear hfz9_1
                  try clear hx194_0
                  try clear hx195_0
                  try clear hx197_0
                  try clear hx198_0
                  try clear hx205_0
                  try clear p1
                  try clear p194
                  try clear p195
                  try clear p197
                  try clear p198
                  try clear p2
                  try clear p205
                  try clear q1
                  try clear q194
                  try clear q195
                  try clear q197
                  try clear q198
                  try clear q205
                  obtain ⟨x61_3, x197001_3, u197001, rfl, HA, HK3, HO_197000, HO_197001, BK193, BK196, HB⟩ := hrel
                  obtain ⟨PA, PB, hPD, hs0_, hs1_⟩ := HO_197000.out
                  clear HO_197000 HO_197001
                  have HO_197000 := Aside0.mk hs0_
                  have HO_197001 := Aside0.mk hs1_
                  have HPD := Aside0.mk hPD
                  clear hs0_ hs1_ hPD
                  cases gk with
                  | zero => exact absurd HA.out (by simp [impl_PictureOf.l1])
                  | succ k3 =>
                    have H := HA.out
                    clear HA
                    simp only [impl_PictureOf.l1] at H
                    by_cases c29 : x61_3 < ((rd_L3 l0 0).length : Int)
                    · rw [if_pos c29] at H
                      have c29b0 : decide (x61_3 < ((rd_L3 l0 0).length : Int)) = true := decide_eq_true c29
                      clear c29
                      obtain ⟨y206, hy206⟩ : ∃ y_ : List Bool, y_ = (([] : List Bool)) := ⟨_, rfl⟩
                      replace H : (impl_PictureOf.l2 k3 l0 x61_3 y206 ((rd_L3 l0 0).length : Int) x61_3 l0 (l0.length : Int) 0 x197000_2 x197001_3) = some (r1, r2, r3) := by first | (rw [hy206]; with_reducible exact H) | (have H2_ := (Option.bind_some _ _).symm.trans H; rw [hy206]; with_reducible exact H2_) | (have H2_ := (Option.bind_some _ _).symm.trans H; with_reducible exact H2_) | with_reducible exact H | (rw [hy206]; exact H) | exact H
                      have Ny206 := Aside0.mk hy206
                      clear hy206
                      have H' := Aside0.mk H
                      clear H
                      go_wp2_with (first | ((with_reducible refine gate_dst (N := 64) rfl ?_); (try (refine gate_guard (by rfl) ?_; dsimp only)); refine Kd.R_lit Kd.bool _ 4 ?hg (N := 64) ?hd (xs := ([] : List Bool)) (inner := []) (ok := fun _ => True) (okp := fun _ => True) ?hr ?hp (fun _ hk => hk) trivial (Below.refl _ _) (Nat.le_refl _) (by simp) ?_; (case hd => rfl); (case hg => rfl); (case hr => first | (go_simp; done) | (go_simp; rfl)); (case hp => exact (Reps.none _ _)); intro v207 w30 ho31 hb hg_ hnew_; clear hg_ hnew_; (first | rw [← Ny206.out] at ho31 | (simp only [Int.reduceToNat] at ho31; rw [← Ny206.out] at ho31)); have n0_ := Aside0.mk (Kd.S_below (by (with_reducible repeat (first | apply Kd.S_alloc | apply Kd.S_drewN | apply Kd.S_drew)); exact HO_197000.out) hb); have n1_ := Aside0.mk (Kd.S_below (by (with_reducible repeat (first | apply Kd.S_alloc | apply Kd.S_drewN | apply Kd.S_drew)); exact HO_197001.out) hb); have n2_ := Aside0.mk (Kd.R_lower ho31 (below_size (by repeat (first | (with_reducible first | exact HB.out | apply below_alloc | apply pw_below_drewN | apply below_drew1 | refine below_set ?_ GE193.out | refine below_set ?_ GE196.out) | exact HB.out)))); have n3_ := Aside0.mk (blk_below (g := gb193) (o := .cells #[.slice none 0 0, .slice none 0 0] 25 (0, 0)) (by (with_reducible repeat (first | refine blk_drewN ?_ _ | refine blk_drew ?_ | refine blk_alloc ?_ _)); exact BK193.out) hb); have n4_ := Aside0.mk (blk_below (g := gb196) (o := .cells #[u197000, u197001] 25 (0, 0)) (by (with_reducible repeat (first | refine blk_drewN ?_ _ | refine blk_drew ?_ | refine blk_alloc ?_ _)); exact BK196.out) hb); have n5_ := Aside0.mk (below_step (by repeat (first | (with_reducible first | exact HB.out | apply below_alloc | apply pw_below_drewN | apply below_drew1 | refine below_set ?_ GE193.out | refine below_set ?_ GE196.out) | exact HB.out)) hb); clear HO_197000; clear HO_197001; clear BK193; clear BK196; clear HB; have HO_197000 := n0_; have HO_197001 := n1_; have HO208 := n2_; have BK193 := n3_; have BK196 := n4_; have HB := n5_; clear n0_ n1_ n2_ n3_ n4_ n5_; clear hb ho31))
                      go_loopg [8, 67] k3 (fun kq v8 v67 w' => ∃ (x8_4 : List Bool) (x67_4 : Int), v67 = .int .i64 x67_4 ∧ Aside0 (impl_PictureOf.l2 kq l0 x61_3 x8_4 ((rd_L3 l0 0).length : Int) x61_3 l0 (l0.length : Int) x67_4 x197000_2 x197001_3 = some (r1, r2, r3)) ∧ Aside0 (kq ≤ k3) ∧ Aside0 (Kd.R Kd.bool 4 w' w.heap.size (fun _ => True) v8 x8_4) ∧ Aside0 (Kd.S (Kd.slice 3 (Kd.int .i64)) 36 w' w.heap.size (fun k_ => PA k_ ∧ some k_ ≠ (u197001 : Value).ownBlock) u197000 x197000_2) ∧ Aside0 (Kd.S (Kd.slice 3 (Kd.int .i64)) 36 w' w.heap.size (fun k_ => PB k_ ∧ some k_ ≠ (u197000 : Value).ownBlock) u197001 x197001_3) ∧ Aside0 (w'.heap[gb193]? = some (.cells #[(.slice none 0 0), (.slice none 0 0)] 25 (0, 0))) ∧ Aside0 (w'.heap[gb196]? = some (.cells #[u197000, u197001] 25 (0, 0))) ∧ Aside0 (Below w.heap.size w w'))
                      case atStart => exact ⟨(y206), (0), (by first | rfl | (simp; done) | (simp [*]; done)), H', ⟨Nat.le_refl _⟩, ⟨by (with_reducible repeat (first | apply Kd.R_alloc | apply Kd.R_drewN | apply Kd.R_drew)); exact HO208.out⟩, ⟨by (with_reducible repeat (first | apply Kd.S_alloc | apply Kd.S_drewN | apply Kd.S_drew)); exact HO_197000.out⟩, ⟨by (with_reducible repeat (first | apply Kd.S_alloc | apply Kd.S_drewN | apply Kd.S_drew)); exact HO_197001.out⟩, ⟨by (with_reducible repeat (first | refine blk_drewN ?_ _ | refine blk_drew ?_ | refine blk_alloc ?_ _)); exact BK193.out⟩, ⟨by (with_reducible repeat (first | refine blk_drewN ?_ _ | refine blk_drew ?_ | refine blk_alloc ?_ _)); exact BK196.out⟩, ⟨by repeat (first | (with_reducible first | exact HB.out | apply below_alloc | apply pw_below_drewN | apply below_drew1 | refine below_set ?_ GE193.out | refine below_set ?_ GE196.out) | exact HB.out)⟩⟩
                      case round =>
                        clear H'
                        try clear c1
                        try clear p1
                        try clear q1
                        try clear hx1
                        try clear qi1
                        try clear c2
                        try clear p2
                        try clear q2
                        try clear hx2
                        try clear qi2
                        try clear c3
                        try clear c4
                        try clear c4b0
                        try clear c4b1
                        try clear c5
                        try clear c5b0
                        try clear c5b1
                        try clear c6
                        try clear c6b0
                        try clear c6b1
                        try clear p6
                        try clear c7
                        try clear c7b0
                        try clear c7b1
                        try clear c8
                        try clear c11
                        try clear c13
                        try clear c13b0
                        try clear c14
                        try clear c14b0
                        try clear c15
                        try clear c15b0
                        try clear c16
                        try clear c16b0
                        try clear c16b1
                        try clear c17
                        try clear c17b0
                        try clear c17b1
                        try clear c17b2
                        try clear c19
                        try clear p19
                        try clear q19
                        try clear hx19
                        try clear qi19
                        try clear c20
                        try clear p20
                        try clear q20
                        try clear hx20
                        try clear qi20
                        try clear c26
                        try clear c28
                        try clear c28b0
                        try clear c28b1
                        try clear c29
                        try clear c29b0
                        try clear hcz12_0
                        try clear hcz12_1
                        try clear hcz27_0
                        try clear hcz27_1
                        try clear hcz9_0
                        try clear hcz9_1
                        try clear hfz12_0
                        try clear hfz12_1
                        try clear hfz27_0
                        try clear hfz27_1
                        try clear hfz9_0
                        try clear hfz9_1
                        try clear hx194_0
                        try clear hx195_0
                        try clear hx197_0
                        try clear hx198_0
                        try clear hx205_0
                        try clear p1
                        try clear p19
                        try clear p194
                        try clear p195
                        try clear p197
                        try clear p198
                        try clear p2
                        try clear p20
                        try clear p205
                        try clear p6
                        try clear q1
                        try clear q19
                        try clear q194
                        try clear q195
                        try clear q197
                        try clear q198
                        try clear q2
                        try clear q20
                        try clear q205
                        obtain ⟨x8_4, x67_4, rfl, HA, HK4, HO_8, HO_197000, HO_197001, BK193, BK196, HB⟩ := hrel
                        cases gk with
                        | zero => exact absurd HA.out (by simp [impl_PictureOf.l2])
                        | succ k4 =>
                          have H := HA.out
                          clear HA
                          simp only [impl_PictureOf.l2] at H
                          by_cases c32 : x67_4 < (l0.length : Int)
                          · rw [if_pos c32] at H
                            have c32b0 : decide (x67_4 < (l0.length : Int)) = true := decide_eq_true c32
                            clear c32
                            by_cases c33 : 0 ≤ x67_4
                            · rw [if_pos c33] at H
                              have c33b0 : decide (0 ≤ x67_4) = true := decide_eq_true c33
                              clear c33
                              by_cases c34 : x67_4 < (l0.length : Int)
                              · rw [if_pos c34] at H
                                have c34b0 : decide (x67_4 < (l0.length : Int)) = true := decide_eq_true c34
                                clear c34
                                by_cases c35 : 0 ≤ x61_3
                                · rw [if_pos c35] at H
                                  have c35b0 : decide (0 ≤ x61_3) = true := decide_eq_true c35
                                  clear c35
                                  by_cases c36 : x61_3 < ((rd_L3 l0 x67_4).length : Int)
                                  · rw [if_pos c36] at H
                                    have c36b0 : decide (x61_3 < ((rd_L3 l0 x67_4).length : Int)) = true := decide_eq_true c36
                                    clear c36
                                    by_cases c37 : x8_4.length < 140737488355328
                                    · rw [if_pos c37] at H
                                      have LMc37 := Aside0.mk c37
                                      clear c37
                                      obtain ⟨y211, hy211⟩ : ∃ y_ : List Bool, y_ = (x8_4 ++ [rdOf false (rd_L3 l0 x67_4) x61_3]) := ⟨_, rfl⟩
                                      replace H : (impl_PictureOf.l2 k4 l0 x61_3 y211 ((rd_L3 l0 0).length : Int) x61_3 l0 (l0.length : Int) (wrap64 (x67_4 + 1)) x197000_2 x197001_3) = some (r1, r2, r3) := by first | (rw [hy211]; with_reducible exact H) | (have H2_ := (Option.bind_some _ _).symm.trans H; rw [hy211]; with_reducible exact H2_) | (have H2_ := (Option.bind_some _ _).symm.trans H; with_reducible exact H2_) | with_reducible exact H | (rw [hy211]; exact H) | exact H
                                      have Ny211 := Aside0.mk hy211
                                      clear hy211
                                      have H' := Aside0.mk H
                                      clear H
                                      have p209 : 0 ≤ (x67_4 : Int) := of_decide_eq_true (by first | (with_reducible assumption) | assumption)
                                      have q209 : x67_4 < (l0.length : Int) := of_decide_eq_true (by first | (with_reducible assumption) | assumption)
                                      obtain ⟨ad209, A209_0, c209_0, e209, hx209_0, hl209_0, hi209_0⟩ := at_L3 HR0.out x67_4 p209 q209
                                      obtain rfl : ad205 = ad209 := (by injection e209)
                                      replace hx209_0 := (HB.out.cell (World.block_lt_of_cell? w _ hx209_0)).trans hx209_0
                                      have HR209_0 := Aside0.mk hi209_0
                                      have HC209_0 := Aside0.mk hl209_0
                                      clear hi209_0 hl209_0
                                      replace p209 := eq_true p209
                                      replace q209 := eq_true q209
                                      have p210 : 0 ≤ (x61_3 : Int) := of_decide_eq_true (by first | (with_reducible assumption) | assumption)
                                      have q210 : x61_3 < ((rd_L3 l0 x67_4).length : Int) := of_decide_eq_true (by first | (with_reducible assumption) | assumption)
                                      obtain ⟨ad210, e210, hx210_0⟩ := Kd.at_bool HR209_0.out x61_3 p210 q210
                                      cases e210
                                      replace hx210_0 := (HB.out.cell (World.block_lt_of_cell? w _ hx210_0)).trans hx210_0
                                      replace p210 := eq_true p210
                                      replace q210 := eq_true q210
                                      go_wp2_with (first | ((with_reducible refine gate_builtin (b := .append) (xs := #[.tmp 71, .tmp 76]) rfl ?_); (try (refine gate_guard (by rfl) ?_; dsimp only)); at_builtin; refine Kd.R_append Kd.bool (w0 := w) w.heap.size rfl (.tmp 71) (.tmp 76) 37 4 (.bool false) 1 rfl Try.underlying37 info4 rfl (by decide) (by omega) u8 x8_4 (rdOf false (rd_L3 l0 x67_4) x61_3) [.bool (rdOf false (rd_L3 l0 x67_4) x61_3)] (fun _ => True) (fun _ => False) rfl rfl ?aP (fun _ hk => hk.elim) ?aF ?aO ?aB ?aS ?aL ?_; (case aP => exact rfl); (case aB => exact (by repeat (first | (with_reducible first | exact HB.out | apply below_alloc | apply pw_below_drewN | apply below_drew1 | refine below_set ?_ GE193.out | refine below_set ?_ GE196.out) | exact HB.out))); (case aF => exact (fun _ _ => trivial)); (case aO => exact (by (with_reducible repeat (first | apply Kd.R_alloc | apply Kd.R_drewN | apply Kd.R_drew)); exact HO_8.out)); (case aS => exact (below_size (by repeat (first | (with_reducible first | exact HB.out | apply below_alloc | apply pw_below_drewN | apply below_drew1 | refine below_set ?_ GE193.out | refine below_set ?_ GE196.out) | exact HB.out)))); (case aL => have := LMc37.out; omega); intro v212 w38 ho hb hg hat; rw [← Ny211.out] at ho; have n0_ := Aside0.mk (Kd.S_over' (by (with_reducible repeat (first | apply Kd.S_alloc | apply Kd.S_drewN | apply Kd.S_drew)); exact HO_197000.out) (Kd.R_typed (by (with_reducible repeat (first | apply Kd.R_alloc | apply Kd.R_drewN | apply Kd.R_drew)); exact HO_8.out)) (by decide) hg); have n1_ := Aside0.mk (Kd.S_over' (by (with_reducible repeat (first | apply Kd.S_alloc | apply Kd.S_drewN | apply Kd.S_drew)); exact HO_197001.out) (Kd.R_typed (by (with_reducible repeat (first | apply Kd.R_alloc | apply Kd.R_drewN | apply Kd.R_drew)); exact HO_8.out)) (by decide) hg); have n2_ := Aside0.mk (blk_grown (g := gb193) (o := .cells #[.slice none 0 0, .slice none 0 0] 25 (0, 0)) (by (with_reducible repeat (first | refine blk_drewN ?_ _ | refine blk_drew ?_ | refine blk_alloc ?_ _)); exact BK193.out) hg (Kd.R_ne HO_8.out BK193.out (by decide))); have n3_ := Aside0.mk (blk_grown (g := gb196) (o := .cells #[u197000, u197001] 25 (0, 0)) (by (with_reducible repeat (first | refine blk_drewN ?_ _ | refine blk_drew ?_ | refine blk_alloc ?_ _)); exact BK196.out) hg (Kd.R_ne HO_8.out BK196.out (by decide))); have n4_ := Aside0.mk (hb); have n5_ := Aside0.mk (ho); clear HO_197000; clear HO_197001; clear BK193; clear BK196; clear HB; clear HO_8; have HO_197000 := n0_; have HO_197001 := n1_; have BK193 := n2_; have BK196 := n3_; have HB := n4_; have HO213 := n5_; clear n0_ n1_ n2_ n3_ n4_ n5_; clear ho hb hg hat))
                                      go_roundg k4
                                      case measure => have := HJ1.out; have := HK2.out; have := HK3.out; have := HK4.out; omega
                                      case rel => exact ⟨(y211), (wrap64 (x67_4 + 1)), (by first | rfl | (simp; done) | (simp [*]; done)), H', ⟨by have := HJ1.out; have := HK2.out; have := HK3.out; have := HK4.out; omega⟩, ⟨by (with_reducible repeat (first | apply Kd.R_alloc | apply Kd.R_drewN | apply Kd.R_drew)); exact HO213.out⟩, ⟨by (with_reducible repeat (first | apply Kd.S_alloc | apply Kd.S_drewN | apply Kd.S_drew)); exact HO_197000.out⟩, ⟨by (with_reducible repeat (first | apply Kd.S_alloc | apply Kd.S_drewN | apply Kd.S_drew)); exact HO_197001.out⟩, ⟨by (with_reducible repeat (first | refine blk_drewN ?_ _ | refine blk_drew ?_ | refine blk_alloc ?_ _)); exact BK193.out⟩, ⟨by (with_reducible repeat (first | refine blk_drewN ?_ _ | refine blk_drew ?_ | refine blk_alloc ?_ _)); exact BK196.out⟩, ⟨by repeat (first | (with_reducible first | exact HB.out | apply below_alloc | apply pw_below_drewN | apply below_drew1 | refine below_set ?_ GE193.out | refine below_set ?_ GE196.out) | exact HB.out)⟩⟩
                                    · rw [if_neg c37] at H
                                      exact absurd H (by simp)
                                  · rw [if_neg c36] at H
                                    exact absurd H (by simp)
                                · rw [if_neg c35] at H
                                  exact absurd H (by simp)
                              · rw [if_neg c34] at H
                                exact absurd H (by simp)
                            · rw [if_neg c33] at H
                              exact absurd H (by simp)
                          · rw [if_neg c32] at H
                            have c32b0 : decide (x67_4 < (l0.length : Int)) = false := decide_eq_false c32
                            clear c32
                            replace H := Option.bind_eq_some_iff.mp H
                            obtain ⟨t214, A390, H⟩ := H
                            replace H : (if x197001_3.length < 5864062014805 then (impl_PictureOf.l1 k4 l0 ((rd_L3 l0 0).length : Int) (wrap64 (x61_3 + 1)) x197000_2 (x197001_3 ++ [t214])) else (none)) = some (r1, r2, r3) := H
                            have A39 := Aside0.mk A390
                            clear A390
                            by_cases c40 : x197001_3.length < 5864062014805
                            · rw [if_pos c40] at H
                              have LMc40 := Aside0.mk c40
                              clear c40
                              obtain ⟨y217, hy217⟩ : ∃ y_ : List (List Int), y_ = (x197001_3 ++ [t214]) := ⟨_, rfl⟩
                              replace H : (impl_PictureOf.l1 k4 l0 ((rd_L3 l0 0).length : Int) (wrap64 (x61_3 + 1)) x197000_2 y217) = some (r1, r2, r3) := by first | (rw [hy217]; with_reducible exact H) | (have H2_ := (Option.bind_some _ _).symm.trans H; rw [hy217]; with_reducible exact H2_) | (have H2_ := (Option.bind_some _ _).symm.trans H; with_reducible exact H2_) | with_reducible exact H | (rw [hy217]; exact H) | exact H
                              have Ny217 := Aside0.mk hy217
                              clear hy217
                              have H' := Aside0.mk H
                              clear H
                              try go_wp2
                              have n0_ := Aside0.mk (Kd.R_drew HO_8.out)
                              have n1_ := Aside0.mk (Kd.S_drew HO_197000.out)
                              have n2_ := Aside0.mk (Kd.S_drew HO_197001.out)
                              have n3_ := Aside0.mk (blk_drew BK193.out)
                              have n4_ := Aside0.mk (blk_drew BK196.out)
                              have n5_ := Aside0.mk (below_drew1 HB.out)
                              clear HO_8
                              clear HO_197000
                              clear HO_197001
                              clear BK193
                              clear BK196
                              clear HB
                              have HO_8 := n0_
                              have HO_197000 := n1_
                              have HO_197001 := n2_
                              have BK193 := n3_
                              have BK196 := n4_
                              have HB := n5_
                              clear n0_ n1_ n2_ n3_ n4_ n5_
                              obtain ⟨Ao42, co42, eo42⟩ := Kd.R_slice HO_8.out
                              (first | subst eo42 | (injection eo42 with f1_ f2_ f3_; have f4_ := f1_.symm; have f5_ := f3_.symm; clear f1_ f2_ f3_; subst f4_; subst f5_))
                              refine start_ (n := 8) (S := fun w' => w'.cell? ⟨gb196, 0, none⟩ = some (u197000) ∧ w'.cell? ⟨gb196, 1, none⟩ = some (u197001)) (ds := [7]) #[false, false, false, false, false, false, false, false] (by kernel_rfl) rfl rfl ⟨(blk_cell BK196.out 0).trans rfl, (blk_cell BK196.out 1).trans rfl⟩ (fun hHeld => ?_); refine with_tabW impl_PictureOf.tab20 impl_PictureOf.bits20 (fun HT_ HW_ => ?_)
                              generalize wr.drew = w41 at HO_8 HO_197000 HO_197001 BK193 BK196 HB hHeld ⊢
                              refine pure_ (i := 0) (N := some 79) (v := ?_) (a' := ?_) #[true, false, false, false, false, false, false, false] rfl rfl (any_of HT_.out (by kernel_rfl)) (fun _ _ _ h => h) (Or.inl ⟨by rfl, ?_⟩) ?_ ?_
                              rotate_left
                              · intro w'
                                go_simp
                                with_reducible rfl
                              rotate_left
                              · simp only [Act.put, List.setIfInBounds_toArray, List.set_cons_zero, List.set_cons_succ, i64_w, i32_w]
                                rfl
                              refine pure_ (i := 2) (N := some 81) (v := ?_) (a' := ?_) #[true, false, true, false, false, false, false, false] rfl rfl (any_of HT_.out (by kernel_rfl)) (fun _ _ _ h => h) (Or.inl ⟨by rfl, ?_⟩) ?_ ?_
                              rotate_left
                              · intro w'
                                go_simp
                                with_reducible rfl
                              rotate_left
                              · simp only [Act.put, List.setIfInBounds_toArray, List.set_cons_zero, List.set_cons_succ, i64_w, i32_w]
                                rfl
                              refine take_ (i := 1) (N := some 80) (v := ?_) (a' := ?_) #[true, true, true, false, false, false, false, false] rfl rfl (take_ofW HT_.out HW_.out (by kernel_rfl)) (fun _ _ _ h => h) (Or.inl ⟨by rfl, ?_⟩) hHeld ?_ ?_
                              rotate_left
                              · rintro w' ⟨s0, s1⟩
                                go_simp
                                with_reducible rfl
                              rotate_left
                              · simp only [Act.put, List.setIfInBounds_toArray, List.set_cons_zero, List.set_cons_succ, i64_w, i32_w]
                                rfl
                              refine one_ (i := 3) (N := some 82) #[true, true, true, true, false, false, false, false] rfl rfl (one_of HT_.out (by kernel_rfl)) (by decide) (fun K hK => ?_)
                              refine goes_ Try.func65 (by kernel_rfl) rfl #[.slice Ao42 x8_4.length co42] (by rfl) rfl rfl (by (try simp only [List.map_toArray, List.map_cons, List.map_nil]); first | done | rfl | (simp only [List.length_drop, List.length_take]; rfl)) ?_
                              with_reducible refine (impl_ClueOf.calls k4 _ _ x8_4 t214 _ ?side1 ?side2 A39.out).mono ?_
                              (case side1 => repeat (first | exact (Kd.R_reads' HO_8.out).2.2 | (with_reducible refine Kd.C_alloc ?_ _) | (with_reducible refine Kd.C_drewN ?_ _) | (with_reducible refine Kd.C_drew ?_)))
                              (case side2 => exact (Kd.R_reads' HO_8.out).2.1)
                              rintro e w43 ⟨v215, rfl, ho0, hb⟩
                              refine ⟨_, rfl, ?_⟩
                              have n0_ := Aside0.mk (Kd.R_below (by (with_reducible repeat (first | apply Kd.R_alloc | apply Kd.R_drewN | apply Kd.R_drew)); exact HO_8.out) hb)
                              have n1_ := Aside0.mk (Kd.S_elder' (by (with_reducible repeat (first | apply Kd.S_alloc | apply Kd.S_drewN | apply Kd.S_drew)); exact HO_197000.out) (Kd.R_base ho0) hb)
                              have n2_ := Aside0.mk (Kd.S_elder' (by (with_reducible repeat (first | apply Kd.S_alloc | apply Kd.S_drewN | apply Kd.S_drew)); exact HO_197001.out) (Kd.R_base ho0) hb)
                              have n3_ := Aside0.mk (Kd.R_lower ho0 (below_size (by repeat (first | (with_reducible first | exact HB.out | apply below_alloc | apply pw_below_drewN | apply below_drew1 | refine below_set ?_ GE193.out | refine below_set ?_ GE196.out) | exact HB.out))))
                              have n4_ := Aside0.mk (blk_below (g := gb193) (o := .cells #[.slice none 0 0, .slice none 0 0] 25 (0, 0)) (by (with_reducible repeat (first | refine blk_drewN ?_ _ | refine blk_drew ?_ | refine blk_alloc ?_ _)); exact BK193.out) hb)
                              have n5_ := Aside0.mk (blk_below (g := gb196) (o := .cells #[u197000, u197001] 25 (0, 0)) (by (with_reducible repeat (first | refine blk_drewN ?_ _ | refine blk_drew ?_ | refine blk_alloc ?_ _)); exact BK196.out) hb)
                              have n6_ := Aside0.mk (below_step (by repeat (first | (with_reducible first | exact HB.out | apply below_alloc | apply pw_below_drewN | apply below_drew1 | refine below_set ?_ GE193.out | refine below_set ?_ GE196.out) | exact HB.out)) hb)
                              clear HO_8
                              clear HO_197000
                              clear HO_197001
                              clear BK193
                              clear BK196
                              clear HB
                              have HO_8 := n0_
                              have HO_197000 := n1_
                              have HO_197001 := n2_
                              have HO216 := n3_
                              have BK193 := n4_
                              have BK196 := n5_
                              have HB := n6_
                              clear n0_ n1_ n2_ n3_ n4_ n5_ n6_
                              (try clear hb)
                              (try clear hb2)
                              (try clear hk)
                              (try clear hi)
                              (try clear ho0)
                              obtain ⟨Ao45, co45, eo45⟩ := Kd.R_slice HO216.out
                              (first | subst eo45 | (injection eo45 with f1_ f2_ f3_; have f4_ := f1_.symm; have f5_ := f3_.symm; clear f1_ f2_ f3_; subst f4_; subst f5_))
                              refine hK.out _ _ ⟨(blk_cell BK196.out 0).trans rfl, (blk_cell BK196.out 1).trans rfl⟩ (fun hHeld => ?_)
                              clear hK K
                              refine norm_ (a' := ?_) ?_ ?_
                              rotate_left
                              · show Act.put _ (some 82) _ = _
                                simp only [Act.put, List.setIfInBounds_toArray, List.set_cons_zero, List.set_cons_succ, i64_w, i32_w]
                                rfl
                              refine one_ (i := 4) (N := some 83) #[true, true, true, true, true, false, false, false] rfl rfl (one_of HT_.out (by kernel_rfl)) (by decide) (fun K hK => ?_)
                              refine value_ (w1 := ?_) (v := ?_) (by rfl) rfl ?_ ?_
                              rotate_left 2
                              · go_simp
                                constructor
                                · rfl
                                · rfl
                              refine hK.out _ _ ⟨(blk_cell (blk_alloc BK196.out _) 0).trans rfl, (blk_cell (blk_alloc BK196.out _) 1).trans rfl⟩ (fun hHeld => ?_)
                              clear hK K
                              refine norm_ (a' := ?_) ?_ ?_
                              rotate_left
                              · show Act.put _ (some 83) _ = _
                                simp only [Act.put, List.setIfInBounds_toArray, List.set_cons_zero, List.set_cons_succ, i64_w, i32_w]
                                rfl
                              refine one_ (i := 5) (N := some 84) #[true, true, true, true, true, true, false, false] rfl rfl (one_of HT_.out (by kernel_rfl)) (by decide) (fun K hK => ?_)
                              refine Kd.S_append_step (Kd.slice 3 (Kd.int .i64)) (w0 := w) w.heap.size (by rfl) (.tmp 80) (.tmp 83) 23 36 (.slice none 0 0) 24 rfl Try.underlying23 info36 rfl (by decide) (by omega) u197001 x197001_3 t214 [.slice Ao45 t214.length co45] (fun k_ => (PB k_ ∨ some k_ = (.slice Ao45 t214.length co45 : Value).ownBlock ∨ w43.heap.size ≤ k_) ∧ some k_ ≠ (u197000 : Value).ownBlock) (fun k_ => some k_ = (.slice Ao45 t214.length co45 : Value).ownBlock) rfl rfl ?aP (fun k_ hk_ => ⟨⟨.inr (.inl hk_), (((Kd.R_mono (ok' := fun k_ => ((fun k_ => some k_ ≠ (u197000 : Value).ownBlock)) k_ ∧ some k_ ≠ (u197001 : Value).ownBlock) (Kd.R_apart' (Kd.R_apart' (HO216.out) (Kd.S_typed HO_197000.out) (by decide)) (Kd.S_typed HO_197001.out) (by decide)) (fun k_ hk => ⟨hk.1.2, hk.2⟩))).1 k_ hk_.symm).1⟩, (((Kd.R_mono (ok' := fun k_ => ((fun k_ => some k_ ≠ (u197000 : Value).ownBlock)) k_ ∧ some k_ ≠ (u197001 : Value).ownBlock) (Kd.R_apart' (Kd.R_apart' (HO216.out) (Kd.S_typed HO_197000.out) (by decide)) (Kd.S_typed HO_197001.out) (by decide)) (fun k_ hk => ⟨hk.1.2, hk.2⟩))).1 k_ hk_.symm).2⟩) ?aF ?aO ?aB ?aS ?aL ?_
                              (case aP => exact Kd.M_row (Kd.R_mono (Kd.R_tight rfl (Kd.R_mono (ok' := fun k_ => ((fun k_ => some k_ ≠ (u197000 : Value).ownBlock)) k_ ∧ some k_ ≠ (u197001 : Value).ownBlock) (Kd.R_apart' (Kd.R_apart' (HO216.out) (Kd.S_typed HO_197000.out) (by decide)) (Kd.S_typed HO_197001.out) (by decide)) (fun k_ hk => ⟨hk.1.2, hk.2⟩))) (fun _ h_ => h_)))
                              (case aB => exact (by repeat (first | (with_reducible first | exact HB.out | apply below_alloc | apply pw_below_drewN | apply below_drew1 | refine below_set ?_ GE193.out | refine below_set ?_ GE196.out) | exact HB.out)))
                              (case aF => exact (fun k_ hk => ⟨.inr (.inr (by first | exact hk | exact Nat.le_trans (Nat.le_succ _) hk | (have h_ := hk; simp [World.size_alloc] at h_; omega))), Kd.fresh' (Kd.S_lt (by (with_reducible repeat (first | apply Kd.S_alloc | apply Kd.S_drewN | apply Kd.S_drew)); exact HO_197000.out)) k_ hk⟩))
                              (case aO => exact (by (with_reducible repeat (first | apply Kd.S_alloc | apply Kd.S_drewN | apply Kd.S_drew)); exact Kd.S_mono HO_197001.out (fun k_ hk => ⟨⟨.inl hk.1.1, hk.1.2⟩, fun e_ => hk.2 e_⟩)))
                              (case aS => exact (below_size (by repeat (first | (with_reducible first | exact HB.out | apply below_alloc | apply pw_below_drewN | apply below_drew1 | refine below_set ?_ GE193.out | refine below_set ?_ GE196.out) | exact HB.out))))
                              (case aL => have := LMc40.out; omega)
                              intro v218 w44 ho hb hg hat
                              rw [← Ny217.out] at ho
                              have n0_ := Aside0.mk (Kd.R_over' (by (with_reducible repeat (first | apply Kd.R_alloc | apply Kd.R_drewN | apply Kd.R_drew)); exact HO_8.out) (Kd.S_typed (by (with_reducible repeat (first | apply Kd.S_alloc | apply Kd.S_drewN | apply Kd.S_drew)); exact HO_197001.out)) (by decide) hg)
                              have n1_ := Aside0.mk (Kd.S_after (ok := (fun k_ => (PA k_ ∧ some k_ ≠ (.slice Ao45 t214.length co45 : Value).ownBlock ∧ k_ < w43.heap.size))) (by (with_reducible repeat (first | apply Kd.S_alloc | apply Kd.S_drewN | apply Kd.S_drew)); exact Kd.S_mono (Kd.S_bound HO_197000.out) (fun _ hk => ⟨⟨hk.1.1.1, hk.1.2, hk.2.2.1⟩, hk.1.1.2⟩)) hg hat)
                              have n2_ := Aside0.mk (blk_grown (g := gb193) (o := .cells #[.slice none 0 0, .slice none 0 0] 25 (0, 0)) (by (with_reducible repeat (first | refine blk_drewN ?_ _ | refine blk_drew ?_ | refine blk_alloc ?_ _)); exact BK193.out) hg (Kd.S_ne HO_197001.out BK193.out (by decide)))
                              have n3_ := Aside0.mk (blk_grown (g := gb196) (o := .cells #[u197000, u197001] 25 (0, 0)) (by (with_reducible repeat (first | refine blk_drewN ?_ _ | refine blk_drew ?_ | refine blk_alloc ?_ _)); exact BK196.out) hg (Kd.S_ne HO_197001.out BK196.out (by decide)))
                              have n4_ := Aside0.mk (hb)
                              have n5_ := Aside0.mk (ho)
                              clear HO_8
                              clear HO_197000
                              clear BK193
                              clear BK196
                              clear HB
                              clear HO_197001
                              clear HO216
                              have HO_8 := n0_
                              have HO_197000 := n1_
                              have BK193 := n2_
                              have BK196 := n3_
                              have HB := n4_
                              have HO219 := n5_
                              clear n0_ n1_ n2_ n3_ n4_ n5_
                              clear ho hb hg hat
                              obtain ⟨Ao46, co46, eo46⟩ := Kd.S_slice HO219.out
                              (first | subst eo46 | (injection eo46 with f1_ f2_ f3_; have f4_ := f1_.symm; have f5_ := f3_.symm; clear f1_ f2_ f3_; subst f4_; subst f5_))
                              refine hK.out _ _ ⟨(blk_cell BK196.out 0).trans rfl, (blk_cell BK196.out 1).trans rfl⟩ (fun hHeld => ?_)
                              clear hK K
                              refine norm_ (a' := ?_) ?_ ?_
                              rotate_left
                              · show Act.put _ (some 84) _ = _
                                simp only [Act.put, List.setIfInBounds_toArray, List.set_cons_zero, List.set_cons_succ, i64_w, i32_w]
                                rfl
                              refine pure_ (i := 6) (N := some 85) (v := ?_) (a' := ?_) #[true, true, true, true, true, true, true, false] rfl rfl (any_of HT_.out (by kernel_rfl)) (fun _ _ _ h => h) (Or.inl ⟨by rfl, ?_⟩) ?_ ?_
                              rotate_left
                              · intro w'
                                go_simp
                                with_reducible rfl
                              rotate_left
                              · simp only [Act.put, List.setIfInBounds_toArray, List.set_cons_zero, List.set_cons_succ, i64_w, i32_w]
                                rfl
                              refine last_ (i := 7) (N := none) #[true, true, true, true, true, true, true, true] rfl rfl (one_of HT_.out (by kernel_rfl)) (by decide) (fun K hK => ?_)
                              have hs47 : w44.cell? ⟨gb196, 1, none⟩ = some (u197001) := (blk_cell BK196.out 1).trans rfl
                              have hfs47 := blk_frozen BK196.out 1
                              have hns47_0 := NB193_196.out
                              have hms47_0 := NB196_193.out
                              refine skip_ (w1 := ?_) (by rfl) rfl ?_ ?_
                              rotate_left
                              · go_simp
                                rfl
                              refine hK.out _ _ ?_
                              clear hK K
                              refine done_ (done_of HT_.out (by kernel_rfl)) ?_
                              try go_wp2
                              go_roundg k4
                              case measure => have := HJ1.out; have := HK2.out; have := HK3.out; have := HK4.out; omega
                              case rel => exact ⟨(wrap64 (x61_3 + 1)), (y217), (.slice Ao46 y217.length co46), (by first | rfl | (simp; done) | (simp [*]; done)), H', ⟨by have := HJ1.out; have := HK2.out; have := HK3.out; have := HK4.out; omega⟩, ⟨⟨fun k_ => (PA k_ ∧ some k_ ≠ (.slice Ao45 t214.length co45 : Value).ownBlock ∧ k_ < w43.heap.size), fun k_ => (PB k_ ∨ some k_ = (.slice Ao45 t214.length co45 : Value).ownBlock ∨ w43.heap.size ≤ k_), (fun k_ h1_ h2_ => by obtain ⟨a1_, a2_, a3_⟩ := h1_; rcases h2_ with h2_ | h2_ | h2_; exact HPD.out k_ a1_ h2_; exact a2_ h2_; omega), by (with_reducible repeat (first | apply Kd.S_alloc | apply Kd.S_drewN | apply Kd.S_drew)); exact Kd.S_mono (Kd.S_far (p := ⟨gb196, 1, none⟩) (Kd.S_types HO_197000.out BK196.out (by decide)) (fun _ hk => hk.2) (.slice Ao46 y217.length co46)) (fun _ hk => hk.1), by (with_reducible repeat (first | apply Kd.S_alloc | apply Kd.S_drewN | apply Kd.S_drew)); exact Kd.S_mono (Kd.S_far (p := ⟨gb196, 1, none⟩) (Kd.S_types HO219.out BK196.out (by decide)) (fun _ hk => hk.2) (.slice Ao46 y217.length co46)) (fun _ hk => hk.1)⟩⟩, ⟨trivial⟩, ⟨by (with_reducible repeat (first | refine blk_drewN ?_ _ | refine blk_drew ?_ | refine blk_alloc ?_ _)); refine blk_far ?_ NB193_196.out _; (with_reducible repeat (first | refine blk_drewN ?_ _ | refine blk_drew ?_ | refine blk_alloc ?_ _)); exact BK193.out⟩, ⟨by (with_reducible repeat (first | refine blk_drewN ?_ _ | refine blk_drew ?_ | refine blk_alloc ?_ _)); refine blk_put (cs := #[u197000, u197001]) ?_ 1 _ rfl; (with_reducible repeat (first | refine blk_drewN ?_ _ | refine blk_drew ?_ | refine blk_alloc ?_ _)); exact BK196.out⟩, ⟨by repeat (first | (with_reducible first | exact HB.out | apply below_alloc | apply pw_below_drewN | apply below_drew1 | refine below_set ?_ GE193.out | refine below_set ?_ GE196.out) | exact HB.out)⟩⟩
                            · rw [if_neg c40] at H
                              exact absurd H (by simp)
                    · rw [if_neg c29] at H
                      have c29b0 : decide (x61_3 < ((rd_L3 l0 0).length : Int)) = false := decide_eq_false c29
                      clear c29
                      simp only [Option.some.injEq, Prod.mk.injEq] at H
                      obtain ⟨rfl, rfl, rfl⟩ := H
                      have hnb48 := NB196_193.out
                      have hnc48 := NB193_196.out
                      have hcz49_0 : wr.cell? ⟨gb196, 0, none⟩ = some (u197000) := (blk_cell BK196.out 0).trans rfl
                      have hcz49_1 : wr.cell? ⟨gb196, 1, none⟩ = some (u197001) := (blk_cell BK196.out 1).trans rfl
                      have hfz49_0 := blk_frozen BK196.out 0
                      have hfz49_1 := blk_frozen BK196.out 1
                      obtain ⟨Ao50, co50, eo50⟩ := Kd.S_slice HO_197000.out
                      subst eo50
                      have hcz51_0 : wr.cell? ⟨gb193, 0, none⟩ = some (.slice none 0 0) := (blk_cell BK193.out 0).trans rfl
                      have hcz51_1 : wr.cell? ⟨gb193, 1, none⟩ = some (.slice none 0 0) := (blk_cell BK193.out 1).trans rfl
                      have hfz51_0 := blk_frozen BK193.out 0
                      have hfz51_1 := blk_frozen BK193.out 1
                      obtain ⟨Ao52, co52, eo52⟩ := Kd.S_slice HO_197001.out
                      subst eo52
                      go_wp2
                      refine bodyPost_ret (results_ct rfl _ _ gb193 25 #[.slice Ao50 x197000_2.length co50, .slice Ao52 x197001_3.length co52] (0, 0) _ rfl (by (with_reducible repeat (first | refine blk_drewN ?_ _ | refine blk_drew ?_ | refine blk_alloc ?_ _)); refine blk_put (cs := #[.slice Ao50 x197000_2.length co50, .slice none 0 0]) ?_ 1 _ rfl; (with_reducible repeat (first | refine blk_drewN ?_ _ | refine blk_drew ?_ | refine blk_alloc ?_ _)); refine blk_put (cs := #[.slice none 0 0, .slice none 0 0]) ?_ 0 _ rfl; (with_reducible repeat (first | refine blk_drewN ?_ _ | refine blk_drew ?_ | refine blk_alloc ?_ _)); exact BK193.out) Try.underlying25 rfl (by kernel_rfl)) rfl ?_
                      exact ⟨_, _, by first | rfl | (simp [errW_none, errW_some] <;> rfl) | (simp [*, errW_none, errW_some] <;> rfl), ⟨PA, PB, by (with_reducible repeat (first | apply Kd.S_alloc | apply Kd.S_drewN | apply Kd.S_drew)); exact Kd.S_mono (Kd.S_far (p := ⟨gb193, 1, none⟩) (Kd.S_far (p := ⟨gb193, 0, none⟩) (Kd.S_types HO_197000.out BK193.out (by decide)) (fun _ hk => hk.2) (.slice Ao50 x197000_2.length co50)) (fun _ hk => hk.2) (.slice Ao52 x197001_3.length co52)) (fun _ hk => hk.1.1), by (with_reducible repeat (first | apply Kd.S_alloc | apply Kd.S_drewN | apply Kd.S_drew)); exact Kd.S_mono (Kd.S_far (p := ⟨gb193, 1, none⟩) (Kd.S_far (p := ⟨gb193, 0, none⟩) (Kd.S_types HO_197001.out BK193.out (by decide)) (fun _ hk => hk.2) (.slice Ao50 x197000_2.length co50)) (fun _ hk => hk.2) (.slice Ao52 x197001_3.length co52)) (fun _ hk => hk.1.1), HPD.out⟩, by repeat (first | (with_reducible first | exact HB.out | apply below_alloc | apply pw_below_drewN | apply below_drew1 | refine below_set ?_ GE193.out | refine below_set ?_ GE196.out) | exact HB.out)⟩
              · rw [if_neg c28] at H
                exact absurd H (by simp)

end Go.Proofs.Ytapnohcfnclleaa.PFnExactPictureOf
