-- Made by a program of this session (the kit print, shortened, twice): the kit print itself does not give this text
import Derived.Test.YtapnohcfnclleaaV4
import Derived.Test.YtapnohcfnclleaaPFnPictureLinesx0
import Derived.Test.YtapnohcfnclleaaPFnPictureLinesx9
import Derived.Test.YtapnohcfnclleaaPFnPictureLinesx10
import Derived.Test.YtapnohcfnclleaaPFnPictureLinesx11
namespace Go.Proofs.Ytapnohcfnclleaa.PFnPictureLines
open Go.RowKit Go.Proofs.YtapnohcfnclleaaW.PrintWords Go.Proofs.YtapnohcfnclleaaW.PrintLast Go.Proofs.YtapnohcfnclleaaW.PrintMore
attribute [local go_sem] max2_int min2_int max_two min_two max_three min_three max_four min_four   -- for this text's walks alone
set_option linter.unusedVariables false
set_option linter.unusedSimpArgs false
/-! ### spec_PictureLines: function 16 -/
mutual
def spec_PictureLines.l0 : Nat → List (List Int) → Bool → List (List Int) → List (List Int) → Option ((List (List Int)) × Bool)
 | 0, _, _, _, _ => none
 | k + 1, x4, x5, x447000, x447001 => if x5 = true then (spec_PictureLines.l1 k x4 false 0 x447000 x447001) else (some (x4, true))
def spec_PictureLines.l1 : Nat → List (List Int) → Bool → Int → List (List Int) → List (List Int) → Option ((List (List Int)) × Bool)
 | 0, _, _, _, _, _ => none
 | k + 1, x4, x5, x6, x447000, x447001 => if x6 < (x447000.length : Int) then (if 0 ≤ x6 then (if x6 < (x4.length : Int) then ((spec_LineForced.f k (rd_L1 x447000 x6) (rd_L1 x4 x6)).bind fun bt456 => (if bt456.2 = true then (if x5 = true then (spec_PictureLines.l1 k (x4.set (x6 : Int).toNat bt456.1) true (wrap64 (x6 + 1)) x447000 x447001) else ((spec_l8Same.f k bt456.1 (rd_L1 x4 x6)).bind fun t462 => (spec_PictureLines.l1 k (x4.set (x6 : Int).toNat bt456.1) (!t462) (wrap64 (x6 + 1)) x447000 x447001))) else (some ((([] : List (List Int))), false)))) else (none)) else (none)) else (spec_PictureLines.l2 k x4 x5 0 x447000 x447001)
def spec_PictureLines.l2 : Nat → List (List Int) → Bool → Int → List (List Int) → List (List Int) → Option ((List (List Int)) × Bool)
 | 0, _, _, _, _, _ => none
 | k + 1, x4, x5, x9, x447000, x447001 => if x9 < (x447001.length : Int) then (spec_PictureLines.l3 k x4 x5 x9 (([] : List Int)) 0 x447000 x447001) else (spec_PictureLines.l0 k x4 x5 x447000 x447001)
def spec_PictureLines.l3 : Nat → List (List Int) → Bool → Int → List Int → Int → List (List Int) → List (List Int) → Option ((List (List Int)) × Bool)
 | 0, _, _, _, _, _, _, _ => none
 | k + 1, x4, x5, x9, x10, x11, x447000, x447001 => if x11 < (x4.length : Int) then (if 0 ≤ x11 then (if 0 ≤ x9 then (if x9 < ((rd_L1 x4 x11).length : Int) then (if x10.length < 17592186044416 then (spec_PictureLines.l3 k x4 x5 x9 (x10 ++ [rd (rd_L1 x4 x11) x9]) (wrap64 (x11 + 1)) x447000 x447001) else (none)) else (none)) else (none)) else (none)) else (if 0 ≤ x9 then (if x9 < (x447001.length : Int) then ((spec_LineForced.f k (rd_L1 x447001 x9) x10).bind fun bt476 => (if bt476.2 = true then (if x5 = true then (spec_PictureLines.j4 k x4 true x9 bt476.1 x447000 x447001) else ((spec_l8Same.f k bt476.1 x10).bind fun t483 => (spec_PictureLines.j4 k x4 (!t483) x9 bt476.1 x447000 x447001))) else (some ((([] : List (List Int))), false)))) else (none)) else (none))
def spec_PictureLines.j4 : Nat → List (List Int) → Bool → Int → List Int → List (List Int) → List (List Int) → Option ((List (List Int)) × Bool)
 | 0, _, _, _, _, _, _ => none
 | k + 1, x4, x5, x9, x12, x447000, x447001 => spec_PictureLines.l4 k x4 x5 x9 x12 0 x447000 x447001
def spec_PictureLines.l4 : Nat → List (List Int) → Bool → Int → List Int → Int → List (List Int) → List (List Int) → Option ((List (List Int)) × Bool)
 | 0, _, _, _, _, _, _, _ => none
 | k + 1, x4, x5, x9, x12, x14, x447000, x447001 => if x14 < (x4.length : Int) then (if 0 ≤ x14 then (if x14 < (x12.length : Int) then (if 0 ≤ x9 then (if x9 < ((rd_L1 x4 x14).length : Int) then (spec_PictureLines.l4 k (x4.set (x14 : Int).toNat ((rd_L1 x4 x14).set (x9 : Int).toNat (rd x12 x14))) x5 x9 x12 (wrap64 (x14 + 1)) x447000 x447001) else (none)) else (none)) else (none)) else (none)) else (spec_PictureLines.l2 k x4 x5 (wrap64 (x9 + 1)) x447000 x447001)
end
def spec_PictureLines.f (k : Nat) (l0_0 : List (List Int)) (l0_1 : List (List Int)) : Option ((List (List Int)) × Bool) := (spec_PictureValid.f k l0_0 l0_1).bind fun t447 => (if t447 = true then ((spec_l13Blank.f k l0_0 l0_1).bind fun t451 => (spec_PictureLines.l0 k t451 true l0_0 l0_1)) else (some ((([] : List (List Int))), false)))
def spec_PictureLines.T10 : Bool × List (List Nat × List Nat) := (true, [([], []), ([0], [0]), ([], []), ([1, 2], [1, 2]), ([3], [3]), ([], []), ([], []), ([5, 6], [5, 6]), ([7], [7]), ([4, 8], [4, 8]), ([9], [9]), ([10], [10]), ([10], [10]), ([11, 9, 0, 1, 2, 3, 4, 5, 6, 7, 8, 9, 10, 11], [11]), ([12, 13, 0, 1, 2, 3, 4, 5, 6, 7, 8, 9, 10, 11, 12, 13], [12])])
def spec_PictureLines.B10 : List Nat := [0, 1, 0, 7, 15, 0, 0, 96, 224, 511, 1023, 2047, 2047, 4095, 16383]
theorem spec_PictureLines.tab10 : rtab .any (opsOf Try.f16 10) = spec_PictureLines.T10 := by kernel_rfl
theorem spec_PictureLines.bits10 : waitsOk spec_PictureLines.T10.2 spec_PictureLines.B10 = true := by kernel_rfl
def spec_PictureLines.T30 : Bool × List (List Nat × List Nat) := (true, [([], []), ([], []), ([0, 1], [0, 1]), ([2], [2]), ([], []), ([], []), ([], []), ([5, 6], [5, 6]), ([7], [7]), ([3, 4, 0, 1, 2, 3, 4, 5, 6, 7, 8], [3, 4]), ([9, 8, 0, 1, 2, 3, 4, 5, 6, 7, 8], [8, 9])])
def spec_PictureLines.B30 : List Nat := [0, 0, 3, 7, 0, 0, 0, 96, 224, 511, 1023]
theorem spec_PictureLines.tab30 : rtab .any (opsOf Try.f16 30) = spec_PictureLines.T30 := by kernel_rfl
theorem spec_PictureLines.bits30 : waitsOk spec_PictureLines.T30.2 spec_PictureLines.B30 = true := by kernel_rfl
set_option maxHeartbeats 8000000 in
set_option maxRecDepth 100000 in
theorem spec_PictureLines.calls (k : Nat) (A0_0 : Option Addr) (c0_0 : Nat) (l0_0 : List (List Int)) (A0_1 : Option Addr) (c0_1 : Nat) (l0_1 : List (List Int)) (r1 : List (List Int)) (r2 : Bool) (w : World) (hr0_0 : Kd.C (Kd.slice 3 (Kd.int .i64)) w A0_0 l0_0.length l0_0) (hc0_0 : l0_0.length ≤ c0_0) (hr0_1 : Kd.C (Kd.slice 3 (Kd.int .i64)) w A0_1 l0_1.length l0_1) (hc0_1 : l0_1.length ≤ c0_1) (h : spec_PictureLines.f k l0_0 l0_1 = some (r1, r2)) :
  Calls Try.prog 16 #[.agg #[.slice A0_0 l0_0.length c0_0, .slice A0_1 l0_1.length c0_1]] w fun e w' => ∃ v0_ : Value, e = .returned (.tuple #[v0_, .bool r2]) ∧ Kd.S (Kd.slice 3 (Kd.int .i64)) 36 w' w.heap.size (fun _ => True) v0_ r1 ∧ Below w.heap.size w w' := by
 have hu25 := Try.underlying25
 have HR0_0 := am hr0_0
 have HC0_0 := am hc0_0
 clear hr0_0 hc0_0
 have HR0_1 := am hr0_1
 have HC0_1 := am hc0_1
 clear hr0_1 hc0_1
 have HB := am (Below.refl w.heap.size w)
 have H : ((spec_PictureValid.f k l0_0 l0_1).bind fun t447 => (if t447 = true then ((spec_l13Blank.f k l0_0 l0_1).bind fun t451 => (spec_PictureLines.l0 k t451 true l0_0 l0_1)) else (some ((([] : List (List Int))), false)))) = some (r1, r2) := h
 clear h
 replace H := Option.bind_eq_some_iff.mp H
 obtain ⟨t447, A20, H⟩ := H
 replace H : (if t447 = true then ((spec_l13Blank.f k l0_0 l0_1).bind fun t451 => (spec_PictureLines.l0 k t451 true l0_0 l0_1)) else (some ((([] : List (List Int))), false))) = some (r1, r2) := H
 have A2 := am A20
 clear A20
 by_cases c3 : t447 = true
 ·subst c3
  rw [if_pos rfl] at H
  replace H := Option.bind_eq_some_iff.mp H
  obtain ⟨t451, A40, H⟩ := H
  replace H : (spec_PictureLines.l0 k t451 true l0_0 l0_1) = some (r1, r2) := H
  have A4 := am A40
  clear A40
  have H' := am H
  clear H
  go_enter Try.func16, Try.ntmps16
  go_wp2_with (first | ((with_reducible refine gate_dst (N := 1) rfl ?_); refine box_event ?hg (N := 1) ?hd (cs := #[.slice A0_0 l0_0.length c0_0, .slice A0_1 l0_1.length c0_1]) (t := 25) ?hr ?_; (case hd => rfl); (case hg => rfl); (case hr => first | (go_simp; done) | (go_simp; rfl)); intro gb446 hg w5 hbox hb; have n0_ := am (below_step (bm HB) hb); have n1_ := am (hbox); have n2_ := am ((by rw [hg]; exact (below_size (bm HB)) : w.heap.size ≤ gb446)); have n3_ := am ((by rw [hg]; exact (below_size (bm HB)) : w.heap.size ≤ gb446)); clear HB; revert n0_ n1_ n2_ n3_; intro HB BK446 GW446 GE446; clear hb hbox hg; have hcz6_0 : w5.cell? ⟨gb446, 0, none⟩ = some (.slice A0_0 l0_0.length c0_0) := (blk_cell BK446.out 0).trans rfl; have hcz6_1 : w5.cell? ⟨gb446, 1, none⟩ = some (.slice A0_1 l0_1.length c0_1) := (blk_cell BK446.out 1).trans rfl; have hfz6_0 := blk_frozen BK446.out 0; have hfz6_1 := blk_frozen BK446.out 1) | ((with_reducible refine gate_callee (f := 17) rfl ?_); refine goesL_ (some 16) rfl rfl Try.func17 (by kernel_rfl) rfl #[.agg #[.slice A0_0 l0_0.length c0_0, .slice A0_1 l0_1.length c0_1]] rfl (by (try simp only [List.map_toArray, List.map_cons, List.map_nil]); first | done | rfl | (simp only [List.length_drop, List.length_take]; rfl)) ?_; (with_reducible refine (spec_PictureValid.calls k _ _ l0_0 _ _ l0_1 true _ ?side1 ?side2 ?side3 ?side4 A2.out).mono ?_); (case side1 => repeat (first | exact (Kd.C_below HR0_0.out HB.out) | (with_reducible refine Kd.C_alloc ?_ _) | (with_reducible refine Kd.C_drewN ?_ _) | (with_reducible refine Kd.C_drew ?_))); (case side2 => exact HC0_0.out); (case side3 => repeat (first | exact (Kd.C_below HR0_1.out HB.out) | (with_reducible refine Kd.C_alloc ?_ _) | (with_reducible refine Kd.C_drewN ?_ _) | (with_reducible refine Kd.C_drew ?_))); (case side4 => exact HC0_1.out); rintro e w7 ⟨rfl, hb⟩; refine ⟨_, rfl, ?_⟩; have n0_ := am (blk_below (g := gb446) (o := .cells #[.slice A0_0 l0_0.length c0_0, .slice A0_1 l0_1.length c0_1] 25 (0, 0)) (bv BK446.out) hb); have n1_ := am (below_step (by repeat (first | (with_reducible first | exact HB.out | apply below_alloc | apply pw_below_drewN | apply below_drew1 | refine below_set ?_ GE446.out) | exact HB.out)) hb); clear BK446 HB; revert n0_ n1_; intro BK446 HB; (try clear hb); (try clear hb2); (try clear hk); (try clear hi); have hcz8_0 : w7.cell? ⟨gb446, 0, none⟩ = some (.slice A0_0 l0_0.length c0_0) := (blk_cell BK446.out 0).trans rfl; have hcz8_1 : w7.cell? ⟨gb446, 1, none⟩ = some (.slice A0_1 l0_1.length c0_1) := (blk_cell BK446.out 1).trans rfl; have hfz8_0 := blk_frozen BK446.out 0; have hfz8_1 := blk_frozen BK446.out 1) | ((with_reducible refine gate_callee (f := 49) rfl ?_); refine goesL_ (some 20) rfl rfl Try.func49 (by kernel_rfl) rfl #[.agg #[.slice A0_0 l0_0.length c0_0, .slice A0_1 l0_1.length c0_1]] rfl (by (try simp only [List.map_toArray, List.map_cons, List.map_nil]); first | done | rfl | (simp only [List.length_drop, List.length_take]; rfl)) ?_; (with_reducible refine (spec_l13Blank.calls k _ _ l0_0 _ _ l0_1 t451 _ ?side1 ?side2 ?side3 ?side4 A4.out).mono ?_); (case side1 => repeat (first | exact (Kd.C_below HR0_0.out HB.out) | (with_reducible refine Kd.C_alloc ?_ _) | (with_reducible refine Kd.C_drewN ?_ _) | (with_reducible refine Kd.C_drew ?_))); (case side2 => exact HC0_0.out); (case side3 => repeat (first | exact (Kd.C_below HR0_1.out HB.out) | (with_reducible refine Kd.C_alloc ?_ _) | (with_reducible refine Kd.C_drewN ?_ _) | (with_reducible refine Kd.C_drew ?_))); (case side4 => exact HC0_1.out); rintro e w9 ⟨v452, rfl, ho0, hb⟩; refine ⟨_, rfl, ?_⟩; have n0_ := am (Kd.S_lower ho0 (below_size (by repeat (first | (with_reducible first | exact HB.out | apply below_alloc | apply pw_below_drewN | apply below_drew1 | refine below_set ?_ GE446.out) | exact HB.out)))); have n1_ := am (blk_below (g := gb446) (o := .cells #[.slice A0_0 l0_0.length c0_0, .slice A0_1 l0_1.length c0_1] 25 (0, 0)) (bv BK446.out) hb); have n2_ := am (below_step (by repeat (first | (with_reducible first | exact HB.out | apply below_alloc | apply pw_below_drewN | apply below_drew1 | refine below_set ?_ GE446.out) | exact HB.out)) hb); clear BK446 HB; revert n0_ n1_ n2_; intro HO453 BK446 HB; (try clear hb); (try clear hb2); (try clear hk); (try clear hi); (try clear ho0)))
  go_loopg [5] k (fun kq v5 w' => ∃ (x4_1 : List (List Int)) (x5_1 : Bool), v5 = .bool x5_1 ∧ Aside0 (spec_PictureLines.l0 kq x4_1 x5_1 l0_0 l0_1 = some (r1, r2)) ∧ Aside0 (kq ≤ k) ∧ Aside0 (Kd.S (Kd.slice 3 (Kd.int .i64)) 36 w' w.heap.size (fun _ => True) v452 x4_1) ∧ Aside0 (w'.heap[gb446]? = some (.cells #[(.slice A0_0 l0_0.length c0_0), (.slice A0_1 l0_1.length c0_1)] 25 (0, 0))) ∧ Aside0 (Below w.heap.size w w'))
  case atStart => exact ⟨(t451), (true), rfl, H', ⟨Nat.le_refl _⟩, ⟨by (with_reducible repeat (first | apply Kd.S_alloc | apply Kd.S_drewN | apply Kd.S_drew)); exact HO453.out⟩, ⟨bv BK446.out⟩, ⟨by repeat (first | (with_reducible first | exact HB.out | apply below_alloc | apply pw_below_drewN | apply below_drew1 | refine below_set ?_ GE446.out) | exact HB.out)⟩⟩
  case round =>
   clear H'
   clear hcz6_0 hcz6_1 hcz8_0 hcz8_1 hfz6_0 hfz6_1 hfz8_0 hfz8_1
   obtain ⟨x4_1, x5_1, rfl, HA, HK1, HO_4, BK446, HB⟩ := hrel
   cases gk with
   | zero => exact absurd HA.out (by simp [spec_PictureLines.l0])
   | succ k1 =>
    have H := HA.out
    clear HA
    simp only [spec_PictureLines.l0] at H
    by_cases c10 : x5_1 = true
    ·subst c10
     rw [if_pos rfl] at H
     have H' := am H
     clear H
     go_wp2
     go_loopg [5, 6] k1 (fun kq v5 v6 w' => ∃ (x4_2 : List (List Int)) (x5_2 : Bool) (x6_2 : Int), v5 = .bool x5_2 ∧ v6 = .int .i64 x6_2 ∧ Aside0 (spec_PictureLines.l1 kq x4_2 x5_2 x6_2 l0_0 l0_1 = some (r1, r2)) ∧ Aside0 (kq ≤ k1) ∧ Aside0 (Kd.S (Kd.slice 3 (Kd.int .i64)) 36 w' w.heap.size (fun _ => True) v452 x4_2) ∧ Aside0 (w'.heap[gb446]? = some (.cells #[(.slice A0_0 l0_0.length c0_0), (.slice A0_1 l0_1.length c0_1)] 25 (0, 0))) ∧ Aside0 (Below w.heap.size w w'))
     case atStart => exact ⟨(x4_1), (false), (0), rfl, rfl, H', ⟨Nat.le_refl _⟩, ⟨by (with_reducible repeat (first | apply Kd.S_alloc | apply Kd.S_drewN | apply Kd.S_drew)); exact HO_4.out⟩, ⟨bv BK446.out⟩, ⟨by repeat (first | (with_reducible first | exact HB.out | apply below_alloc | apply pw_below_drewN | apply below_drew1 | refine below_set ?_ GE446.out) | exact HB.out)⟩⟩
     case round =>
      clear H'
      obtain ⟨x4_2, x5_2, x6_2, rfl, rfl, HA, HK2, HO_4, BK446, HB⟩ := hrel
      cases gk with
      | zero => exact absurd HA.out (by simp [spec_PictureLines.l1])
      | succ k2 =>
       have H := HA.out
       clear HA
       simp only [spec_PictureLines.l1] at H
       by_cases c11 : x6_2 < (l0_0.length : Int)
       ·rw [if_pos c11] at H
        have c11b0 : decide (x6_2 < (l0_0.length : Int)) = true := decide_eq_true c11
        clear c11
        have q_ := ifs H
        clear H
        obtain ⟨c12, H⟩ := q_
        have c12b0 : decide (0 ≤ x6_2) = true := decide_eq_true c12
        clear c12
        have q_ := ifs H
        clear H
        obtain ⟨c13, H⟩ := q_
        have c13b0 : decide (x6_2 < (x4_2.length : Int)) = true := decide_eq_true c13
        clear c13
        replace H := Option.bind_eq_some_iff.mp H
        obtain ⟨⟨t456, t457⟩, A140, H⟩ := H
        replace H : (if t457 = true then (if x5_2 = true then (spec_PictureLines.l1 k2 (x4_2.set (x6_2 : Int).toNat t456) true (wrap64 (x6_2 + 1)) l0_0 l0_1) else ((spec_l8Same.f k2 t456 (rd_L1 x4_2 x6_2)).bind fun t462 => (spec_PictureLines.l1 k2 (x4_2.set (x6_2 : Int).toNat t456) (!t462) (wrap64 (x6_2 + 1)) l0_0 l0_1))) else (some ((([] : List (List Int))), false))) = some (r1, r2) := H
        have A14 := am A140
        clear A140
        by_cases c15 : t457 = true
        ·subst c15
         rw [if_pos rfl] at H
         by_cases c16 : x5_2 = true
         ·subst c16
          rw [if_pos rfl] at H
          obtain ⟨y460, hy460⟩ : ∃ y_ : List (List Int), y_ = (x4_2.set (x6_2 : Int).toNat t456) := ⟨_, rfl⟩
          replace H : (spec_PictureLines.l1 k2 y460 true (wrap64 (x6_2 + 1)) l0_0 l0_1) = some (r1, r2) := by first | (rw [hy460]; with_reducible exact H) | (have H2_ := (Option.bind_some _ _).symm.trans H; rw [hy460]; with_reducible exact H2_) | (have H2_ := (Option.bind_some _ _).symm.trans H; with_reducible exact H2_) | with_reducible exact H | (rw [hy460]; exact H) | exact H
          have Ny460 := am hy460
          clear hy460
          have H' := am H
          clear H
          have hcz18_0 : wr.cell? ⟨gb446, 0, none⟩ = some (.slice A0_0 l0_0.length c0_0) := (blk_cell BK446.out 0).trans rfl
          have hcz18_1 : wr.cell? ⟨gb446, 1, none⟩ = some (.slice A0_1 l0_1.length c0_1) := (blk_cell BK446.out 1).trans rfl
          have hfz18_0 := blk_frozen BK446.out 0
          have hfz18_1 := blk_frozen BK446.out 1
          try go_wp2
          have n0_ := am (Kd.S_drew HO_4.out)
          have n1_ := am (blk_drew BK446.out)
          have n2_ := am (below_drew1 HB.out)
          clear HO_4 BK446 HB
          revert n0_ n1_ n2_
          intro HO_4 BK446 HB
          have p454 : 0 ≤ (x6_2 : Int) := da
          have q454 : x6_2 < (l0_0.length : Int) := da
          obtain ⟨ad454, A454_0, c454_0, e454, hx454_0, hl454_0, hi454_0⟩ := at_L1 HR0_0.out x6_2 p454 q454
          have hw454_0 := hx454_0
          cases e454
          replace hx454_0 := (HB.out.cell (World.block_lt_of_cell? w _ hx454_0)).trans hx454_0
          have HR454_0 := am hi454_0
          have HC454_0 := am hl454_0
          clear hi454_0 hl454_0
          replace p454 := eq_true p454
          replace q454 := eq_true q454
          obtain ⟨Ao20, co20, eo20⟩ := Kd.S_slice HO_4.out
          (first | subst eo20 | (injection eo20 with f1_ f2_ f3_; have f4_ := f1_.symm; have f5_ := f3_.symm; clear f1_ f2_ f3_; subst f4_; subst f5_))
          have p455 : 0 ≤ (x6_2 : Int) := da
          have q455 : x6_2 < (x4_2.length : Int) := da
          obtain ⟨ad455, A455_0, c455_0, e455, hx455_0, hl455_0, hi455_0⟩ := at_L1 (Kd.S_reads' HO_4.out).2.2 x6_2 p455 q455
          cases e455
          obtain ⟨ce455, hce455, hMe455, hcc455⟩ := Kd.S_get HO_4.out [] x6_2 p455 (by first | exact q455 | exact da | (have e_ := (Kd.S_reads' HO_4.out).1; omega))
          obtain ⟨ve455_0, rfl, ge455_0⟩ := hMe455
          have hv455_0 := hcc455 0 _ rfl
          rw [Nat.add_zero, show ((Kd.slice 3 (Kd.int .i64))).sz = 1 from rfl, Nat.mul_one] at hv455_0
          replace hv455_0 := Option.some.inj (hv455_0.symm.trans hx455_0)
          rw [hv455_0] at ge455_0
          have HL455_0 := am (show Kd.R (Kd.int .i64) 3 _ _ _ _ (rd_L1 x4_2 x6_2) from ge455_0)
          clear hv455_0 ge455_0
          have HX455_0 := am hx455_0
          clear hcc455 hce455
          have HR455_0 := am hi455_0
          have HC455_0 := am hl455_0
          clear hi455_0 hl455_0
          replace p455 := eq_true p455
          replace q455 := eq_true q455
          refine start_ (n := 15) (S := fun w' => w'.cell? ⟨gb446, 0, none⟩ = some (.slice (some ad454) l0_0.length c0_0) ∧ w'.cell? ⟨gb446, 1, none⟩ = some (.slice A0_1 l0_1.length c0_1) ∧ w'.cell? (ad454.add (x6_2).toNat) = some (.slice A454_0 (rd_L1 l0_0 x6_2).length c454_0) ∧ w'.cell? (ad455.add (x6_2).toNat) = some (.slice A455_0 (rd_L1 x4_2 x6_2).length c455_0)) (ds := []) #[false, false, false, false, false, false, false, false, false, false, false, false, false, false, false] (by kernel_rfl) rfl rfl ⟨(blk_cell BK446.out 0).trans rfl, (blk_cell BK446.out 1).trans rfl, ((HB.out.cell (World.block_lt_of_cell? w _ hw454_0)).trans hw454_0), hx455_0⟩ (fun hHeld => ?_); refine with_tabW spec_PictureLines.tab10 spec_PictureLines.bits10 (fun HT_ HW_ => ?_)
          generalize wr.drew = w19 at HO_4 BK446 HB HL455_0 HR454_0 HR455_0 HX455_0 hx454_0 hx455_0 hHeld ⊢
          refine pure_ (i := 0) (N := some 30) (v := ?_) (a' := ?_) #[true, false, false, false, false, false, false, false, false, false, false, false, false, false, false] rfl rfl (any_of HT_.out (by kernel_rfl)) (fun _ _ _ h => h) (Or.inl ⟨by rfl, ?_⟩) ?_ ?_
          rotate_left
          ·intro w'
           go_simp
           with_reducible rfl
          rotate_left
          ·simp only [Act.put, List.setIfInBounds_toArray, List.set_cons_zero, List.set_cons_succ, i64_w, i32_w]
           rfl
          refine pure_ (i := 2) (N := some 32) (v := ?_) (a' := ?_) #[true, false, true, false, false, false, false, false, false, false, false, false, false, false, false] rfl rfl (any_of HT_.out (by kernel_rfl)) (fun _ _ _ h => h) (Or.inl ⟨by rfl, ?_⟩) ?_ ?_
          rotate_left
          ·intro w'
           go_simp
           with_reducible rfl
          rotate_left
          ·simp only [Act.put, List.setIfInBounds_toArray, List.set_cons_zero, List.set_cons_succ, i64_w, i32_w]
           rfl
          refine pure_ (i := 5) (N := some 35) (v := ?_) (a' := ?_) #[true, false, true, false, false, true, false, false, false, false, false, false, false, false, false] rfl rfl (any_of HT_.out (by kernel_rfl)) (fun _ _ _ h => h) (Or.inl ⟨by rfl, ?_⟩) ?_ ?_
          rotate_left
          ·intro w'
           go_simp
           with_reducible rfl
          rotate_left
          ·simp only [Act.put, List.setIfInBounds_toArray, List.set_cons_zero, List.set_cons_succ, i64_w, i32_w]
           rfl
          refine pure_ (i := 6) (N := some 36) (v := ?_) (a' := ?_) #[true, false, true, false, false, true, true, false, false, false, false, false, false, false, false] rfl rfl (any_of HT_.out (by kernel_rfl)) (fun _ _ _ h => h) (Or.inl ⟨by rfl, ?_⟩) ?_ ?_
          rotate_left
          ·intro w'
           go_simp
           with_reducible rfl
          rotate_left
          ·simp only [Act.put, List.setIfInBounds_toArray, List.set_cons_zero, List.set_cons_succ, i64_w, i32_w]
           rfl
          refine pure_ (i := 7) (N := some 37) (v := ?_) (a' := ?_) #[true, false, true, false, false, true, true, true, false, false, false, false, false, false, false] rfl rfl (any_of HT_.out (by kernel_rfl)) (fun _ _ _ h => h) (Or.inl ⟨by rfl, ?_⟩) ?_ ?_
          rotate_left
          ·intro w'
           go_simp
           with_reducible rfl
          rotate_left
          ·simp only [Act.put, List.setIfInBounds_toArray, List.set_cons_zero, List.set_cons_succ, i64_w, i32_w]
           rfl
          refine take_ (i := 1) (N := some 31) (v := ?_) (a' := ?_) #[true, true, true, false, false, true, true, true, false, false, false, false, false, false, false] rfl rfl (take_ofW HT_.out HW_.out (by kernel_rfl)) (fun _ _ _ h => h) (Or.inl ⟨by rfl, ?_⟩) hHeld ?_ ?_
          rotate_left
          ·rintro w' ⟨s0, s1, s2, s3⟩
           go_simp
           with_reducible rfl
          rotate_left
          ·simp only [Act.put, List.setIfInBounds_toArray, List.set_cons_zero, List.set_cons_succ, i64_w, i32_w]
           rfl
          refine pure_ (i := 3) (N := some 33) (v := ?_) (a' := ?_) #[true, true, true, true, false, true, true, true, false, false, false, false, false, false, false] rfl rfl (any_of HT_.out (by kernel_rfl)) (fun _ _ _ h => h) (Or.inl ⟨by rfl, ?_⟩) ?_ ?_
          rotate_left
          ·intro w'
           go_simp
           with_reducible rfl
          rotate_left
          ·simp only [Act.put, List.setIfInBounds_toArray, List.set_cons_zero, List.set_cons_succ, i64_w, i32_w]
           rfl
          refine take_ (i := 4) (N := some 34) (v := ?_) (a' := ?_) #[true, true, true, true, true, true, true, true, false, false, false, false, false, false, false] rfl rfl (take_ofW HT_.out HW_.out (by kernel_rfl)) (fun _ _ _ h => h) (Or.inl ⟨by rfl, ?_⟩) hHeld ?_ ?_
          rotate_left
          ·rintro w' ⟨s0, s1, s2, s3⟩
           go_simp
           with_reducible rfl
          rotate_left
          ·simp only [Act.put, List.setIfInBounds_toArray, List.set_cons_zero, List.set_cons_succ, i64_w, i32_w]
           rfl
          refine take_ (i := 8) (N := some 38) (v := ?_) (a' := ?_) #[true, true, true, true, true, true, true, true, true, false, false, false, false, false, false] rfl rfl (take_ofW HT_.out HW_.out (by kernel_rfl)) (fun _ _ _ h => h) (Or.inl ⟨by rfl, ?_⟩) hHeld ?_ ?_
          rotate_left
          ·rintro w' ⟨s0, s1, s2, s3⟩
           go_simp
           with_reducible rfl
          rotate_left
          ·simp only [Act.put, List.setIfInBounds_toArray, List.set_cons_zero, List.set_cons_succ, i64_w, i32_w]
           rfl
          refine one_ (i := 9) (N := some 39) #[true, true, true, true, true, true, true, true, true, true, false, false, false, false, false] rfl rfl (one_of HT_.out (by kernel_rfl)) (by decide) (fun K hK => ?_)
          refine goes_ Try.func50 (by kernel_rfl) rfl #[.slice A454_0 (rd_L1 l0_0 x6_2).length c454_0, .slice A455_0 (rd_L1 x4_2 x6_2).length c455_0] (by rfl) rfl rfl (by (try simp only [List.map_toArray, List.map_cons, List.map_nil]); first | done | rfl | (simp only [List.length_drop, List.length_take]; rfl)) ?_
          with_reducible refine (spec_LineForced.calls k2 _ _ (rd_L1 l0_0 x6_2) _ _ (rd_L1 x4_2 x6_2) t456 true _ ?side1 ?side2 ?side3 ?side4 A14.out).mono ?_
          (case side1 => repeat (first | exact (Kd.C_below HR454_0.out HB.out) | (with_reducible refine Kd.C_alloc ?_ _) | (with_reducible refine Kd.C_drewN ?_ _) | (with_reducible refine Kd.C_drew ?_)))
          (case side2 => exact HC454_0.out)
          (case side3 => exact Kd.cv HR455_0.out)
          (case side4 => exact HC455_0.out)
          rintro e w21 ⟨v458, rfl, ho0, hb⟩
          have HS3_ := (hb.cell (World.block_lt_of_cell? _ _ (hHeld.2.2.2))).trans (hHeld.2.2.2)
          refine ⟨_, rfl, ?_⟩
          have n0_ := am (Kd.S_elder' (by (with_reducible repeat (first | apply Kd.S_alloc | apply Kd.S_drewN | apply Kd.S_drew)); exact HO_4.out) (Kd.R_base ho0) hb)
          have n1_ := am (Kd.R_elder' (Kd.rv HL455_0.out) (Kd.R_base ho0) hb)
          have n2_ := am (Kd.R_lower (Kd.R_new' ho0 (Kd.R_lt (Kd.rv HL455_0.out))) (below_size (by repeat (first | (with_reducible first | exact HB.out | apply below_alloc | apply pw_below_drewN | apply below_drew1 | refine below_set ?_ GE446.out) | exact HB.out))))
          have n3_ := am (blk_below (g := gb446) (o := .cells #[.slice (some ad454) l0_0.length c0_0, .slice A0_1 l0_1.length c0_1] 25 (0, 0)) (bv BK446.out) hb)
          have n4_ := am (Kd.C_below (Kd.cv HR455_0.out) hb)
          have n5_ := am (pw_cell_below hb HX455_0.out)
          have n6_ := am (below_step (by repeat (first | (with_reducible first | exact HB.out | apply below_alloc | apply pw_below_drewN | apply below_drew1 | refine below_set ?_ GE446.out) | exact HB.out)) hb)
          clear HO_4 HL455_0 BK446 HR455_0 HX455_0 HB
          revert n0_ n1_ n2_ n3_ n4_ n5_ n6_
          intro HO_4 HL455_0 HO459 BK446 HR455_0 HX455_0 HB
          (try clear hb)
          (try clear hb2)
          (try clear hk)
          (try clear hi)
          (try clear ho0)
          refine hK.out _ _ ⟨(blk_cell BK446.out 0).trans rfl, (blk_cell BK446.out 1).trans rfl, ((HB.out.cell (World.block_lt_of_cell? w _ hw454_0)).trans hw454_0), HS3_⟩ (fun hHeld => ?_)
          clear hK K
          refine norm_ (a' := ?_) ?_ ?_
          rotate_left
          ·show Act.put _ (some 39) _ = _
           simp only [Act.put, List.setIfInBounds_toArray, List.set_cons_zero, List.set_cons_succ, i64_w, i32_w]
           rfl
          refine pure_ (i := 10) (N := some 29) (v := ?_) (a' := ?_) #[true, true, true, true, true, true, true, true, true, true, true, false, false, false, false] rfl rfl (any_of HT_.out (by kernel_rfl)) (fun _ _ _ h => h) (Or.inl ⟨by rfl, ?_⟩) ?_ ?_
          rotate_left
          ·intro w'
           go_simp
           with_reducible rfl
          rotate_left
          ·simp only [Act.put, List.setIfInBounds_toArray, List.set_cons_zero, List.set_cons_succ, i64_w, i32_w]
           rfl
          refine pure_ (i := 11) (N := some 40) (v := ?_) (a' := ?_) #[true, true, true, true, true, true, true, true, true, true, true, true, false, false, false] rfl rfl (any_of HT_.out (by kernel_rfl)) (fun _ _ _ h => h) (Or.inl ⟨by rfl, ?_⟩) ?_ ?_
          rotate_left
          ·intro w'
           go_simp
           with_reducible rfl
          rotate_left
          ·simp only [Act.put, List.setIfInBounds_toArray, List.set_cons_zero, List.set_cons_succ, i64_w, i32_w]
           rfl
          refine pure_ (i := 12) (N := some 41) (v := ?_) (a' := ?_) #[true, true, true, true, true, true, true, true, true, true, true, true, true, false, false] rfl rfl (any_of HT_.out (by kernel_rfl)) (fun _ _ _ h => h) (Or.inl ⟨by rfl, ?_⟩) ?_ ?_
          rotate_left
          ·intro w'
           go_simp
           with_reducible rfl
          rotate_left
          ·simp only [Act.put, List.setIfInBounds_toArray, List.set_cons_zero, List.set_cons_succ, i64_w, i32_w]
           rfl
          refine pure_ (i := 13) (N := some 7) (v := ?_) (a' := ?_) #[true, true, true, true, true, true, true, true, true, true, true, true, true, true, false] rfl rfl (any_of HT_.out (by kernel_rfl)) (fun _ _ _ h => h) (Or.inl ⟨by rfl, ?_⟩) ?_ ?_
          rotate_left
          ·intro w'
           go_simp
           with_reducible rfl
          rotate_left
          ·simp only [Act.put, List.setIfInBounds_toArray, List.set_cons_zero, List.set_cons_succ, i64_w, i32_w]
           rfl
          refine pure_ (i := 14) (N := some 8) (v := ?_) (a' := ?_) #[true, true, true, true, true, true, true, true, true, true, true, true, true, true, true] rfl rfl (any_of HT_.out (by kernel_rfl)) (fun _ _ _ h => h) (Or.inl ⟨by rfl, ?_⟩) ?_ ?_
          rotate_left
          ·intro w'
           go_simp
           with_reducible rfl
          rotate_left
          ·simp only [Act.put, List.setIfInBounds_toArray, List.set_cons_zero, List.set_cons_succ, i64_w, i32_w]
           rfl
          refine done_ (done_of HT_.out (by kernel_rfl)) ?_
          have p17 : 0 ≤ (x6_2 : Int) := da
          have q17 : (x6_2 : Int) < ((x4_2.length : Int) : Int) := da
          obtain ⟨go17, co17, eo17, gb17, gl17, cl17, HG17⟩ := Kd.S_form HO_4.out (by omega)
          (first | cases eo17 | (injection eo17 with ea_ en_ ec_; (first | subst ea_ | (injection ea_ with ea_; subst ea_)); subst ec_; clear en_))
          have GB17 := am gb17
          have GG17 := am HG17
          clear gb17 gl17 HG17
          (first | simp only [add_plain] at hx455_0 | skip)
          obtain ⟨_, ce17, hcl17, hM17, hcc17, hfr17, _, _⟩ := Kd.S_elem HO_4.out [] (x6_2 : Int) p17 q17
          obtain ⟨ve17_0, rfl, ge17_0⟩ := hM17
          have hx17_0 := hcc17 0 _ rfl
          have hf17_0 := hfr17 0
          (try simp only [show ((Kd.slice 3 (Kd.int .i64))).sz = 1 from rfl, Nat.mul_one, Nat.add_zero] at hx17_0)
          (try simp only [show ((Kd.slice 3 (Kd.int .i64))).sz = 1 from rfl, Nat.mul_one, Nat.add_zero] at hf17_0)
          clear hcl17 hcc17 hfr17
          replace p17 := eq_true p17
          replace q17 := eq_true q17
          have n_ := am (Kd.S_mono (ok' := (fun k_ => some k_ ≠ (v458 : Value).ownBlock)) HO_4.out (fun k_ hk => by first | exact hk.2 | exact hk | exact hk.1))
          clear HO_4
          have HO_4 := n_
          clear n_
          have HX22 := am (show Kd.S (Kd.slice 3 (Kd.int .i64)) 36 w21 w.heap.size (fun k_ => ((fun _ => True)) k_ ∧ ¬ ((fun k_ => some k_ = (v458 : Value).ownBlock)) k_) (.slice (some ⟨go17, 0, none⟩) x4_2.length co20) x4_2 from (by (with_reducible repeat (first | apply Kd.S_alloc | apply Kd.S_drewN | apply Kd.S_drew)); exact Kd.S_mono HO_4.out (fun k_ hk => ⟨trivial, fun e_ => hk e_⟩)))
          obtain ⟨oki22, ce22, hcl22, hM22, hcc22, hfr22, hoki22, hH22⟩ := Kd.S_elem HX22.out [] (x6_2 : Int) (da) (by have h_ : (x6_2 : Int) < ((x4_2.length : Int) : Int) := da; first | exact h_ | (have e_ := (Kd.S_reads' HO_4.out).1; omega) | simpa using h_)
          obtain ⟨ve22_0, rfl, ge22_0⟩ := hM22
          have HP22 := Kd.S_seg hH22 (da) (by have h_ : (x6_2 : Int) < ((x4_2.length : Int) : Int) := da; first | exact h_ | (have e_ := (Kd.S_reads' HO_4.out).1; omega) | simpa using h_) (seg := [v458]) (j := 0) (show 1 ≤ 1 from by decide) (x' := t456) (Kd.M_row (Kd.R_mono (Kd.R_tight rfl (Kd.R_mono (ok' := fun k_ => ((fun _ => True)) k_ ∧ k_ ≠ go17) (Kd.R_apart' (HO459.out) (Kd.S_typed HO_4.out) (by decide)) (fun k_ hk => ⟨trivial, fun e_ => (hk.2) (by rw [e_]; rfl)⟩))) (fun _ h_ => Or.inr (h_)))) (fun _ hk => hk) (fun k_ hk_ => ((Kd.R_mono (ok' := fun k_ => ((fun _ => True)) k_ ∧ k_ ≠ go17) (Kd.R_apart' (HO459.out) (Kd.S_typed HO_4.out) (by decide)) (fun k_ hk => ⟨trivial, fun e_ => (hk.2) (by rw [e_]; rfl)⟩))).1 k_ hk_.symm)
          have hx22_0 := hcc22 0 _ rfl
          (try simp only [show ((Kd.slice 3 (Kd.int .i64))).sz = 1 from rfl, Nat.mul_one, Nat.add_zero] at hx22_0)
          have hf22_0 := hfr22 0
          (try simp only [show ((Kd.slice 3 (Kd.int .i64))).sz = 1 from rfl, Nat.mul_one, Nat.add_zero] at hf22_0)
          clear hcl22 hcc22 hfr22 hoki22 hH22
          (try simp only [show ((Kd.slice 3 (Kd.int .i64))).sz = 1 from rfl, Nat.mul_one, Nat.add_zero] at HP22)
          try go_wp2_with (first | ((with_reducible refine gate_store (t := 36) (p := 58) rfl ?_); refine store_event (t := 36) (p := 58) (v := ?vo_w23) (w1 := (w21.setCell ⟨go17, (x6_2 : Int).toNat, none⟩ (v458))) ?hg ?ho ?hn ?hr ?_; (case ho => rfl); (case hg => rfl); (case hn => rfl); (case hr => first | (go_simp; done) | (go_simp; rfl) | (obtain ⟨A_, c_, e_⟩ := Kd.R_slice HO459.out; rw [e_]; first | (go_simp; done) | (go_simp; rfl))); intro w23 hw; have hg : w21.grownBy w23 (some go17) := (by rw [hw]; exact HP22.2); have hp_ : Kd.S (Kd.slice 3 (Kd.int .i64)) 36 w23 w.heap.size (fun _ => True) (.slice (some ⟨go17, 0, none⟩) x4_2.length co20) y460 := (by rw [hw, Ny460.out]; exact HP22.1); clear HP22; have n0_ := am (hp_); have n1_ := am (blk_grown (g := gb446) (o := .cells #[.slice (some ad454) l0_0.length c0_0, .slice A0_1 l0_1.length c0_1] 25 (0, 0)) (bv BK446.out) hg (Kd.S_ne HO_4.out BK446.out (by decide))); have n2_ := am (Kd.R_after (v := (.slice (some ⟨go17, 0, none⟩) x4_2.length co20)) (v1 := (.slice (some ⟨go17, 0, none⟩) x4_2.length co20)) (ok := (fun k_ => some k_ ≠ (v458 : Value).ownBlock)) (by (with_reducible repeat (first | apply Kd.R_alloc | apply Kd.R_drewN | apply Kd.R_drew)); exact Kd.R_mono HL455_0.out (fun _ hk => by first | exact ⟨hk.2, hk.1.2⟩ | exact ⟨hk.1, hk.2⟩ | exact ⟨hk.2, hk.1⟩ | exact ⟨hk.1.2, hk.2⟩ | exact ⟨hk.1.1, hk.2⟩ | exact ⟨hk.1, hk.2.2⟩)) hg (.inl rfl)); have n3_ := am ((by rw [hw]; exact below_set (HB.out) GB17.out : Below w.heap.size w w23)); clear HO_4 BK446 HL455_0 HB HO459; revert n0_ n1_ n2_ n3_; intro HO_4 BK446 HL455_0 HB; clear hg hw hp_))
          go_roundg k2
          case measure => have := HK1.out; have := HK2.out; omega
          case rel => exact ⟨(y460), (true), (wrap64 (x6_2 + 1)), rfl, rfl, H', ⟨by have := HK1.out; have := HK2.out; omega⟩, ⟨by (with_reducible repeat (first | apply Kd.S_alloc | apply Kd.S_drewN | apply Kd.S_drew)); exact HO_4.out⟩, ⟨bv BK446.out⟩, ⟨by repeat (first | (with_reducible first | exact HB.out | apply below_alloc | apply pw_below_drewN | apply below_drew1 | refine below_set ?_ GE446.out) | exact HB.out)⟩⟩
         ·replace c16 := Bool.eq_false_iff.mpr c16
          subst c16
          rw [if_neg (show ¬ (false = true) by decide)] at H
          replace H := Option.bind_eq_some_iff.mp H
          obtain ⟨t462, A240, H⟩ := H
          replace H : (spec_PictureLines.l1 k2 (x4_2.set (x6_2 : Int).toNat t456) (!t462) (wrap64 (x6_2 + 1)) l0_0 l0_1) = some (r1, r2) := H
          have A24 := am A240
          clear A240
          obtain ⟨y463, hy463⟩ : ∃ y_ : List (List Int), y_ = (x4_2.set (x6_2 : Int).toNat t456) := ⟨_, rfl⟩
          replace H : (spec_PictureLines.l1 k2 y463 (!t462) (wrap64 (x6_2 + 1)) l0_0 l0_1) = some (r1, r2) := by first | (rw [hy463]; with_reducible exact H) | (have H2_ := (Option.bind_some _ _).symm.trans H; rw [hy463]; with_reducible exact H2_) | (have H2_ := (Option.bind_some _ _).symm.trans H; with_reducible exact H2_) | with_reducible exact H | (rw [hy463]; exact H) | exact H
          have Ny463 := am hy463
          clear hy463
          have H' := am H
          clear H
          have hcz26_0 : wr.cell? ⟨gb446, 0, none⟩ = some (.slice A0_0 l0_0.length c0_0) := (blk_cell BK446.out 0).trans rfl
          have hcz26_1 : wr.cell? ⟨gb446, 1, none⟩ = some (.slice A0_1 l0_1.length c0_1) := (blk_cell BK446.out 1).trans rfl
          have hfz26_0 := blk_frozen BK446.out 0
          have hfz26_1 := blk_frozen BK446.out 1
          try go_wp2
          have n0_ := am (Kd.S_drew HO_4.out)
          have n1_ := am (blk_drew BK446.out)
          have n2_ := am (below_drew1 HB.out)
          clear HO_4 BK446 HB
          revert n0_ n1_ n2_
          intro HO_4 BK446 HB
          have p454 : 0 ≤ (x6_2 : Int) := da
          have q454 : x6_2 < (l0_0.length : Int) := da
          obtain ⟨ad454, A454_0, c454_0, e454, hx454_0, hl454_0, hi454_0⟩ := at_L1 HR0_0.out x6_2 p454 q454
          have hw454_0 := hx454_0
          cases e454
          replace hx454_0 := (HB.out.cell (World.block_lt_of_cell? w _ hx454_0)).trans hx454_0
          have HR454_0 := am hi454_0
          have HC454_0 := am hl454_0
          clear hi454_0 hl454_0
          replace p454 := eq_true p454
          replace q454 := eq_true q454
          obtain ⟨Ao28, co28, eo28⟩ := Kd.S_slice HO_4.out
          (first | subst eo28 | (injection eo28 with f1_ f2_ f3_; have f4_ := f1_.symm; have f5_ := f3_.symm; clear f1_ f2_ f3_; subst f4_; subst f5_))
          have p455 : 0 ≤ (x6_2 : Int) := da
          have q455 : x6_2 < (x4_2.length : Int) := da
          obtain ⟨ad455, A455_0, c455_0, e455, hx455_0, hl455_0, hi455_0⟩ := at_L1 (Kd.S_reads' HO_4.out).2.2 x6_2 p455 q455
          cases e455
          obtain ⟨ce455, hce455, hMe455, hcc455⟩ := Kd.S_get HO_4.out [] x6_2 p455 (by first | exact q455 | exact da | (have e_ := (Kd.S_reads' HO_4.out).1; omega))
          obtain ⟨ve455_0, rfl, ge455_0⟩ := hMe455
          have hv455_0 := hcc455 0 _ rfl
          rw [Nat.add_zero, show ((Kd.slice 3 (Kd.int .i64))).sz = 1 from rfl, Nat.mul_one] at hv455_0
          replace hv455_0 := Option.some.inj (hv455_0.symm.trans hx455_0)
          rw [hv455_0] at ge455_0
          have HL455_0 := am (show Kd.R (Kd.int .i64) 3 _ _ _ _ (rd_L1 x4_2 x6_2) from ge455_0)
          clear hv455_0 ge455_0
          have HX455_0 := am hx455_0
          clear hcc455 hce455
          have HR455_0 := am hi455_0
          have HC455_0 := am hl455_0
          clear hi455_0 hl455_0
          replace p455 := eq_true p455
          replace q455 := eq_true q455
          refine start_ (n := 15) (S := fun w' => w'.cell? ⟨gb446, 0, none⟩ = some (.slice (some ad454) l0_0.length c0_0) ∧ w'.cell? ⟨gb446, 1, none⟩ = some (.slice A0_1 l0_1.length c0_1) ∧ w'.cell? (ad454.add (x6_2).toNat) = some (.slice A454_0 (rd_L1 l0_0 x6_2).length c454_0) ∧ w'.cell? (ad455.add (x6_2).toNat) = some (.slice A455_0 (rd_L1 x4_2 x6_2).length c455_0)) (ds := []) #[false, false, false, false, false, false, false, false, false, false, false, false, false, false, false] (by kernel_rfl) rfl rfl ⟨(blk_cell BK446.out 0).trans rfl, (blk_cell BK446.out 1).trans rfl, ((HB.out.cell (World.block_lt_of_cell? w _ hw454_0)).trans hw454_0), hx455_0⟩ (fun hHeld => ?_); refine with_tabW spec_PictureLines.tab10 spec_PictureLines.bits10 (fun HT_ HW_ => ?_)
          generalize wr.drew = w27 at HO_4 BK446 HB HL455_0 HR454_0 HR455_0 HX455_0 hx454_0 hx455_0 hHeld ⊢
          refine pure_ (i := 0) (N := some 30) (v := ?_) (a' := ?_) #[true, false, false, false, false, false, false, false, false, false, false, false, false, false, false] rfl rfl (any_of HT_.out (by kernel_rfl)) (fun _ _ _ h => h) (Or.inl ⟨by rfl, ?_⟩) ?_ ?_
          rotate_left
          ·intro w'
           go_simp
           with_reducible rfl
          rotate_left
          ·simp only [Act.put, List.setIfInBounds_toArray, List.set_cons_zero, List.set_cons_succ, i64_w, i32_w]
           rfl
          refine pure_ (i := 2) (N := some 32) (v := ?_) (a' := ?_) #[true, false, true, false, false, false, false, false, false, false, false, false, false, false, false] rfl rfl (any_of HT_.out (by kernel_rfl)) (fun _ _ _ h => h) (Or.inl ⟨by rfl, ?_⟩) ?_ ?_
          rotate_left
          ·intro w'
           go_simp
           with_reducible rfl
          rotate_left
          ·simp only [Act.put, List.setIfInBounds_toArray, List.set_cons_zero, List.set_cons_succ, i64_w, i32_w]
           rfl
          refine pure_ (i := 5) (N := some 35) (v := ?_) (a' := ?_) #[true, false, true, false, false, true, false, false, false, false, false, false, false, false, false] rfl rfl (any_of HT_.out (by kernel_rfl)) (fun _ _ _ h => h) (Or.inl ⟨by rfl, ?_⟩) ?_ ?_
          rotate_left
          ·intro w'
           go_simp
           with_reducible rfl
          rotate_left
          ·simp only [Act.put, List.setIfInBounds_toArray, List.set_cons_zero, List.set_cons_succ, i64_w, i32_w]
           rfl
          refine pure_ (i := 6) (N := some 36) (v := ?_) (a' := ?_) #[true, false, true, false, false, true, true, false, false, false, false, false, false, false, false] rfl rfl (any_of HT_.out (by kernel_rfl)) (fun _ _ _ h => h) (Or.inl ⟨by rfl, ?_⟩) ?_ ?_
          rotate_left
          ·intro w'
           go_simp
           with_reducible rfl
          rotate_left
          ·simp only [Act.put, List.setIfInBounds_toArray, List.set_cons_zero, List.set_cons_succ, i64_w, i32_w]
           rfl
          refine pure_ (i := 7) (N := some 37) (v := ?_) (a' := ?_) #[true, false, true, false, false, true, true, true, false, false, false, false, false, false, false] rfl rfl (any_of HT_.out (by kernel_rfl)) (fun _ _ _ h => h) (Or.inl ⟨by rfl, ?_⟩) ?_ ?_
          rotate_left
          ·intro w'
           go_simp
           with_reducible rfl
          rotate_left
          ·simp only [Act.put, List.setIfInBounds_toArray, List.set_cons_zero, List.set_cons_succ, i64_w, i32_w]
           rfl
          refine take_ (i := 1) (N := some 31) (v := ?_) (a' := ?_) #[true, true, true, false, false, true, true, true, false, false, false, false, false, false, false] rfl rfl (take_ofW HT_.out HW_.out (by kernel_rfl)) (fun _ _ _ h => h) (Or.inl ⟨by rfl, ?_⟩) hHeld ?_ ?_
          rotate_left
          ·rintro w' ⟨s0, s1, s2, s3⟩
           go_simp
           with_reducible rfl
          rotate_left
          ·simp only [Act.put, List.setIfInBounds_toArray, List.set_cons_zero, List.set_cons_succ, i64_w, i32_w]
           rfl
          refine pure_ (i := 3) (N := some 33) (v := ?_) (a' := ?_) #[true, true, true, true, false, true, true, true, false, false, false, false, false, false, false] rfl rfl (any_of HT_.out (by kernel_rfl)) (fun _ _ _ h => h) (Or.inl ⟨by rfl, ?_⟩) ?_ ?_
          rotate_left
          ·intro w'
           go_simp
           with_reducible rfl
          rotate_left
          ·simp only [Act.put, List.setIfInBounds_toArray, List.set_cons_zero, List.set_cons_succ, i64_w, i32_w]
           rfl
          refine take_ (i := 4) (N := some 34) (v := ?_) (a' := ?_) #[true, true, true, true, true, true, true, true, false, false, false, false, false, false, false] rfl rfl (take_ofW HT_.out HW_.out (by kernel_rfl)) (fun _ _ _ h => h) (Or.inl ⟨by rfl, ?_⟩) hHeld ?_ ?_
          rotate_left
          ·rintro w' ⟨s0, s1, s2, s3⟩
           go_simp
           with_reducible rfl
          rotate_left
          ·simp only [Act.put, List.setIfInBounds_toArray, List.set_cons_zero, List.set_cons_succ, i64_w, i32_w]
           rfl
          refine take_ (i := 8) (N := some 38) (v := ?_) (a' := ?_) #[true, true, true, true, true, true, true, true, true, false, false, false, false, false, false] rfl rfl (take_ofW HT_.out HW_.out (by kernel_rfl)) (fun _ _ _ h => h) (Or.inl ⟨by rfl, ?_⟩) hHeld ?_ ?_
          rotate_left
          ·rintro w' ⟨s0, s1, s2, s3⟩
           go_simp
           with_reducible rfl
          rotate_left
          ·simp only [Act.put, List.setIfInBounds_toArray, List.set_cons_zero, List.set_cons_succ, i64_w, i32_w]
           rfl
          refine one_ (i := 9) (N := some 39) #[true, true, true, true, true, true, true, true, true, true, false, false, false, false, false] rfl rfl (one_of HT_.out (by kernel_rfl)) (by decide) (fun K hK => ?_)
          refine goes_ Try.func50 (by kernel_rfl) rfl #[.slice A454_0 (rd_L1 l0_0 x6_2).length c454_0, .slice A455_0 (rd_L1 x4_2 x6_2).length c455_0] (by rfl) rfl rfl (by (try simp only [List.map_toArray, List.map_cons, List.map_nil]); first | done | rfl | (simp only [List.length_drop, List.length_take]; rfl)) ?_
          with_reducible refine (spec_LineForced.calls k2 _ _ (rd_L1 l0_0 x6_2) _ _ (rd_L1 x4_2 x6_2) t456 true _ ?side1 ?side2 ?side3 ?side4 A14.out).mono ?_
          (case side1 => repeat (first | exact (Kd.C_below HR454_0.out HB.out) | (with_reducible refine Kd.C_alloc ?_ _) | (with_reducible refine Kd.C_drewN ?_ _) | (with_reducible refine Kd.C_drew ?_)))
          (case side2 => exact HC454_0.out)
          (case side3 => exact Kd.cv HR455_0.out)
          (case side4 => exact HC455_0.out)
          rintro e w29 ⟨v458, rfl, ho0, hb⟩
          have HS3_ := (hb.cell (World.block_lt_of_cell? _ _ (hHeld.2.2.2))).trans (hHeld.2.2.2)
          refine ⟨_, rfl, ?_⟩
          have n0_ := am (Kd.S_elder' (by (with_reducible repeat (first | apply Kd.S_alloc | apply Kd.S_drewN | apply Kd.S_drew)); exact HO_4.out) (Kd.R_base ho0) hb)
          have n1_ := am (Kd.R_elder' (Kd.rv HL455_0.out) (Kd.R_base ho0) hb)
          have n2_ := am (Kd.R_lower (Kd.R_new' ho0 (Kd.R_lt (Kd.rv HL455_0.out))) (below_size (by repeat (first | (with_reducible first | exact HB.out | apply below_alloc | apply pw_below_drewN | apply below_drew1 | refine below_set ?_ GE446.out) | exact HB.out))))
          have n3_ := am (blk_below (g := gb446) (o := .cells #[.slice (some ad454) l0_0.length c0_0, .slice A0_1 l0_1.length c0_1] 25 (0, 0)) (bv BK446.out) hb)
          have n4_ := am (Kd.C_below (Kd.cv HR455_0.out) hb)
          have n5_ := am (pw_cell_below hb HX455_0.out)
          have n6_ := am (below_step (by repeat (first | (with_reducible first | exact HB.out | apply below_alloc | apply pw_below_drewN | apply below_drew1 | refine below_set ?_ GE446.out) | exact HB.out)) hb)
          clear HO_4 HL455_0 BK446 HR455_0 HX455_0 HB
          revert n0_ n1_ n2_ n3_ n4_ n5_ n6_
          intro HO_4 HL455_0 HO459 BK446 HR455_0 HX455_0 HB
          (try clear hb)
          (try clear hb2)
          (try clear hk)
          (try clear hi)
          (try clear ho0)
          refine hK.out _ _ ⟨(blk_cell BK446.out 0).trans rfl, (blk_cell BK446.out 1).trans rfl, ((HB.out.cell (World.block_lt_of_cell? w _ hw454_0)).trans hw454_0), HS3_⟩ (fun hHeld => ?_)
          clear hK K
          refine norm_ (a' := ?_) ?_ ?_
          rotate_left
          ·show Act.put _ (some 39) _ = _
           simp only [Act.put, List.setIfInBounds_toArray, List.set_cons_zero, List.set_cons_succ, i64_w, i32_w]
           rfl
          refine pure_ (i := 10) (N := some 29) (v := ?_) (a' := ?_) #[true, true, true, true, true, true, true, true, true, true, true, false, false, false, false] rfl rfl (any_of HT_.out (by kernel_rfl)) (fun _ _ _ h => h) (Or.inl ⟨by rfl, ?_⟩) ?_ ?_
          rotate_left
          ·intro w'
           go_simp
           with_reducible rfl
          rotate_left
          ·simp only [Act.put, List.setIfInBounds_toArray, List.set_cons_zero, List.set_cons_succ, i64_w, i32_w]
           rfl
          refine pure_ (i := 11) (N := some 40) (v := ?_) (a' := ?_) #[true, true, true, true, true, true, true, true, true, true, true, true, false, false, false] rfl rfl (any_of HT_.out (by kernel_rfl)) (fun _ _ _ h => h) (Or.inl ⟨by rfl, ?_⟩) ?_ ?_
          rotate_left
          ·intro w'
           go_simp
           with_reducible rfl
          rotate_left
          ·simp only [Act.put, List.setIfInBounds_toArray, List.set_cons_zero, List.set_cons_succ, i64_w, i32_w]
           rfl
          refine pure_ (i := 12) (N := some 41) (v := ?_) (a' := ?_) #[true, true, true, true, true, true, true, true, true, true, true, true, true, false, false] rfl rfl (any_of HT_.out (by kernel_rfl)) (fun _ _ _ h => h) (Or.inl ⟨by rfl, ?_⟩) ?_ ?_
          rotate_left
          ·intro w'
           go_simp
           with_reducible rfl
          rotate_left
          ·simp only [Act.put, List.setIfInBounds_toArray, List.set_cons_zero, List.set_cons_succ, i64_w, i32_w]
           rfl
          refine pure_ (i := 13) (N := some 7) (v := ?_) (a' := ?_) #[true, true, true, true, true, true, true, true, true, true, true, true, true, true, false] rfl rfl (any_of HT_.out (by kernel_rfl)) (fun _ _ _ h => h) (Or.inl ⟨by rfl, ?_⟩) ?_ ?_
          rotate_left
          ·intro w'
           go_simp
           with_reducible rfl
          rotate_left
          ·simp only [Act.put, List.setIfInBounds_toArray, List.set_cons_zero, List.set_cons_succ, i64_w, i32_w]
           rfl
          refine pure_ (i := 14) (N := some 8) (v := ?_) (a' := ?_) #[true, true, true, true, true, true, true, true, true, true, true, true, true, true, true] rfl rfl (any_of HT_.out (by kernel_rfl)) (fun _ _ _ h => h) (Or.inl ⟨by rfl, ?_⟩) ?_ ?_
          rotate_left
          ·intro w'
           go_simp
           with_reducible rfl
          rotate_left
          ·simp only [Act.put, List.setIfInBounds_toArray, List.set_cons_zero, List.set_cons_succ, i64_w, i32_w]
           rfl
          refine done_ (done_of HT_.out (by kernel_rfl)) ?_
          have p461 : 0 ≤ (x6_2 : Int) := da
          have q461 : x6_2 < (x4_2.length : Int) := da
          obtain ⟨ad461, A461_0, c461_0, e461, hx461_0, hl461_0, hi461_0⟩ := at_L1 (Kd.S_reads' HO_4.out).2.2 x6_2 p461 q461
          obtain rfl : ad455 = ad461 := (by injection e461)
          obtain ⟨ce461, hce461, hMe461, hcc461⟩ := Kd.S_get HO_4.out [] x6_2 p461 (by first | exact q461 | exact da | (have e_ := (Kd.S_reads' HO_4.out).1; omega))
          obtain ⟨ve461_0, rfl, ge461_0⟩ := hMe461
          have hv461_0 := hcc461 0 _ rfl
          rw [Nat.add_zero, show ((Kd.slice 3 (Kd.int .i64))).sz = 1 from rfl, Nat.mul_one] at hv461_0
          replace hv461_0 := Option.some.inj (hv461_0.symm.trans hx461_0)
          rw [hv461_0] at ge461_0
          have HL461_0 := am (show Kd.R (Kd.int .i64) 3 _ _ _ _ (rd_L1 x4_2 x6_2) from ge461_0)
          clear hv461_0 ge461_0
          have HX461_0 := am hx461_0
          clear hcc461 hce461
          have HR461_0 := am hi461_0
          have HC461_0 := am hl461_0
          clear hi461_0 hl461_0
          replace p461 := eq_true p461
          replace q461 := eq_true q461
          obtain ⟨Ao30, co30, eo30⟩ := Kd.R_slice HO459.out
          subst eo30
          try go_wp2_with (first | (go_at_call 51; (with_reducible refine (spec_l8Same.calls k2 _ _ t456 _ _ (rd_L1 x4_2 x6_2) t462 _ ?side1 ?side2 ?side3 ?side4 A24.out).mono ?_); (case side1 => exact Kd.cv (Kd.R_reads' HO459.out).2.2); (case side2 => exact (Kd.R_reads' HO459.out).2.1); (case side3 => repeat (first | exact (by repeat (first | (with_reducible exact HR461_0.out) | (with_reducible exact HR455_0.out) | (with_reducible refine Kd.C_alloc ?_ _) | (with_reducible refine Kd.C_drewN ?_ _) | (with_reducible refine Kd.C_drew ?_) | exact HR461_0.out)) | (with_reducible refine Kd.C_alloc ?_ _) | (with_reducible refine Kd.C_drewN ?_ _) | (with_reducible refine Kd.C_drew ?_))); (case side4 => first | exact HC461_0.out | exact HC455_0.out); rintro e w' ⟨rfl, ⟨nd, rfl⟩⟩; (try (rw [drewN_self w29]; generalize hq_ : World.drewN w29 _ = w29; have n0_ : Aside0 (Kd.R (Kd.int .i64) 3 w29 w.heap.size (fun k_ => some k_ ≠ (.slice Ao30 t456.length co30 : Value).ownBlock ∧ some k_ ≠ (.slice (some ad455) x4_2.length co28 : Value).ownBlock) (.slice A455_0 (rd_L1 x4_2 x6_2).length c455_0) (rd_L1 x4_2 x6_2)) := ⟨by rw [← hq_]; exact (by (with_reducible repeat (first | apply Kd.R_alloc | apply Kd.R_drewN | apply Kd.R_drew)); first | exact Kd.R_mono HL455_0.out (fun _ hk => by first | exact ⟨hk.2, hk.1.2⟩ | exact ⟨hk.1, hk.2⟩ | exact ⟨hk.2, hk.1⟩ | exact ⟨hk.1.2, hk.2⟩ | exact ⟨hk.1.1, hk.2⟩ | exact ⟨hk.1, hk.2.2⟩) | exact Kd.R_mono (Kd.R_apart' HL455_0.out (Kd.S_typed HO_4.out) (by decide)) (fun _ hk => by first | exact ⟨hk.1, hk.2⟩ | exact ⟨hk.2, hk.1⟩ | exact ⟨hk.1.1, hk.2⟩ | exact ⟨hk.1.2, hk.2⟩ | exact ⟨hk.2, hk.1.1⟩ | exact ⟨hk.2, hk.1.2⟩ | exact hk))⟩; have n1_ : Aside0 (Kd.R (Kd.int .i64) 3 w29 w.heap.size (fun k_ => some k_ ≠ (.slice Ao30 t456.length co30 : Value).ownBlock ∧ some k_ ≠ (.slice (some ad455) x4_2.length co28 : Value).ownBlock) (.slice A461_0 (rd_L1 x4_2 x6_2).length c461_0) (rd_L1 x4_2 x6_2)) := ⟨by rw [← hq_]; exact (by (with_reducible repeat (first | apply Kd.R_alloc | apply Kd.R_drewN | apply Kd.R_drew)); first | exact Kd.R_mono HL461_0.out (fun _ hk => by first | exact ⟨hk.1.2, hk.2⟩ | exact ⟨hk.1, hk.2⟩ | exact ⟨hk.2, hk.1⟩ | exact ⟨hk.2, hk.1.2⟩ | exact ⟨hk.1.1, hk.2⟩ | exact ⟨hk.1, hk.2.2⟩) | exact Kd.R_mono (Kd.R_apart' HL461_0.out (Kd.S_typed HO_4.out) (by decide)) (fun _ hk => by first | exact ⟨hk.1, hk.2⟩ | exact ⟨hk.2, hk.1⟩ | exact ⟨hk.1.1, hk.2⟩ | exact ⟨hk.1.2, hk.2⟩ | exact ⟨hk.2, hk.1.1⟩ | exact ⟨hk.2, hk.1.2⟩ | exact hk))⟩; have n2_ : Aside0 (Kd.R (Kd.int .i64) 3 w29 w.heap.size (fun k_ => some k_ ≠ (.slice A455_0 (rd_L1 x4_2 x6_2).length c455_0 : Value).ownBlock) (.slice Ao30 t456.length co30) t456) := ⟨by rw [← hq_]; exact (by (with_reducible repeat (first | apply Kd.R_alloc | apply Kd.R_drewN | apply Kd.R_drew)); exact Kd.R_mono HO459.out (fun _ hk => by first | exact hk.2 | exact hk | exact hk.1))⟩; have n3_ : Aside0 (Kd.S (Kd.slice 3 (Kd.int .i64)) 36 w29 w.heap.size (fun k_ => some k_ ≠ (.slice Ao30 t456.length co30 : Value).ownBlock) (.slice (some ad455) x4_2.length co28) x4_2) := ⟨by rw [← hq_]; exact (by (with_reducible repeat (first | apply Kd.S_alloc | apply Kd.S_drewN | apply Kd.S_drew)); exact Kd.S_mono HO_4.out (fun _ hk => by first | exact hk.2 | exact hk | exact hk.1))⟩; have n4_ : Aside0 (w29.heap[gb446]? = some (.cells #[.slice (some ad454) l0_0.length c0_0, .slice A0_1 l0_1.length c0_1] 25 (0, 0))) := ⟨by rw [← hq_]; exact (bv BK446.out)⟩; have n5_ : Aside0 (Below w.heap.size w w29) := ⟨by rw [← hq_]; exact (by repeat (first | (with_reducible first | exact HB.out | apply below_alloc | apply pw_below_drewN | apply below_drew1 | refine below_set ?_ GE446.out) | exact HB.out))⟩; have n6_ : Aside0 (Kd.C (Kd.int .i64) w29 A455_0 (rd_L1 x4_2 x6_2).length (rd_L1 x4_2 x6_2)) := ⟨by rw [← hq_]; exact (Kd.cv HR455_0.out)⟩; have n7_ : Aside0 (Kd.C (Kd.int .i64) w29 A461_0 (rd_L1 x4_2 x6_2).length (rd_L1 x4_2 x6_2)) := ⟨by rw [← hq_]; exact (Kd.cv HR461_0.out)⟩; clear HL455_0 HL461_0 HO459 HO_4 BK446 HB HR455_0 HR461_0 hq_; revert n0_ n1_ n2_ n3_ n4_ n5_ n6_ n7_; intro HL455_0 HL461_0 HO459 HO_4 BK446 HB HR455_0 HR461_0)); have p25 : 0 ≤ (x6_2 : Int) := da; have q25 : (x6_2 : Int) < ((x4_2.length : Int) : Int) := da; obtain ⟨go25, co25, eo25, gb25, gl25, cl25, HG25⟩ := Kd.S_form HO_4.out (by omega); (first | cases eo25 | (injection eo25 with ea_ en_ ec_; (first | subst ea_ | (injection ea_ with ea_; subst ea_)); subst ec_; clear en_)); have GB25 := am gb25; have GG25 := am HG25; clear gb25 gl25 HG25; (first | simp only [add_plain] at hx455_0 | skip); (first | simp only [add_plain] at hx461_0 | skip); obtain ⟨_, ce25, hcl25, hM25, hcc25, hfr25, _, _⟩ := Kd.S_elem HO_4.out [] (x6_2 : Int) p25 q25; obtain ⟨ve25_0, rfl, ge25_0⟩ := hM25; have hx25_0 := hcc25 0 _ rfl; have hf25_0 := hfr25 0; (try simp only [show ((Kd.slice 3 (Kd.int .i64))).sz = 1 from rfl, Nat.mul_one, Nat.add_zero] at hx25_0); (try simp only [show ((Kd.slice 3 (Kd.int .i64))).sz = 1 from rfl, Nat.mul_one, Nat.add_zero] at hf25_0); clear hcl25 hcc25 hfr25; replace p25 := eq_true p25; replace q25 := eq_true q25; have n_ := am (Kd.S_mono (ok' := (fun k_ => some k_ ≠ (.slice Ao30 t456.length co30 : Value).ownBlock)) HO_4.out (fun k_ hk => by first | exact hk.2 | exact hk | exact hk.1)); clear HO_4; have HO_4 := n_; clear n_; have HX31 := am (show Kd.S (Kd.slice 3 (Kd.int .i64)) 36 w29 w.heap.size (fun k_ => ((fun _ => True)) k_ ∧ ¬ ((fun k_ => some k_ = (.slice Ao30 t456.length co30 : Value).ownBlock)) k_) (.slice (some ⟨go25, 0, none⟩) x4_2.length co28) x4_2 from (by (with_reducible repeat (first | apply Kd.S_alloc | apply Kd.S_drewN | apply Kd.S_drew)); exact Kd.S_mono HO_4.out (fun k_ hk => ⟨trivial, fun e_ => hk e_⟩))); obtain ⟨oki31, ce31, hcl31, hM31, hcc31, hfr31, hoki31, hH31⟩ := Kd.S_elem HX31.out [] (x6_2 : Int) (da) (by have h_ : (x6_2 : Int) < ((x4_2.length : Int) : Int) := da; first | exact h_ | (have e_ := (Kd.S_reads' HO_4.out).1; omega) | simpa using h_); obtain ⟨ve31_0, rfl, ge31_0⟩ := hM31; have HP31 := Kd.S_seg hH31 (da) (by have h_ : (x6_2 : Int) < ((x4_2.length : Int) : Int) := da; first | exact h_ | (have e_ := (Kd.S_reads' HO_4.out).1; omega) | simpa using h_) (seg := [.slice Ao30 t456.length co30]) (j := 0) (show 1 ≤ 1 from by decide) (x' := t456) (Kd.M_row (Kd.R_mono (Kd.R_tight rfl (Kd.R_mono (ok' := fun k_ => ((fun _ => True)) k_ ∧ k_ ≠ go25) (Kd.R_apart' (HO459.out) (Kd.S_typed HO_4.out) (by decide)) (fun k_ hk => ⟨trivial, fun e_ => (hk.2) (by rw [e_]; rfl)⟩))) (fun _ h_ => Or.inr (h_)))) (fun _ hk => hk) (fun k_ hk_ => ((Kd.R_mono (ok' := fun k_ => ((fun _ => True)) k_ ∧ k_ ≠ go25) (Kd.R_apart' (HO459.out) (Kd.S_typed HO_4.out) (by decide)) (fun k_ hk => ⟨trivial, fun e_ => (hk.2) (by rw [e_]; rfl)⟩))).1 k_ hk_.symm); have hx31_0 := hcc31 0 _ rfl; (try simp only [show ((Kd.slice 3 (Kd.int .i64))).sz = 1 from rfl, Nat.mul_one, Nat.add_zero] at hx31_0); have hf31_0 := hfr31 0; (try simp only [show ((Kd.slice 3 (Kd.int .i64))).sz = 1 from rfl, Nat.mul_one, Nat.add_zero] at hf31_0); clear hcl31 hcc31 hfr31 hoki31 hH31; (try simp only [show ((Kd.slice 3 (Kd.int .i64))).sz = 1 from rfl, Nat.mul_one, Nat.add_zero] at HP31)) | ((with_reducible refine gate_store (t := 36) (p := 58) rfl ?_); refine store_event (t := 36) (p := 58) (v := ?vo_w32) (w1 := (w29.setCell ⟨go25, (x6_2 : Int).toNat, none⟩ (.slice Ao30 t456.length co30))) ?hg ?ho ?hn ?hr ?_; (case ho => rfl); (case hg => rfl); (case hn => rfl); (case hr => first | (go_simp; done) | (go_simp; rfl) | (obtain ⟨A_, c_, e_⟩ := Kd.R_slice HO459.out; rw [e_]; go_simp; done) | (obtain ⟨A_, c_, e_⟩ := Kd.R_slice HO459.out; rw [e_]; go_simp; rfl)); intro w32 hw; have hg : w29.grownBy w32 (some go25) := (by rw [hw]; exact HP31.2); have hp_ : Kd.S (Kd.slice 3 (Kd.int .i64)) 36 w32 w.heap.size (fun _ => True) (.slice (some ⟨go25, 0, none⟩) x4_2.length co28) y463 := (by rw [hw, Ny463.out]; exact HP31.1); clear HP31; have n0_ := am (hp_); have n1_ := am (blk_grown (g := gb446) (o := .cells #[.slice (some ad454) l0_0.length c0_0, .slice A0_1 l0_1.length c0_1] 25 (0, 0)) (bv BK446.out) hg (Kd.S_ne HO_4.out BK446.out (by decide))); have n2_ := am (Kd.R_after (v := (.slice (some ⟨go25, 0, none⟩) x4_2.length co28)) (v1 := (.slice (some ⟨go25, 0, none⟩) x4_2.length co28)) (ok := (fun k_ => some k_ ≠ (.slice Ao30 t456.length co30 : Value).ownBlock)) (by (with_reducible repeat (first | apply Kd.R_alloc | apply Kd.R_drewN | apply Kd.R_drew)); exact Kd.R_mono HL455_0.out (fun _ hk => by first | exact ⟨hk.2, hk.1.2⟩ | exact ⟨hk.1, hk.2⟩ | exact ⟨hk.2, hk.1⟩ | exact ⟨hk.1.2, hk.2⟩ | exact ⟨hk.1.1, hk.2⟩ | exact ⟨hk.1, hk.2.2⟩)) hg (.inl rfl)); have n3_ := am (Kd.R_after (v := (.slice (some ⟨go25, 0, none⟩) x4_2.length co28)) (v1 := (.slice (some ⟨go25, 0, none⟩) x4_2.length co28)) (ok := (fun k_ => some k_ ≠ (.slice Ao30 t456.length co30 : Value).ownBlock)) (by (with_reducible repeat (first | apply Kd.R_alloc | apply Kd.R_drewN | apply Kd.R_drew)); exact Kd.R_mono HL461_0.out (fun _ hk => by first | exact ⟨hk.1.2, hk.2⟩ | exact ⟨hk.1, hk.2⟩ | exact ⟨hk.2, hk.1⟩ | exact ⟨hk.2, hk.1.2⟩ | exact ⟨hk.1.1, hk.2⟩ | exact ⟨hk.1, hk.2.2⟩)) hg (.inl rfl)); have n4_ := am ((by rw [hw]; exact below_set (HB.out) GB25.out : Below w.heap.size w w32)); clear HO_4 BK446 HL455_0 HL461_0 HB HO459; revert n0_ n1_ n2_ n3_ n4_; intro HO_4 BK446 HL455_0 HL461_0 HB; clear hg hw hp_))
          go_roundg k2
          case measure => have := HK1.out; have := HK2.out; omega
          case rel => exact ⟨(y463), (!t462), (wrap64 (x6_2 + 1)), rfl, rfl, H', ⟨by have := HK1.out; have := HK2.out; omega⟩, ⟨by (with_reducible repeat (first | apply Kd.S_alloc | apply Kd.S_drewN | apply Kd.S_drew)); exact HO_4.out⟩, ⟨bv BK446.out⟩, ⟨by repeat (first | (with_reducible first | exact HB.out | apply below_alloc | apply pw_below_drewN | apply below_drew1 | refine below_set ?_ GE446.out) | exact HB.out)⟩⟩
        ·replace c15 := Bool.eq_false_iff.mpr c15
         subst c15
         rw [if_neg (show ¬ (false = true) by decide)] at H
         obtain ⟨y464, hy464⟩ : ∃ y_ : List (List Int), y_ = (([] : List (List Int))) := ⟨_, rfl⟩
         replace H : (some (y464, false)) = some (r1, r2) := by first | (rw [hy464]; with_reducible exact H) | (have H2_ := (Option.bind_some _ _).symm.trans H; rw [hy464]; with_reducible exact H2_) | (have H2_ := (Option.bind_some _ _).symm.trans H; with_reducible exact H2_) | with_reducible exact H | (rw [hy464]; exact H) | exact H
         have Ny464 := am hy464
         clear hy464
         simp only [Option.some.injEq, Prod.mk.injEq] at H
         obtain ⟨rfl, rfl⟩ := H
         have hcz33_0 : wr.cell? ⟨gb446, 0, none⟩ = some (.slice A0_0 l0_0.length c0_0) := (blk_cell BK446.out 0).trans rfl
         have hcz33_1 : wr.cell? ⟨gb446, 1, none⟩ = some (.slice A0_1 l0_1.length c0_1) := (blk_cell BK446.out 1).trans rfl
         have hfz33_0 := blk_frozen BK446.out 0
         have hfz33_1 := blk_frozen BK446.out 1
         try go_wp2
         have n0_ := am (Kd.S_drew HO_4.out)
         have n1_ := am (blk_drew BK446.out)
         have n2_ := am (below_drew1 HB.out)
         clear HO_4 BK446 HB
         revert n0_ n1_ n2_
         intro HO_4 BK446 HB
         have p454 : 0 ≤ (x6_2 : Int) := da
         have q454 : x6_2 < (l0_0.length : Int) := da
         obtain ⟨ad454, A454_0, c454_0, e454, hx454_0, hl454_0, hi454_0⟩ := at_L1 HR0_0.out x6_2 p454 q454
         have hw454_0 := hx454_0
         cases e454
         replace hx454_0 := (HB.out.cell (World.block_lt_of_cell? w _ hx454_0)).trans hx454_0
         have HR454_0 := am hi454_0
         have HC454_0 := am hl454_0
         clear hi454_0 hl454_0
         replace p454 := eq_true p454
         replace q454 := eq_true q454
         obtain ⟨Ao35, co35, eo35⟩ := Kd.S_slice HO_4.out
         (first | subst eo35 | (injection eo35 with f1_ f2_ f3_; have f4_ := f1_.symm; have f5_ := f3_.symm; clear f1_ f2_ f3_; subst f4_; subst f5_))
         have p455 : 0 ≤ (x6_2 : Int) := da
         have q455 : x6_2 < (x4_2.length : Int) := da
         obtain ⟨ad455, A455_0, c455_0, e455, hx455_0, hl455_0, hi455_0⟩ := at_L1 (Kd.S_reads' HO_4.out).2.2 x6_2 p455 q455
         cases e455
         obtain ⟨ce455, hce455, hMe455, hcc455⟩ := Kd.S_get HO_4.out [] x6_2 p455 (by first | exact q455 | exact da | (have e_ := (Kd.S_reads' HO_4.out).1; omega))
         obtain ⟨ve455_0, rfl, ge455_0⟩ := hMe455
         have hv455_0 := hcc455 0 _ rfl
         rw [Nat.add_zero, show ((Kd.slice 3 (Kd.int .i64))).sz = 1 from rfl, Nat.mul_one] at hv455_0
         replace hv455_0 := Option.some.inj (hv455_0.symm.trans hx455_0)
         rw [hv455_0] at ge455_0
         have HL455_0 := am (show Kd.R (Kd.int .i64) 3 _ _ _ _ (rd_L1 x4_2 x6_2) from ge455_0)
         clear hv455_0 ge455_0
         have HX455_0 := am hx455_0
         clear hcc455 hce455
         have HR455_0 := am hi455_0
         have HC455_0 := am hl455_0
         clear hi455_0 hl455_0
         replace p455 := eq_true p455
         replace q455 := eq_true q455
         refine start_ (n := 15) (S := fun w' => w'.cell? ⟨gb446, 0, none⟩ = some (.slice (some ad454) l0_0.length c0_0) ∧ w'.cell? ⟨gb446, 1, none⟩ = some (.slice A0_1 l0_1.length c0_1) ∧ w'.cell? (ad454.add (x6_2).toNat) = some (.slice A454_0 (rd_L1 l0_0 x6_2).length c454_0) ∧ w'.cell? (ad455.add (x6_2).toNat) = some (.slice A455_0 (rd_L1 x4_2 x6_2).length c455_0)) (ds := []) #[false, false, false, false, false, false, false, false, false, false, false, false, false, false, false] (by kernel_rfl) rfl rfl ⟨(blk_cell BK446.out 0).trans rfl, (blk_cell BK446.out 1).trans rfl, ((HB.out.cell (World.block_lt_of_cell? w _ hw454_0)).trans hw454_0), hx455_0⟩ (fun hHeld => ?_); refine with_tabW spec_PictureLines.tab10 spec_PictureLines.bits10 (fun HT_ HW_ => ?_)
         generalize wr.drew = w34 at HO_4 BK446 HB HL455_0 HR454_0 HR455_0 HX455_0 hx454_0 hx455_0 hHeld ⊢
         refine pure_ (i := 0) (N := some 30) (v := ?_) (a' := ?_) #[true, false, false, false, false, false, false, false, false, false, false, false, false, false, false] rfl rfl (any_of HT_.out (by kernel_rfl)) (fun _ _ _ h => h) (Or.inl ⟨by rfl, ?_⟩) ?_ ?_
         rotate_left
         ·intro w'
          go_simp
          with_reducible rfl
         rotate_left
         ·simp only [Act.put, List.setIfInBounds_toArray, List.set_cons_zero, List.set_cons_succ, i64_w, i32_w]
          rfl
         refine pure_ (i := 2) (N := some 32) (v := ?_) (a' := ?_) #[true, false, true, false, false, false, false, false, false, false, false, false, false, false, false] rfl rfl (any_of HT_.out (by kernel_rfl)) (fun _ _ _ h => h) (Or.inl ⟨by rfl, ?_⟩) ?_ ?_
         rotate_left
         ·intro w'
          go_simp
          with_reducible rfl
         rotate_left
         ·simp only [Act.put, List.setIfInBounds_toArray, List.set_cons_zero, List.set_cons_succ, i64_w, i32_w]
          rfl
         refine pure_ (i := 5) (N := some 35) (v := ?_) (a' := ?_) #[true, false, true, false, false, true, false, false, false, false, false, false, false, false, false] rfl rfl (any_of HT_.out (by kernel_rfl)) (fun _ _ _ h => h) (Or.inl ⟨by rfl, ?_⟩) ?_ ?_
         rotate_left
         ·intro w'
          go_simp
          with_reducible rfl
         rotate_left
         ·simp only [Act.put, List.setIfInBounds_toArray, List.set_cons_zero, List.set_cons_succ, i64_w, i32_w]
          rfl
         refine pure_ (i := 6) (N := some 36) (v := ?_) (a' := ?_) #[true, false, true, false, false, true, true, false, false, false, false, false, false, false, false] rfl rfl (any_of HT_.out (by kernel_rfl)) (fun _ _ _ h => h) (Or.inl ⟨by rfl, ?_⟩) ?_ ?_
         rotate_left
         ·intro w'
          go_simp
          with_reducible rfl
         rotate_left
         ·simp only [Act.put, List.setIfInBounds_toArray, List.set_cons_zero, List.set_cons_succ, i64_w, i32_w]
          rfl
         refine pure_ (i := 7) (N := some 37) (v := ?_) (a' := ?_) #[true, false, true, false, false, true, true, true, false, false, false, false, false, false, false] rfl rfl (any_of HT_.out (by kernel_rfl)) (fun _ _ _ h => h) (Or.inl ⟨by rfl, ?_⟩) ?_ ?_
         rotate_left
         ·intro w'
          go_simp
          with_reducible rfl
         rotate_left
         ·simp only [Act.put, List.setIfInBounds_toArray, List.set_cons_zero, List.set_cons_succ, i64_w, i32_w]
          rfl
         refine take_ (i := 1) (N := some 31) (v := ?_) (a' := ?_) #[true, true, true, false, false, true, true, true, false, false, false, false, false, false, false] rfl rfl (take_ofW HT_.out HW_.out (by kernel_rfl)) (fun _ _ _ h => h) (Or.inl ⟨by rfl, ?_⟩) hHeld ?_ ?_
         rotate_left
         ·rintro w' ⟨s0, s1, s2, s3⟩
          go_simp
          with_reducible rfl
         rotate_left
         ·simp only [Act.put, List.setIfInBounds_toArray, List.set_cons_zero, List.set_cons_succ, i64_w, i32_w]
          rfl
         refine pure_ (i := 3) (N := some 33) (v := ?_) (a' := ?_) #[true, true, true, true, false, true, true, true, false, false, false, false, false, false, false] rfl rfl (any_of HT_.out (by kernel_rfl)) (fun _ _ _ h => h) (Or.inl ⟨by rfl, ?_⟩) ?_ ?_
         rotate_left
         ·intro w'
          go_simp
          with_reducible rfl
         rotate_left
         ·simp only [Act.put, List.setIfInBounds_toArray, List.set_cons_zero, List.set_cons_succ, i64_w, i32_w]
          rfl
         refine take_ (i := 4) (N := some 34) (v := ?_) (a' := ?_) #[true, true, true, true, true, true, true, true, false, false, false, false, false, false, false] rfl rfl (take_ofW HT_.out HW_.out (by kernel_rfl)) (fun _ _ _ h => h) (Or.inl ⟨by rfl, ?_⟩) hHeld ?_ ?_
         rotate_left
         ·rintro w' ⟨s0, s1, s2, s3⟩
          go_simp
          with_reducible rfl
         rotate_left
         ·simp only [Act.put, List.setIfInBounds_toArray, List.set_cons_zero, List.set_cons_succ, i64_w, i32_w]
          rfl
         refine take_ (i := 8) (N := some 38) (v := ?_) (a' := ?_) #[true, true, true, true, true, true, true, true, true, false, false, false, false, false, false] rfl rfl (take_ofW HT_.out HW_.out (by kernel_rfl)) (fun _ _ _ h => h) (Or.inl ⟨by rfl, ?_⟩) hHeld ?_ ?_
         rotate_left
         ·rintro w' ⟨s0, s1, s2, s3⟩
          go_simp
          with_reducible rfl
         rotate_left
         ·simp only [Act.put, List.setIfInBounds_toArray, List.set_cons_zero, List.set_cons_succ, i64_w, i32_w]
          rfl
         refine one_ (i := 9) (N := some 39) #[true, true, true, true, true, true, true, true, true, true, false, false, false, false, false] rfl rfl (one_of HT_.out (by kernel_rfl)) (by decide) (fun K hK => ?_)
         refine goes_ Try.func50 (by kernel_rfl) rfl #[.slice A454_0 (rd_L1 l0_0 x6_2).length c454_0, .slice A455_0 (rd_L1 x4_2 x6_2).length c455_0] (by rfl) rfl rfl (by (try simp only [List.map_toArray, List.map_cons, List.map_nil]); first | done | rfl | (simp only [List.length_drop, List.length_take]; rfl)) ?_
         with_reducible refine (spec_LineForced.calls k2 _ _ (rd_L1 l0_0 x6_2) _ _ (rd_L1 x4_2 x6_2) t456 false _ ?side1 ?side2 ?side3 ?side4 A14.out).mono ?_
         (case side1 => repeat (first | exact (Kd.C_below HR454_0.out HB.out) | (with_reducible refine Kd.C_alloc ?_ _) | (with_reducible refine Kd.C_drewN ?_ _) | (with_reducible refine Kd.C_drew ?_)))
         (case side2 => exact HC454_0.out)
         (case side3 => exact Kd.cv HR455_0.out)
         (case side4 => exact HC455_0.out)
         rintro e w36 ⟨v458, rfl, ho0, hb⟩
         have HS3_ := (hb.cell (World.block_lt_of_cell? _ _ (hHeld.2.2.2))).trans (hHeld.2.2.2)
         refine ⟨_, rfl, ?_⟩
         have n0_ := am (Kd.S_elder' (by (with_reducible repeat (first | apply Kd.S_alloc | apply Kd.S_drewN | apply Kd.S_drew)); exact HO_4.out) (Kd.R_base ho0) hb)
         have n1_ := am (Kd.R_elder' (Kd.rv HL455_0.out) (Kd.R_base ho0) hb)
         have n2_ := am (Kd.R_lower (Kd.R_new' ho0 (Kd.R_lt (Kd.rv HL455_0.out))) (below_size (by repeat (first | (with_reducible first | exact HB.out | apply below_alloc | apply pw_below_drewN | apply below_drew1 | refine below_set ?_ GE446.out) | exact HB.out))))
         have n3_ := am (blk_below (g := gb446) (o := .cells #[.slice (some ad454) l0_0.length c0_0, .slice A0_1 l0_1.length c0_1] 25 (0, 0)) (bv BK446.out) hb)
         have n4_ := am (Kd.C_below (Kd.cv HR455_0.out) hb)
         have n5_ := am (pw_cell_below hb HX455_0.out)
         have n6_ := am (below_step (by repeat (first | (with_reducible first | exact HB.out | apply below_alloc | apply pw_below_drewN | apply below_drew1 | refine below_set ?_ GE446.out) | exact HB.out)) hb)
         clear HO_4 HL455_0 BK446 HR455_0 HX455_0 HB
         revert n0_ n1_ n2_ n3_ n4_ n5_ n6_
         intro HO_4 HL455_0 HO459 BK446 HR455_0 HX455_0 HB
         (try clear hb)
         (try clear hb2)
         (try clear hk)
         (try clear hi)
         (try clear ho0)
         refine hK.out _ _ ⟨(blk_cell BK446.out 0).trans rfl, (blk_cell BK446.out 1).trans rfl, ((HB.out.cell (World.block_lt_of_cell? w _ hw454_0)).trans hw454_0), HS3_⟩ (fun hHeld => ?_)
         clear hK K
         refine norm_ (a' := ?_) ?_ ?_
         rotate_left
         ·show Act.put _ (some 39) _ = _
          simp only [Act.put, List.setIfInBounds_toArray, List.set_cons_zero, List.set_cons_succ, i64_w, i32_w]
          rfl
         refine pure_ (i := 10) (N := some 29) (v := ?_) (a' := ?_) #[true, true, true, true, true, true, true, true, true, true, true, false, false, false, false] rfl rfl (any_of HT_.out (by kernel_rfl)) (fun _ _ _ h => h) (Or.inl ⟨by rfl, ?_⟩) ?_ ?_
         rotate_left
         ·intro w'
          go_simp
          with_reducible rfl
         rotate_left
         ·simp only [Act.put, List.setIfInBounds_toArray, List.set_cons_zero, List.set_cons_succ, i64_w, i32_w]
          rfl
         refine pure_ (i := 11) (N := some 40) (v := ?_) (a' := ?_) #[true, true, true, true, true, true, true, true, true, true, true, true, false, false, false] rfl rfl (any_of HT_.out (by kernel_rfl)) (fun _ _ _ h => h) (Or.inl ⟨by rfl, ?_⟩) ?_ ?_
         rotate_left
         ·intro w'
          go_simp
          with_reducible rfl
         rotate_left
         ·simp only [Act.put, List.setIfInBounds_toArray, List.set_cons_zero, List.set_cons_succ, i64_w, i32_w]
          rfl
         refine pure_ (i := 12) (N := some 41) (v := ?_) (a' := ?_) #[true, true, true, true, true, true, true, true, true, true, true, true, true, false, false] rfl rfl (any_of HT_.out (by kernel_rfl)) (fun _ _ _ h => h) (Or.inl ⟨by rfl, ?_⟩) ?_ ?_
         rotate_left
         ·intro w'
          go_simp
          with_reducible rfl
         rotate_left
         ·simp only [Act.put, List.setIfInBounds_toArray, List.set_cons_zero, List.set_cons_succ, i64_w, i32_w]
          rfl
         refine pure_ (i := 13) (N := some 7) (v := ?_) (a' := ?_) #[true, true, true, true, true, true, true, true, true, true, true, true, true, true, false] rfl rfl (any_of HT_.out (by kernel_rfl)) (fun _ _ _ h => h) (Or.inl ⟨by rfl, ?_⟩) ?_ ?_
         rotate_left
         ·intro w'
          go_simp
          with_reducible rfl
         rotate_left
         ·simp only [Act.put, List.setIfInBounds_toArray, List.set_cons_zero, List.set_cons_succ, i64_w, i32_w]
          rfl
         refine pure_ (i := 14) (N := some 8) (v := ?_) (a' := ?_) #[true, true, true, true, true, true, true, true, true, true, true, true, true, true, true] rfl rfl (any_of HT_.out (by kernel_rfl)) (fun _ _ _ h => h) (Or.inl ⟨by rfl, ?_⟩) ?_ ?_
         rotate_left
         ·intro w'
          go_simp
          with_reducible rfl
         rotate_left
         ·simp only [Act.put, List.setIfInBounds_toArray, List.set_cons_zero, List.set_cons_succ, i64_w, i32_w]
          rfl
         refine done_ (done_of HT_.out (by kernel_rfl)) ?_
         try go_wp2_with (first | ((with_reducible refine gate_dst (N := 44) rfl ?_); refine Kd.S_lit (Kd.slice 3 (Kd.int .i64)) _ 36 ?hg (N := 44) ?hd (xs := ([] : List (List Int))) (inner := []) (ok := fun _ => True) (okp := fun _ => True) ?hr ?hp (fun _ hk => hk) trivial (Below.refl _ _) (Nat.le_refl _) (by simp) ?_; (case hd => rfl); (case hg => rfl); (case hr => first | (go_simp; done) | (go_simp; rfl)); (case hp => exact (Reps.none _ _)); intro v465 w37 ho38 hb hg_ hnew_; clear hg_ hnew_; (first | rw [← Ny464.out] at ho38 | (simp only [Int.reduceToNat] at ho38; rw [← Ny464.out] at ho38)); have n0_ := am (Kd.S_elder' (by (with_reducible repeat (first | apply Kd.S_alloc | apply Kd.S_drewN | apply Kd.S_drew)); exact HO_4.out) (Kd.S_base ho38) hb); have n1_ := am (Kd.R_below (Kd.rv HL455_0.out) hb); have n2_ := am (Kd.R_below (Kd.rv HO459.out) hb); have n3_ := am (Kd.S_lower (Kd.S_new' (Kd.S_new' (Kd.S_new' ho38 (Kd.S_lt (by (with_reducible repeat (first | apply Kd.S_alloc | apply Kd.S_drewN | apply Kd.S_drew)); exact HO_4.out))) (Kd.R_lt (Kd.rv HL455_0.out))) (Kd.R_lt (Kd.rv HO459.out))) (below_size (by repeat (first | (with_reducible first | exact HB.out | apply below_alloc | apply pw_below_drewN | apply below_drew1 | refine below_set ?_ GE446.out) | exact HB.out)))); have n4_ := am (blk_below (g := gb446) (o := .cells #[.slice (some ad454) l0_0.length c0_0, .slice A0_1 l0_1.length c0_1] 25 (0, 0)) (bv BK446.out) hb); have n5_ := am (Kd.C_below (Kd.cv HR455_0.out) hb); have n6_ := am (pw_cell_below hb HX455_0.out); have n7_ := am (below_step (by repeat (first | (with_reducible first | exact HB.out | apply below_alloc | apply pw_below_drewN | apply below_drew1 | refine below_set ?_ GE446.out) | exact HB.out)) hb); clear HO_4 HL455_0 HO459 BK446 HR455_0 HX455_0 HB; revert n0_ n1_ n2_ n3_ n4_ n5_ n6_ n7_; intro HO_4 HL455_0 HO459 HO466 BK446 HR455_0 HX455_0 HB; clear hb ho38))
         go_ret2
         exact ⟨_, rfl, by (with_reducible repeat (first | apply Kd.S_alloc | apply Kd.S_drewN | apply Kd.S_drew)); exact Kd.S_mono HO466.out (fun _ hk => trivial), by repeat (first | (with_reducible first | exact HB.out | apply below_alloc | apply pw_below_drewN | apply below_drew1 | refine below_set ?_ GE446.out) | exact HB.out)⟩
       ·rw [if_neg c11] at H
        have c11b0 : decide (x6_2 < (l0_0.length : Int)) = false := decide_eq_false c11
        clear c11
        have H' := am H
        clear H
        have hcz39_0 : wr.cell? ⟨gb446, 0, none⟩ = some (.slice A0_0 l0_0.length c0_0) := (blk_cell BK446.out 0).trans rfl
        have hcz39_1 : wr.cell? ⟨gb446, 1, none⟩ = some (.slice A0_1 l0_1.length c0_1) := (blk_cell BK446.out 1).trans rfl
        have hfz39_0 := blk_frozen BK446.out 0
        have hfz39_1 := blk_frozen BK446.out 1
        go_wp2
        go_loopg [5, 9] k2 (fun kq v5 v9 w' => ∃ (x4_3 : List (List Int)) (x5_3 : Bool) (x9_3 : Int), v5 = .bool x5_3 ∧ v9 = .int .i64 x9_3 ∧ Aside0 (spec_PictureLines.l2 kq x4_3 x5_3 x9_3 l0_0 l0_1 = some (r1, r2)) ∧ Aside0 (kq ≤ k2) ∧ Aside0 (Kd.S (Kd.slice 3 (Kd.int .i64)) 36 w' w.heap.size (fun _ => True) v452 x4_3) ∧ Aside0 (w'.heap[gb446]? = some (.cells #[(.slice A0_0 l0_0.length c0_0), (.slice A0_1 l0_1.length c0_1)] 25 (0, 0))) ∧ Aside0 (Below w.heap.size w w'))
        case atStart => exact ⟨(x4_2), (x5_2), (0), rfl, rfl, H', ⟨Nat.le_refl _⟩, ⟨by (with_reducible repeat (first | apply Kd.S_alloc | apply Kd.S_drewN | apply Kd.S_drew)); exact HO_4.out⟩, ⟨bv BK446.out⟩, ⟨by repeat (first | (with_reducible first | exact HB.out | apply below_alloc | apply pw_below_drewN | apply below_drew1 | refine below_set ?_ GE446.out) | exact HB.out)⟩⟩
        case round =>
         clear H'
         clear c11b0 hcz39_0 hcz39_1 hfz39_0 hfz39_1
         obtain ⟨x4_3, x5_3, x9_3, rfl, rfl, HA, HK3, HO_4, BK446, HB⟩ := hrel
         cases gk with
         | zero => exact absurd HA.out (by simp [spec_PictureLines.l2])
         | succ k3 =>
          have H := HA.out
          clear HA
          simp only [spec_PictureLines.l2] at H
          by_cases c40 : x9_3 < (l0_1.length : Int)
          ·rw [if_pos c40] at H
           have c40b0 : decide (x9_3 < (l0_1.length : Int)) = true := decide_eq_true c40
           clear c40
           obtain ⟨y467, hy467⟩ : ∃ y_ : List Int, y_ = (([] : List Int)) := ⟨_, rfl⟩
           replace H : (spec_PictureLines.l3 k3 x4_3 x5_3 x9_3 y467 0 l0_0 l0_1) = some (r1, r2) := by first | (rw [hy467]; with_reducible exact H) | (have H2_ := (Option.bind_some _ _).symm.trans H; rw [hy467]; with_reducible exact H2_) | (have H2_ := (Option.bind_some _ _).symm.trans H; with_reducible exact H2_) | with_reducible exact H | (rw [hy467]; exact H) | exact H
           have Ny467 := am hy467
           clear hy467
           have H' := am H
           clear H
           have hcz41_0 : wr.cell? ⟨gb446, 0, none⟩ = some (.slice A0_0 l0_0.length c0_0) := (blk_cell BK446.out 0).trans rfl
           have hcz41_1 : wr.cell? ⟨gb446, 1, none⟩ = some (.slice A0_1 l0_1.length c0_1) := (blk_cell BK446.out 1).trans rfl
           have hfz41_0 := blk_frozen BK446.out 0
           have hfz41_1 := blk_frozen BK446.out 1
           go_wp2_with (first | ((with_reducible refine gate_dst (N := 66) rfl ?_); refine Kd.R_lit (Kd.int .i64) _ 3 ?hg (N := 66) ?hd (xs := ([] : List Int)) (inner := []) (ok := fun _ => True) (okp := fun _ => True) ?hr ?hp (fun _ hk => hk) trivial (Below.refl _ _) (Nat.le_refl _) (by simp) ?_; (case hd => rfl); (case hg => rfl); (case hr => first | (go_simp; done) | (go_simp; rfl)); (case hp => exact (Reps.none _ _)); intro v468 w42 ho43 hb hg_ hnew_; clear hg_ hnew_; (first | rw [← Ny467.out] at ho43 | (simp only [Int.reduceToNat] at ho43; rw [← Ny467.out] at ho43)); have n0_ := am (Kd.S_elder' (by (with_reducible repeat (first | apply Kd.S_alloc | apply Kd.S_drewN | apply Kd.S_drew)); exact HO_4.out) (Kd.R_base ho43) hb); have n1_ := am (Kd.R_lower ho43 (below_size (by repeat (first | (with_reducible first | exact HB.out | apply below_alloc | apply pw_below_drewN | apply below_drew1 | refine below_set ?_ GE446.out) | exact HB.out)))); have n2_ := am (blk_below (g := gb446) (o := .cells #[.slice A0_0 l0_0.length c0_0, .slice A0_1 l0_1.length c0_1] 25 (0, 0)) (bv BK446.out) hb); have n3_ := am (below_step (by repeat (first | (with_reducible first | exact HB.out | apply below_alloc | apply pw_below_drewN | apply below_drew1 | refine below_set ?_ GE446.out) | exact HB.out)) hb); clear HO_4 BK446 HB; revert n0_ n1_ n2_ n3_; intro HO_4 HO469 BK446 HB; clear hb ho43))
           go_loopg [10, 11] k3 (fun kq v10 v11 w' => ∃ (x10_4 : List Int) (x11_4 : Int), v11 = .int .i64 x11_4 ∧ Aside0 (spec_PictureLines.l3 kq x4_3 x5_3 x9_3 x10_4 x11_4 l0_0 l0_1 = some (r1, r2)) ∧ Aside0 (kq ≤ k3) ∧ Aside0 (Kd.S (Kd.slice 3 (Kd.int .i64)) 36 w' w.heap.size (fun k_ => some k_ ≠ (v10 : Value).ownBlock) v452 x4_3) ∧ Aside0 (Kd.R (Kd.int .i64) 3 w' w.heap.size (fun _ => True) v10 x10_4) ∧ Aside0 (w'.heap[gb446]? = some (.cells #[(.slice A0_0 l0_0.length c0_0), (.slice A0_1 l0_1.length c0_1)] 25 (0, 0))) ∧ Aside0 (Below w.heap.size w w'))
           case atStart => exact ⟨(y467), (0), rfl, H', ⟨Nat.le_refl _⟩, ⟨by (with_reducible repeat (first | apply Kd.S_alloc | apply Kd.S_drewN | apply Kd.S_drew)); exact Kd.S_mono HO_4.out (fun _ hk => by first | exact hk.2 | exact hk | exact hk.1)⟩, ⟨Kd.rv HO469.out⟩, ⟨bv BK446.out⟩, ⟨by repeat (first | (with_reducible first | exact HB.out | apply below_alloc | apply pw_below_drewN | apply below_drew1 | refine below_set ?_ GE446.out) | exact HB.out)⟩⟩
           case round =>
            clear H'
            clear c40b0 hcz41_0 hcz41_1 hfz41_0 hfz41_1
            obtain ⟨x10_4, x11_4, rfl, HA, HK4, HO_4, HO_10, BK446, HB⟩ := hrel
            cases gk with
            | zero => exact absurd HA.out (by simp [spec_PictureLines.l3])
            | succ k4 =>
             have H := HA.out
             clear HA
             simp only [spec_PictureLines.l3] at H
             by_cases c44 : x11_4 < (x4_3.length : Int)
             ·rw [if_pos c44] at H
              have c44b0 : decide (x11_4 < (x4_3.length : Int)) = true := decide_eq_true c44
              clear c44
              have q_ := ifs H
              clear H
              obtain ⟨c45, H⟩ := q_
              have c45b0 : decide (0 ≤ x11_4) = true := decide_eq_true c45
              clear c45
              have q_ := ifs H
              clear H
              obtain ⟨c46, H⟩ := q_
              have c46b0 : decide (0 ≤ x9_3) = true := decide_eq_true c46
              clear c46
              have q_ := ifs H
              clear H
              obtain ⟨c47, H⟩ := q_
              have c47b0 : decide (x9_3 < ((rd_L1 x4_3 x11_4).length : Int)) = true := decide_eq_true c47
              clear c47
              have q_ := ifs H
              clear H
              obtain ⟨c48, H⟩ := q_
              have LMc48 := am c48
              clear c48
              obtain ⟨y472, hy472⟩ : ∃ y_ : List Int, y_ = (x10_4 ++ [rd (rd_L1 x4_3 x11_4) x9_3]) := ⟨_, rfl⟩
              replace H : (spec_PictureLines.l3 k4 x4_3 x5_3 x9_3 y472 (wrap64 (x11_4 + 1)) l0_0 l0_1) = some (r1, r2) := by first | (rw [hy472]; with_reducible exact H) | (have H2_ := (Option.bind_some _ _).symm.trans H; rw [hy472]; with_reducible exact H2_) | (have H2_ := (Option.bind_some _ _).symm.trans H; with_reducible exact H2_) | with_reducible exact H | (rw [hy472]; exact H) | exact H
              have Ny472 := am hy472
              clear hy472
              have H' := am H
              clear H
              obtain ⟨Ao49, co49, eo49⟩ := Kd.S_slice HO_4.out
              subst eo49
              have p470 : 0 ≤ (x11_4 : Int) := da
              have q470 : x11_4 < (x4_3.length : Int) := da
              obtain ⟨ad470, A470_0, c470_0, e470, hx470_0, hl470_0, hi470_0⟩ := at_L1 (Kd.S_reads' HO_4.out).2.2 x11_4 p470 q470
              cases e470
              obtain ⟨ce470, hce470, hMe470, hcc470⟩ := Kd.S_get HO_4.out [] x11_4 p470 (by first | exact q470 | exact da | (have e_ := (Kd.S_reads' HO_4.out).1; omega))
              obtain ⟨ve470_0, rfl, ge470_0⟩ := hMe470
              have hv470_0 := hcc470 0 _ rfl
              rw [Nat.add_zero, show ((Kd.slice 3 (Kd.int .i64))).sz = 1 from rfl, Nat.mul_one] at hv470_0
              replace hv470_0 := Option.some.inj (hv470_0.symm.trans hx470_0)
              rw [hv470_0] at ge470_0
              have HL470_0 := am (show Kd.R (Kd.int .i64) 3 _ _ _ _ (rd_L1 x4_3 x11_4) from ge470_0)
              clear hv470_0 ge470_0
              have HX470_0 := am hx470_0
              clear hcc470 hce470
              have HR470_0 := am hi470_0
              have HC470_0 := am hl470_0
              clear hi470_0 hl470_0
              replace p470 := eq_true p470
              replace q470 := eq_true q470
              have p471 : 0 ≤ (x9_3 : Int) := da
              have q471 : x9_3 < ((rd_L1 x4_3 x11_4).length : Int) := da
              obtain ⟨ad471, e471, hx471_0⟩ := Kd.at_int (Kd.cv HR470_0.out) x9_3 p471 q471
              cases e471
              replace p471 := eq_true p471
              replace q471 := eq_true q471
              go_wp2_with (first | ((with_reducible refine gate_builtin (b := .append) (xs := #[.tmp 73, .tmp 81]) rfl ?_); at_builtin; refine Kd.R_append (Kd.int .i64) (w0 := w) w.heap.size rfl (.tmp 73) (.tmp 81) 36 3 (.int .i64 0) 8 rfl Try.underlying36 info3 rfl (by decide) (by omega) u10 x10_4 (rd (rd_L1 x4_3 x11_4) x9_3) [.int .i64 (rd (rd_L1 x4_3 x11_4) x9_3)] (fun _ => True) (fun _ => False) rfl rfl ?aP (fun _ hk => hk.elim) ?aF ?aO ?aB ?aS ?aL ?_; (case aP => exact rfl); (case aB => exact (by repeat (first | (with_reducible first | exact HB.out | apply below_alloc | apply pw_below_drewN | apply below_drew1 | refine below_set ?_ GE446.out) | exact HB.out))); (case aF => exact (fun _ _ => trivial)); (case aO => exact (Kd.rv HO_10.out)); (case aS => exact (below_size (by repeat (first | (with_reducible first | exact HB.out | apply below_alloc | apply pw_below_drewN | apply below_drew1 | refine below_set ?_ GE446.out) | exact HB.out)))); (case aL => have := LMc48.out; omega); intro v473 w50 ho hb hg hat; rw [← Ny472.out] at ho; have n0_ := am (Kd.S_after (ok := (fun _ => True)) (by (with_reducible repeat (first | apply Kd.S_alloc | apply Kd.S_drewN | apply Kd.S_drew)); exact Kd.S_mono HO_4.out (fun _ hk => ⟨trivial, hk⟩)) hg hat); have n1_ := am (blk_grown (g := gb446) (o := .cells #[.slice A0_0 l0_0.length c0_0, .slice A0_1 l0_1.length c0_1] 25 (0, 0)) (bv BK446.out) hg (Kd.R_ne HO_10.out BK446.out (by decide))); have n2_ := am (Kd.R_after (ok := (fun k_ => some k_ ≠ (.slice (some ad470) x4_3.length co49 : Value).ownBlock)) (by (with_reducible repeat (first | apply Kd.R_alloc | apply Kd.R_drewN | apply Kd.R_drew)); first | exact Kd.R_mono HL470_0.out (fun _ hk => by first | exact ⟨hk.2, hk.1⟩ | exact ⟨hk.1, hk.2⟩ | exact ⟨hk.2, hk.1.2⟩ | exact ⟨hk.1.2, hk.2⟩ | exact ⟨hk.1.1, hk.2⟩ | exact ⟨hk.1, hk.2.2⟩) | exact Kd.R_mono (Kd.R_apart' HL470_0.out (Kd.S_typed HO_4.out) (by decide)) (fun _ hk => by first | exact ⟨hk.1, hk.2⟩ | exact ⟨hk.2, hk.1⟩ | exact ⟨hk.1.1, hk.2⟩ | exact ⟨hk.1.2, hk.2⟩ | exact ⟨hk.2, hk.1.1⟩ | exact ⟨hk.2, hk.1.2⟩ | exact hk)) hg hat); have n3_ := am (hb); have n4_ := am (ho); clear HO_4 BK446 HL470_0 HB HO_10; revert n0_ n1_ n2_ n3_ n4_; intro HO_4 BK446 HL470_0 HB HO474; clear ho hb hg hat))
              go_roundg k4
              case measure => have := HK1.out; have := HK2.out; have := HK3.out; have := HK4.out; omega
              case rel => exact ⟨(y472), (wrap64 (x11_4 + 1)), rfl, H', ⟨by have := HK1.out; have := HK2.out; have := HK3.out; have := HK4.out; omega⟩, ⟨by (with_reducible repeat (first | apply Kd.S_alloc | apply Kd.S_drewN | apply Kd.S_drew)); exact Kd.S_mono HO_4.out (fun _ hk => by first | exact hk.2 | exact hk | exact hk.1)⟩, ⟨Kd.rv HO474.out⟩, ⟨bv BK446.out⟩, ⟨by repeat (first | (with_reducible first | exact HB.out | apply below_alloc | apply pw_below_drewN | apply below_drew1 | refine below_set ?_ GE446.out) | exact HB.out)⟩⟩
             ·rw [if_neg c44] at H
              have c44b0 : decide (x11_4 < (x4_3.length : Int)) = false := decide_eq_false c44
              clear c44
              have q_ := ifs H
              clear H
              obtain ⟨c51, H⟩ := q_
              have c51b0 : decide (0 ≤ x9_3) = true := decide_eq_true c51
              clear c51
              have q_ := ifs H
              clear H
              obtain ⟨c52, H⟩ := q_
              have c52b0 : decide (x9_3 < (l0_1.length : Int)) = true := decide_eq_true c52
              clear c52
              replace H := Option.bind_eq_some_iff.mp H
              obtain ⟨⟨t476, t477⟩, A530, H⟩ := H
              replace H : (if t477 = true then (if x5_3 = true then (spec_PictureLines.j4 k4 x4_3 true x9_3 t476 l0_0 l0_1) else ((spec_l8Same.f k4 t476 x10_4).bind fun t483 => (spec_PictureLines.j4 k4 x4_3 (!t483) x9_3 t476 l0_0 l0_1))) else (some ((([] : List (List Int))), false))) = some (r1, r2) := H
              have A53 := am A530
              clear A530
              by_cases c54 : t477 = true
              ·subst c54
               rw [if_pos rfl] at H
               have HC55 := am H
               clear H
               obtain ⟨Ao56, co56, eo56⟩ := Kd.S_slice HO_4.out
               subst eo56
               have hcz57_0 : wr.cell? ⟨gb446, 0, none⟩ = some (.slice A0_0 l0_0.length c0_0) := (blk_cell BK446.out 0).trans rfl
               have hcz57_1 : wr.cell? ⟨gb446, 1, none⟩ = some (.slice A0_1 l0_1.length c0_1) := (blk_cell BK446.out 1).trans rfl
               have hfz57_0 := blk_frozen BK446.out 0
               have hfz57_1 := blk_frozen BK446.out 1
               have p475 : 0 ≤ (x9_3 : Int) := da
               have q475 : x9_3 < (l0_1.length : Int) := da
               obtain ⟨ad475, A475_0, c475_0, e475, hx475_0, hl475_0, hi475_0⟩ := at_L1 HR0_1.out x9_3 p475 q475
               cases e475
               replace hx475_0 := (HB.out.cell (World.block_lt_of_cell? w _ hx475_0)).trans hx475_0
               have HR475_0 := am hi475_0
               have HC475_0 := am hl475_0
               clear hi475_0 hl475_0
               replace p475 := eq_true p475
               replace q475 := eq_true q475
               obtain ⟨Ao58, co58, eo58⟩ := Kd.R_slice HO_10.out
               subst eo58
               go_upto_region 26 with (first | ((with_reducible refine gate_callee (f := 50) rfl ?_); refine goesL_ (some 90) rfl rfl Try.func50 (by kernel_rfl) rfl #[.slice A475_0 (rd_L1 l0_1 x9_3).length c475_0, .slice Ao58 x10_4.length co58] rfl (by (try simp only [List.map_toArray, List.map_cons, List.map_nil]); first | done | rfl | (simp only [List.length_drop, List.length_take]; rfl)) ?_; (with_reducible refine (spec_LineForced.calls k4 _ _ (rd_L1 l0_1 x9_3) _ _ x10_4 t476 true _ ?side1 ?side2 ?side3 ?side4 A53.out).mono ?_); (case side1 => repeat (first | exact (Kd.C_below HR475_0.out HB.out) | (with_reducible refine Kd.C_alloc ?_ _) | (with_reducible refine Kd.C_drewN ?_ _) | (with_reducible refine Kd.C_drew ?_))); (case side2 => exact HC475_0.out); (case side3 => exact Kd.cv (Kd.R_reads' HO_10.out).2.2); (case side4 => exact (Kd.R_reads' HO_10.out).2.1); rintro e w59 ⟨v478, rfl, ho0, hb⟩; refine ⟨_, rfl, ?_⟩; have n0_ := am (Kd.S_elder' (by (with_reducible repeat (first | apply Kd.S_alloc | apply Kd.S_drewN | apply Kd.S_drew)); exact HO_4.out) (Kd.R_base ho0) hb); have n1_ := am (Kd.R_elder' (Kd.rv HO_10.out) (Kd.R_base ho0) hb); have n2_ := am (Kd.R_lower (Kd.R_new' ho0 (Kd.R_lt (Kd.rv HO_10.out))) (below_size (by repeat (first | (with_reducible first | exact HB.out | apply below_alloc | apply pw_below_drewN | apply below_drew1 | refine below_set ?_ GE446.out) | exact HB.out)))); have n3_ := am (blk_below (g := gb446) (o := .cells #[.slice A0_0 l0_0.length c0_0, .slice (some ad475) l0_1.length c0_1] 25 (0, 0)) (bv BK446.out) hb); have n4_ := am (below_step (by repeat (first | (with_reducible first | exact HB.out | apply below_alloc | apply pw_below_drewN | apply below_drew1 | refine below_set ?_ GE446.out) | exact HB.out)) hb); clear HO_4 HO_10 BK446 HB; revert n0_ n1_ n2_ n3_ n4_; intro HO_4 HO_10 HO479 BK446 HB; (try clear hb); (try clear hb2); (try clear hk); (try clear hi); (try clear ho0)))
               (try simp only [Act.put, List.setIfInBounds_toArray, List.set_cons_zero, List.set_cons_succ])
               go_cut [5] (fun v5 wc => ∃ (kq : Nat) (x5_54 : Bool), v5 = .bool x5_54 ∧ Aside0 (spec_PictureLines.j4 kq x4_3 x5_54 x9_3 t476 l0_0 l0_1 = some (r1, r2)) ∧ Aside0 (kq ≤ k4) ∧ Aside0 (Kd.S (Kd.slice 3 (Kd.int .i64)) 36 wc w.heap.size (fun k_ => some k_ ≠ (v478 : Value).ownBlock) (.slice Ao56 x4_3.length co56) x4_3) ∧ Aside0 (Kd.R (Kd.int .i64) 3 wc w.heap.size (fun _ => True) v478 t476) ∧ Aside0 (wc.heap[gb446]? = some (.cells #[(.slice A0_0 l0_0.length c0_0), (.slice (some ad475) l0_1.length c0_1)] 25 (0, 0))) ∧ Aside0 (Below w.heap.size w wc))
               case first =>
                have H := HC55.out
                clear HC55
                by_cases c60 : x5_3 = true
                ·subst c60
                 rw [if_pos rfl] at H
                 have H' := am H
                 clear H
                 go_wp2
                 go_meet
                 case rel => exact ⟨_, (true), rfl, H', ⟨by have := HK1.out; have := HK2.out; have := HK3.out; have := HK4.out; first | omega | exact Nat.le_refl _⟩, ⟨by (with_reducible repeat (first | apply Kd.S_alloc | apply Kd.S_drewN | apply Kd.S_drew)); exact Kd.S_mono HO_4.out (fun _ hk => by first | exact hk.2 | exact hk | exact hk.1)⟩, ⟨by (with_reducible repeat (first | apply Kd.R_alloc | apply Kd.R_drewN | apply Kd.R_drew)); exact Kd.R_mono HO479.out (fun _ hk => trivial)⟩, ⟨bv BK446.out⟩, ⟨by repeat (first | (with_reducible first | exact HB.out | apply below_alloc | apply pw_below_drewN | apply below_drew1 | refine below_set ?_ GE446.out) | exact HB.out)⟩⟩
                ·replace c60 := Bool.eq_false_iff.mpr c60
                 subst c60
                 rw [if_neg (show ¬ (false = true) by decide)] at H
                 replace H := Option.bind_eq_some_iff.mp H
                 obtain ⟨t483, A610, H⟩ := H
                 replace H : (spec_PictureLines.j4 k4 x4_3 (!t483) x9_3 t476 l0_0 l0_1) = some (r1, r2) := H
                 have A61 := am A610
                 clear A610
                 have H' := am H
                 clear H
                 obtain ⟨Ao62, co62, eo62⟩ := Kd.R_slice HO479.out
                 subst eo62
                 go_wp2_with (first | (go_at_call 51; (with_reducible refine (spec_l8Same.calls k4 _ _ t476 _ _ x10_4 t483 _ ?side1 ?side2 ?side3 ?side4 A61.out).mono ?_); (case side1 => exact Kd.cv (Kd.R_reads' HO479.out).2.2); (case side2 => exact (Kd.R_reads' HO479.out).2.1); (case side3 => exact Kd.cv (Kd.R_reads' HO_10.out).2.2); (case side4 => exact (Kd.R_reads' HO_10.out).2.1); rintro e w' ⟨rfl, ⟨nd, rfl⟩⟩))
                 go_meet
                 case rel => exact ⟨_, (!t483), rfl, H', ⟨by have := HK1.out; have := HK2.out; have := HK3.out; have := HK4.out; first | omega | exact Nat.le_refl _⟩, ⟨by (with_reducible repeat (first | apply Kd.S_alloc | apply Kd.S_drewN | apply Kd.S_drew)); exact Kd.S_mono HO_4.out (fun _ hk => by first | exact hk.2 | exact hk | exact hk.1)⟩, ⟨by (with_reducible repeat (first | apply Kd.R_alloc | apply Kd.R_drewN | apply Kd.R_drew)); exact Kd.R_mono HO479.out (fun _ hk => trivial)⟩, ⟨bv BK446.out⟩, ⟨by repeat (first | (with_reducible first | exact HB.out | apply below_alloc | apply pw_below_drewN | apply below_drew1 | refine below_set ?_ GE446.out) | exact HB.out)⟩⟩
               case rest =>
                clear HC55
                clear c44b0 c51b0 c52b0 hcz57_0 hcz57_1 hfz57_0 hfz57_1 hx475_0 p475 q475
                obtain ⟨kq, x5_54, rfl, HA, HJ54, HO_4, HO_12, BK446, HB⟩ := hcut
                cases kq with
                | zero => exact absurd HA.out (by simp [spec_PictureLines.j4])
                | succ kj54 =>
                 have H := HA.out
                 clear HA
                 simp only [spec_PictureLines.j4] at H
                 have H' := am H
                 clear H
                 go_wp2
                 go_loopg [14] kj54 (fun kq v14 w' => ∃ (x4_6 : List (List Int)) (x12_6 : List Int) (x14_6 : Int), v14 = .int .i64 x14_6 ∧ Aside0 (spec_PictureLines.l4 kq x4_6 x5_54 x9_3 x12_6 x14_6 l0_0 l0_1 = some (r1, r2)) ∧ Aside0 (kq ≤ kj54) ∧ Aside0 (Kd.S (Kd.slice 3 (Kd.int .i64)) 36 w' w.heap.size (fun k_ => some k_ ≠ (v478 : Value).ownBlock) (.slice Ao56 x4_3.length co56) x4_6) ∧ Aside0 (Kd.R (Kd.int .i64) 3 w' w.heap.size (fun _ => True) v478 x12_6) ∧ Aside0 (w'.heap[gb446]? = some (.cells #[(.slice A0_0 l0_0.length c0_0), (.slice (some ad475) l0_1.length c0_1)] 25 (0, 0))) ∧ Aside0 (Below w.heap.size w w'))
                 case atStart => exact ⟨(x4_3), (t476), (0), rfl, H', ⟨Nat.le_refl _⟩, ⟨by (with_reducible repeat (first | apply Kd.S_alloc | apply Kd.S_drewN | apply Kd.S_drew)); exact HO_4.out⟩, ⟨Kd.rv HO_12.out⟩, ⟨bv BK446.out⟩, ⟨by repeat (first | (with_reducible first | exact HB.out | apply below_alloc | apply pw_below_drewN | apply below_drew1 | refine below_set ?_ GE446.out) | exact HB.out)⟩⟩
                 case round =>
                  clear H'
                  obtain ⟨x4_6, x12_6, x14_6, rfl, HA, HK6, HO_4, HO_12, BK446, HB⟩ := hrel
                  have hl4_6 := (Kd.S_reads' HO_4.out).1
                  rw [hl4_6] at HO_4
                  (try simp only [hl4_6])
                  (try simp only [hl4_6] at BK446)
                  (try simp only [hl4_6] at HO_12)
                  cases gk with
                  | zero => exact absurd HA.out (by simp [spec_PictureLines.l4])
                  | succ k6 =>
                   have H := HA.out
                   clear HA
                   simp only [spec_PictureLines.l4] at H
                   by_cases c63 : x14_6 < (x4_6.length : Int)
                   ·rw [if_pos c63] at H
                    have c63b0 : decide (x14_6 < (x4_6.length : Int)) = true := decide_eq_true c63
                    clear c63
                    have q_ := ifs H
                    clear H
                    obtain ⟨c64, H⟩ := q_
                    have c64b0 : decide (0 ≤ x14_6) = true := decide_eq_true c64
                    clear c64
                    have q_ := ifs H
                    clear H
                    obtain ⟨c65, H⟩ := q_
                    have c65b0 : decide (x14_6 < (x12_6.length : Int)) = true := decide_eq_true c65
                    clear c65
                    have q_ := ifs H
                    clear H
                    obtain ⟨c66, H⟩ := q_
                    have c66b0 : decide (0 ≤ x9_3) = true := decide_eq_true c66
                    clear c66
                    have q_ := ifs H
                    clear H
                    obtain ⟨c67, H⟩ := q_
                    have c67b0 : decide (x9_3 < ((rd_L1 x4_6 x14_6).length : Int)) = true := decide_eq_true c67
                    clear c67
                    obtain ⟨y486, hy486⟩ : ∃ y_ : List Int, y_ = ((rd_L1 x4_6 x14_6).set (x9_3 : Int).toNat (rd x12_6 x14_6)) := ⟨_, rfl⟩
                    replace H : (spec_PictureLines.l4 k6 (x4_6.set (x14_6 : Int).toNat y486) x5_54 x9_3 x12_6 (wrap64 (x14_6 + 1)) l0_0 l0_1) = some (r1, r2) := by first | (rw [hy486]; with_reducible exact H) | (have H2_ := (Option.bind_some _ _).symm.trans H; rw [hy486]; with_reducible exact H2_) | (have H2_ := (Option.bind_some _ _).symm.trans H; with_reducible exact H2_) | with_reducible exact H | (rw [hy486]; exact H) | exact H
                    have Ny486 := am hy486
                    clear hy486
                    obtain ⟨y488, hy488⟩ : ∃ y_ : List (List Int), y_ = (x4_6.set (x14_6 : Int).toNat y486) := ⟨_, rfl⟩
                    replace H : (spec_PictureLines.l4 k6 y488 x5_54 x9_3 x12_6 (wrap64 (x14_6 + 1)) l0_0 l0_1) = some (r1, r2) := by first | (rw [hy488]; with_reducible exact H) | (have H2_ := (Option.bind_some _ _).symm.trans H; rw [hy488]; with_reducible exact H2_) | (have H2_ := (Option.bind_some _ _).symm.trans H; with_reducible exact H2_) | with_reducible exact H | (rw [hy488]; exact H) | exact H
                    have Ny488 := am hy488
                    clear hy488
                    have H' := am H
                    clear H
                    try go_wp2
                    have n0_ := am (Kd.S_drew HO_4.out)
                    have n1_ := am (Kd.R_drew HO_12.out)
                    have n2_ := am (blk_drew BK446.out)
                    have n3_ := am (below_drew1 HB.out)
                    clear HO_4 HO_12 BK446 HB
                    revert n0_ n1_ n2_ n3_
                    intro HO_4 HO_12 BK446 HB
                    have p484 : 0 ≤ (x14_6 : Int) := da
                    have q484 : x14_6 < (x4_6.length : Int) := da
                    obtain ⟨ad484, A484_0, c484_0, e484, hx484_0, hl484_0, hi484_0⟩ := at_L1 (Kd.S_reads' HO_4.out).2.2 x14_6 p484 q484
                    cases e484
                    obtain ⟨ce484, hce484, hMe484, hcc484⟩ := Kd.S_get HO_4.out [] x14_6 p484 (by first | exact q484 | exact da | (have e_ := (Kd.S_reads' HO_4.out).1; omega))
                    obtain ⟨ve484_0, rfl, ge484_0⟩ := hMe484
                    have hv484_0 := hcc484 0 _ rfl
                    rw [Nat.add_zero, show ((Kd.slice 3 (Kd.int .i64))).sz = 1 from rfl, Nat.mul_one] at hv484_0
                    replace hv484_0 := Option.some.inj (hv484_0.symm.trans hx484_0)
                    rw [hv484_0] at ge484_0
                    have HL484_0 := am (show Kd.R (Kd.int .i64) 3 _ _ _ _ (rd_L1 x4_6 x14_6) from ge484_0)
                    clear hv484_0 ge484_0
                    have HX484_0 := am hx484_0
                    clear hcc484 hce484
                    have HR484_0 := am hi484_0
                    have HC484_0 := am hl484_0
                    clear hi484_0 hl484_0
                    replace p484 := eq_true p484
                    replace q484 := eq_true q484
                    obtain ⟨Ao70, co70, eo70⟩ := Kd.R_slice HO_12.out
                    (first | subst eo70 | (injection eo70 with f1_ f2_ f3_; have f4_ := f1_.symm; have f5_ := f3_.symm; clear f1_ f2_ f3_; subst f4_; subst f5_))
                    have p485 : 0 ≤ (x14_6 : Int) := da
                    have q485 : x14_6 < (x12_6.length : Int) := da
                    obtain ⟨ad485, e485, hx485_0⟩ := Kd.at_int (Kd.R_reads' HO_12.out).2.2 x14_6 p485 q485
                    cases e485
                    replace p485 := eq_true p485
                    replace q485 := eq_true q485
                    have p68 : 0 ≤ (x9_3 : Int) := da
                    have q68 : (x9_3 : Int) < (((rd_L1 x4_6 x14_6).length : Int) : Int) := da
                    obtain ⟨go68, co68, eo68, gb68, gl68, cl68, HG68⟩ := Kd.R_form HL484_0.out (by omega)
                    (first | cases eo68 | (injection eo68 with ea_ en_ ec_; (first | subst ea_ | (injection ea_ with ea_; subst ea_)); subst ec_; clear en_))
                    have GB68 := am gb68
                    have GG68 := am HG68
                    clear gb68 gl68 HG68
                    obtain ⟨hx68_0, hf68_0⟩ := Kd.R_celln 0 HL484_0.out (x9_3 : Int) p68 q68
                    replace p68 := eq_true p68
                    replace q68 := eq_true q68
                    have hq71 : (x14_6 : Int) < (x4_6.length : Int) := (by have h_ : (x14_6 : Int) < ((x4_6.length : Int) : Int) := da; first | exact h_ | (have e_ := (Kd.S_reads' HO_4.out).1; omega) | simpa only [List.length_set, List.length_set] using h_)
                    obtain ⟨oki71, ce71, hcl71, hM71, hcc71, hok71, hbk71⟩ := Kd.S_borrow HO_4.out [] (x14_6 : Int) (da) hq71
                    obtain ⟨ve71_0, rfl, ge71_0⟩ := hM71
                    have hv71 := hcc71 0 _ rfl
                    rw [Nat.add_zero, show ((Kd.slice 3 (Kd.int .i64))).sz = 1 from rfl, Nat.mul_one] at hv71
                    replace hv71 := Option.some.inj (hv71.symm.trans HX484_0.out)
                    subst hv71
                    clear hcc71 hcl71
                    replace ge71_0 := (show Kd.R (Kd.int .i64) 3 _ _ _ _ (rd_L1 x4_6 x14_6) from ge71_0)
                    have HP71 := Kd.R_putg ge71_0 (x9_3 : Int) (rd x12_6 x14_6)
                    rw [← Ny486.out] at HP71
                    have HS71 := hbk71 HP71.2 (fun k_ e_ => by injection e_ with e_; subst e_; exact ge71_0.1 _ rfl) (x' := y486) (Kd.M_row HP71.1)
                    rw [← Ny488.out] at HS71
                    have HQ71 := am HS71
                    clear HP71 HS71 hbk71 hok71
                    refine start_ (n := 11) (S := fun w' => w'.cell? (ad484.add (x14_6).toNat) = some (.slice (some ⟨go68, 0, none⟩) (rd_L1 x4_6 x14_6).length c484_0) ∧ w'.cell? (ad485.add (x14_6).toNat) = some (.int .i64 (rd x12_6 x14_6))) (ds := [10]) #[false, false, false, false, false, false, false, false, false, false, false] (by kernel_rfl) rfl rfl ⟨hx484_0, hx485_0⟩ (fun hHeld => ?_); refine with_tabW spec_PictureLines.tab30 spec_PictureLines.bits30 (fun HT_ HW_ => ?_)
                    generalize wr.drew = w69 at HO_4 HO_12 BK446 HB GG68 HL484_0 HQ71 HR484_0 HX484_0 hf68_0 hx484_0 hx485_0 hx68_0 hHeld ⊢
                    refine pure_ (i := 0) (N := some 109) (v := ?_) (a' := ?_) #[true, false, false, false, false, false, false, false, false, false, false] rfl rfl (any_of HT_.out (by kernel_rfl)) (fun _ _ _ h => h) (Or.inl ⟨by rfl, ?_⟩) ?_ ?_
                    rotate_left
                    ·intro w'
                     go_simp
                     with_reducible rfl
                    rotate_left
                    ·simp only [Act.put, List.setIfInBounds_toArray, List.set_cons_zero, List.set_cons_succ, i64_w, i32_w]
                     rfl
                    refine pure_ (i := 1) (N := some 110) (v := ?_) (a' := ?_) #[true, true, false, false, false, false, false, false, false, false, false] rfl rfl (any_of HT_.out (by kernel_rfl)) (fun _ _ _ h => h) (Or.inl ⟨by rfl, ?_⟩) ?_ ?_
                    rotate_left
                    ·intro w'
                     go_simp
                     with_reducible rfl
                    rotate_left
                    ·simp only [Act.put, List.setIfInBounds_toArray, List.set_cons_zero, List.set_cons_succ, i64_w, i32_w]
                     rfl
                    refine pure_ (i := 2) (N := some 111) (v := ?_) (a' := ?_) #[true, true, true, false, false, false, false, false, false, false, false] rfl rfl (any_of HT_.out (by kernel_rfl)) (fun _ _ _ h => h) (Or.inl ⟨by rfl, ?_⟩) ?_ ?_
                    rotate_left
                    ·intro w'
                     go_simp
                     with_reducible rfl
                    rotate_left
                    ·simp only [Act.put, List.setIfInBounds_toArray, List.set_cons_zero, List.set_cons_succ, i64_w, i32_w]
                     rfl
                    refine pure_ (i := 4) (N := some 113) (v := ?_) (a' := ?_) #[true, true, true, false, true, false, false, false, false, false, false] rfl rfl (any_of HT_.out (by kernel_rfl)) (fun _ _ _ h => h) (Or.inl ⟨by rfl, ?_⟩) ?_ ?_
                    rotate_left
                    ·intro w'
                     go_simp
                     with_reducible rfl
                    rotate_left
                    ·simp only [Act.put, List.setIfInBounds_toArray, List.set_cons_zero, List.set_cons_succ, i64_w, i32_w]
                     rfl
                    refine pure_ (i := 5) (N := some 114) (v := ?_) (a' := ?_) #[true, true, true, false, true, true, false, false, false, false, false] rfl rfl (any_of HT_.out (by kernel_rfl)) (fun _ _ _ h => h) (Or.inl ⟨by rfl, ?_⟩) ?_ ?_
                    rotate_left
                    ·intro w'
                     go_simp
                     with_reducible rfl
                    rotate_left
                    ·simp only [Act.put, List.setIfInBounds_toArray, List.set_cons_zero, List.set_cons_succ, i64_w, i32_w]
                     rfl
                    refine pure_ (i := 6) (N := some 115) (v := ?_) (a' := ?_) #[true, true, true, false, true, true, true, false, false, false, false] rfl rfl (any_of HT_.out (by kernel_rfl)) (fun _ _ _ h => h) (Or.inl ⟨by rfl, ?_⟩) ?_ ?_
                    rotate_left
                    ·intro w'
                     go_simp
                     with_reducible rfl
                    rotate_left
                    ·simp only [Act.put, List.setIfInBounds_toArray, List.set_cons_zero, List.set_cons_succ, i64_w, i32_w]
                     rfl
                    refine pure_ (i := 7) (N := some 116) (v := ?_) (a' := ?_) #[true, true, true, false, true, true, true, true, false, false, false] rfl rfl (any_of HT_.out (by kernel_rfl)) (fun _ _ _ h => h) (Or.inl ⟨by rfl, ?_⟩) ?_ ?_
                    rotate_left
                    ·intro w'
                     go_simp
                     with_reducible rfl
                    rotate_left
                    ·simp only [Act.put, List.setIfInBounds_toArray, List.set_cons_zero, List.set_cons_succ, i64_w, i32_w]
                     rfl
                    refine take_ (i := 3) (N := some 112) (v := ?_) (a' := ?_) #[true, true, true, true, true, true, true, true, false, false, false] rfl rfl (take_ofW HT_.out HW_.out (by kernel_rfl)) (fun _ _ _ h => h) (Or.inl ⟨by rfl, ?_⟩) hHeld ?_ ?_
                    rotate_left
                    ·rintro w' ⟨s0, s1⟩
                     go_simp
                     with_reducible rfl
                    rotate_left
                    ·simp only [Act.put, List.setIfInBounds_toArray, List.set_cons_zero, List.set_cons_succ, i64_w, i32_w]
                     rfl
                    refine take_ (i := 8) (N := some 117) (v := ?_) (a' := ?_) #[true, true, true, true, true, true, true, true, true, false, false] rfl rfl (take_ofW HT_.out HW_.out (by kernel_rfl)) (fun _ _ _ h => h) (Or.inl ⟨by rfl, ?_⟩) hHeld ?_ ?_
                    rotate_left
                    ·rintro w' ⟨s0, s1⟩
                     go_simp
                     with_reducible rfl
                    rotate_left
                    ·simp only [Act.put, List.setIfInBounds_toArray, List.set_cons_zero, List.set_cons_succ, i64_w, i32_w]
                     rfl
                    refine pure_ (i := 9) (N := some 118) (v := ?_) (a' := ?_) #[true, true, true, true, true, true, true, true, true, true, false] rfl rfl (any_of HT_.out (by kernel_rfl)) (fun _ _ _ h => h) (Or.inl ⟨by rfl, ?_⟩) ?_ ?_
                    rotate_left
                    ·intro w'
                     go_simp
                     with_reducible rfl
                    rotate_left
                    ·simp only [Act.put, List.setIfInBounds_toArray, List.set_cons_zero, List.set_cons_succ, i64_w, i32_w]
                     rfl
                    refine last_ (i := 10) (N := none) #[true, true, true, true, true, true, true, true, true, true, true] rfl rfl (one_of HT_.out (by kernel_rfl)) (by decide) (fun K hK => ?_)
                    refine skip_ (w1 := ?_) (by rfl) rfl ?_ ?_
                    rotate_left
                    ·go_simp
                     rfl
                    refine hK.out _ _ ?_
                    clear hK K
                    refine done_ (done_of HT_.out (by kernel_rfl)) ?_
                    try go_wp2
                    (try simp only [← hl4_6])
                    go_roundg k6
                    case measure => have := HK1.out; have := HK2.out; have := HK3.out; have := HK4.out; have := HJ54.out; have := HK6.out; omega
                    case rel => exact ⟨(y488), (x12_6), (wrap64 (x14_6 + 1)), rfl, H', ⟨by have := HK1.out; have := HK2.out; have := HK3.out; have := HK4.out; have := HJ54.out; have := HK6.out; omega⟩, ⟨by (try simp only [hl4_6]); (with_reducible repeat (first | apply Kd.S_alloc | apply Kd.S_drewN | apply Kd.S_drew)); exact HQ71.out⟩, ⟨by (try simp only [hl4_6]); (with_reducible repeat (first | apply Kd.R_alloc | apply Kd.R_drewN | apply Kd.R_drew)); exact Kd.R_mono (Kd.R_far (p := ⟨go68, (x9_3 : Int).toNat, none⟩) (Kd.R_far1 HO_12.out rfl ((HL484_0.out.1 _ rfl).1)) (fun _ hk => by first | exact hk.2 | exact hk | exact hk.1) (.int .i64 (rd x12_6 x14_6))) (fun _ hk => trivial)⟩, ⟨by (try simp only [hl4_6]); (with_reducible repeat (first | refine blk_drewN ?_ _ | refine blk_drew ?_ | refine blk_alloc ?_ _)); refine blk_far ?_ (by have h_ := Kd.R_ne HL484_0.out BK446.out (by decide); intro e_; exact h_ (by rw [e_]; rfl)) _; (with_reducible repeat (first | refine blk_drewN ?_ _ | refine blk_drew ?_ | refine blk_alloc ?_ _)); exact BK446.out⟩, ⟨by repeat (first | (with_reducible first | exact HB.out | apply below_alloc | apply pw_below_drewN | apply below_drew1 | refine below_set ?_ GB68.out | refine below_set ?_ GE446.out) | exact HB.out)⟩⟩
                   ·rw [if_neg c63] at H
                    have c63b0 : decide (x14_6 < (x4_6.length : Int)) = false := decide_eq_false c63
                    clear c63
                    have H' := am H
                    clear H
                    go_wp2
                    (try simp only [← hl4_6])
                    go_roundg k6
                    case measure => have := HK1.out; have := HK2.out; have := HK3.out; have := HK4.out; have := HJ54.out; have := HK6.out; omega
                    case rel => exact ⟨(x4_6), (x5_54), (wrap64 (x9_3 + 1)), rfl, rfl, H', ⟨by have := HK1.out; have := HK2.out; have := HK3.out; have := HK4.out; have := HJ54.out; have := HK6.out; omega⟩, ⟨by (try simp only [hl4_6]); (with_reducible repeat (first | apply Kd.S_alloc | apply Kd.S_drewN | apply Kd.S_drew)); exact Kd.S_mono HO_4.out (fun _ hk => trivial)⟩, ⟨by (try simp only [hl4_6]); (with_reducible repeat (first | refine blk_drewN ?_ _ | refine blk_drew ?_ | refine blk_alloc ?_ _)); exact BK446.out⟩, ⟨by repeat (first | (with_reducible first | exact HB.out | apply below_alloc | apply pw_below_drewN | apply below_drew1 | refine below_set ?_ GE446.out) | exact HB.out)⟩⟩
              ·replace c54 := Bool.eq_false_iff.mpr c54
               subst c54
               rw [if_neg (show ¬ (false = true) by decide)] at H
               obtain ⟨y480, hy480⟩ : ∃ y_ : List (List Int), y_ = (([] : List (List Int))) := ⟨_, rfl⟩
               replace H : (some (y480, false)) = some (r1, r2) := by first | (rw [hy480]; with_reducible exact H) | (have H2_ := (Option.bind_some _ _).symm.trans H; rw [hy480]; with_reducible exact H2_) | (have H2_ := (Option.bind_some _ _).symm.trans H; with_reducible exact H2_) | with_reducible exact H | (rw [hy480]; exact H) | exact H
               have Ny480 := am hy480
               clear hy480
               simp only [Option.some.injEq, Prod.mk.injEq] at H
               obtain ⟨rfl, rfl⟩ := H
               obtain ⟨Ao73, co73, eo73⟩ := Kd.S_slice HO_4.out
               subst eo73
               have hcz74_0 : wr.cell? ⟨gb446, 0, none⟩ = some (.slice A0_0 l0_0.length c0_0) := (blk_cell BK446.out 0).trans rfl
               have hcz74_1 : wr.cell? ⟨gb446, 1, none⟩ = some (.slice A0_1 l0_1.length c0_1) := (blk_cell BK446.out 1).trans rfl
               have hfz74_0 := blk_frozen BK446.out 0
               have hfz74_1 := blk_frozen BK446.out 1
               have p475 : 0 ≤ (x9_3 : Int) := da
               have q475 : x9_3 < (l0_1.length : Int) := da
               obtain ⟨ad475, A475_0, c475_0, e475, hx475_0, hl475_0, hi475_0⟩ := at_L1 HR0_1.out x9_3 p475 q475
               cases e475
               replace hx475_0 := (HB.out.cell (World.block_lt_of_cell? w _ hx475_0)).trans hx475_0
               have HR475_0 := am hi475_0
               have HC475_0 := am hl475_0
               clear hi475_0 hl475_0
               replace p475 := eq_true p475
               replace q475 := eq_true q475
               obtain ⟨Ao75, co75, eo75⟩ := Kd.R_slice HO_10.out
               subst eo75
               go_wp2_with (first | ((with_reducible refine gate_callee (f := 50) rfl ?_); refine goesL_ (some 90) rfl rfl Try.func50 (by kernel_rfl) rfl #[.slice A475_0 (rd_L1 l0_1 x9_3).length c475_0, .slice Ao75 x10_4.length co75] rfl (by (try simp only [List.map_toArray, List.map_cons, List.map_nil]); first | done | rfl | (simp only [List.length_drop, List.length_take]; rfl)) ?_; (with_reducible refine (spec_LineForced.calls k4 _ _ (rd_L1 l0_1 x9_3) _ _ x10_4 t476 false _ ?side1 ?side2 ?side3 ?side4 A53.out).mono ?_); (case side1 => repeat (first | exact (Kd.C_below HR475_0.out HB.out) | (with_reducible refine Kd.C_alloc ?_ _) | (with_reducible refine Kd.C_drewN ?_ _) | (with_reducible refine Kd.C_drew ?_))); (case side2 => exact HC475_0.out); (case side3 => exact Kd.cv (Kd.R_reads' HO_10.out).2.2); (case side4 => exact (Kd.R_reads' HO_10.out).2.1); rintro e w76 ⟨v478, rfl, ho0, hb⟩; refine ⟨_, rfl, ?_⟩; have n0_ := am (Kd.S_elder' (by (with_reducible repeat (first | apply Kd.S_alloc | apply Kd.S_drewN | apply Kd.S_drew)); exact HO_4.out) (Kd.R_base ho0) hb); have n1_ := am (Kd.R_elder' (Kd.rv HO_10.out) (Kd.R_base ho0) hb); have n2_ := am (Kd.R_lower (Kd.R_new' ho0 (Kd.R_lt (Kd.rv HO_10.out))) (below_size (by repeat (first | (with_reducible first | exact HB.out | apply below_alloc | apply pw_below_drewN | apply below_drew1 | refine below_set ?_ GE446.out) | exact HB.out)))); have n3_ := am (blk_below (g := gb446) (o := .cells #[.slice A0_0 l0_0.length c0_0, .slice (some ad475) l0_1.length c0_1] 25 (0, 0)) (bv BK446.out) hb); have n4_ := am (below_step (by repeat (first | (with_reducible first | exact HB.out | apply below_alloc | apply pw_below_drewN | apply below_drew1 | refine below_set ?_ GE446.out) | exact HB.out)) hb); clear HO_4 HO_10 BK446 HB; revert n0_ n1_ n2_ n3_ n4_; intro HO_4 HO_10 HO479 BK446 HB; (try clear hb); (try clear hb2); (try clear hk); (try clear hi); (try clear ho0)) | ((with_reducible refine gate_dst (N := 95) rfl ?_); refine Kd.S_lit (Kd.slice 3 (Kd.int .i64)) _ 36 ?hg (N := 95) ?hd (xs := ([] : List (List Int))) (inner := []) (ok := fun _ => True) (okp := fun _ => True) ?hr ?hp (fun _ hk => hk) trivial (Below.refl _ _) (Nat.le_refl _) (by simp) ?_; (case hd => rfl); (case hg => rfl); (case hr => first | (go_simp; done) | (go_simp; rfl)); (case hp => exact (Reps.none _ _)); intro v481 w77 ho78 hb hg_ hnew_; clear hg_ hnew_; (first | rw [← Ny480.out] at ho78 | (simp only [Int.reduceToNat] at ho78; rw [← Ny480.out] at ho78)); have n0_ := am (Kd.S_elder' (by (with_reducible repeat (first | apply Kd.S_alloc | apply Kd.S_drewN | apply Kd.S_drew)); exact HO_4.out) (Kd.S_base ho78) hb); have n1_ := am (Kd.R_below (Kd.rv HO_10.out) hb); have n2_ := am (Kd.R_below (Kd.rv HO479.out) hb); have n3_ := am (Kd.S_lower (Kd.S_new' (Kd.S_new' (Kd.S_new' ho78 (Kd.S_lt (by (with_reducible repeat (first | apply Kd.S_alloc | apply Kd.S_drewN | apply Kd.S_drew)); exact HO_4.out))) (Kd.R_lt (Kd.rv HO_10.out))) (Kd.R_lt (Kd.rv HO479.out))) (below_size (by repeat (first | (with_reducible first | exact HB.out | apply below_alloc | apply pw_below_drewN | apply below_drew1 | refine below_set ?_ GE446.out) | exact HB.out)))); have n4_ := am (blk_below (g := gb446) (o := .cells #[.slice A0_0 l0_0.length c0_0, .slice (some ad475) l0_1.length c0_1] 25 (0, 0)) (bv BK446.out) hb); have n5_ := am (below_step (by repeat (first | (with_reducible first | exact HB.out | apply below_alloc | apply pw_below_drewN | apply below_drew1 | refine below_set ?_ GE446.out) | exact HB.out)) hb); clear HO_4 HO_10 HO479 BK446 HB; revert n0_ n1_ n2_ n3_ n4_ n5_; intro HO_4 HO_10 HO479 HO482 BK446 HB; clear hb ho78))
               go_ret2
               exact ⟨_, rfl, by (with_reducible repeat (first | apply Kd.S_alloc | apply Kd.S_drewN | apply Kd.S_drew)); exact Kd.S_mono HO482.out (fun _ hk => trivial), by repeat (first | (with_reducible first | exact HB.out | apply below_alloc | apply pw_below_drewN | apply below_drew1 | refine below_set ?_ GE446.out) | exact HB.out)⟩
          ·rw [if_neg c40] at H
           have c40b0 : decide (x9_3 < (l0_1.length : Int)) = false := decide_eq_false c40
           clear c40
           have H' := am H
           clear H
           have hcz79_0 : wr.cell? ⟨gb446, 0, none⟩ = some (.slice A0_0 l0_0.length c0_0) := (blk_cell BK446.out 0).trans rfl
           have hcz79_1 : wr.cell? ⟨gb446, 1, none⟩ = some (.slice A0_1 l0_1.length c0_1) := (blk_cell BK446.out 1).trans rfl
           have hfz79_0 := blk_frozen BK446.out 0
           have hfz79_1 := blk_frozen BK446.out 1
           go_wp2
           go_roundg k3
           case measure => have := HK1.out; have := HK2.out; have := HK3.out; omega
           case rel => exact ⟨(x4_3), (x5_3), rfl, H', ⟨by have := HK1.out; have := HK2.out; have := HK3.out; omega⟩, ⟨by (with_reducible repeat (first | apply Kd.S_alloc | apply Kd.S_drewN | apply Kd.S_drew)); exact HO_4.out⟩, ⟨bv BK446.out⟩, ⟨by repeat (first | (with_reducible first | exact HB.out | apply below_alloc | apply pw_below_drewN | apply below_drew1 | refine below_set ?_ GE446.out) | exact HB.out)⟩⟩
    ·replace c10 := Bool.eq_false_iff.mpr c10
     subst c10
     rw [if_neg (show ¬ (false = true) by decide)] at H
     simp only [Option.some.injEq, Prod.mk.injEq] at H
     obtain ⟨rfl, rfl⟩ := H
     go_wp2
     go_ret2
     exact ⟨_, rfl, by (with_reducible repeat (first | apply Kd.S_alloc | apply Kd.S_drewN | apply Kd.S_drew)); exact HO_4.out, by repeat (first | (with_reducible first | exact HB.out | apply below_alloc | apply pw_below_drewN | apply below_drew1 | refine below_set ?_ GE446.out) | exact HB.out)⟩
 ·replace c3 := Bool.eq_false_iff.mpr c3
  subst c3
  rw [if_neg (show ¬ (false = true) by decide)] at H
  obtain ⟨y448, hy448⟩ : ∃ y_ : List (List Int), y_ = (([] : List (List Int))) := ⟨_, rfl⟩
  replace H : (some (y448, false)) = some (r1, r2) := by first | (rw [hy448]; with_reducible exact H) | (have H2_ := (Option.bind_some _ _).symm.trans H; rw [hy448]; with_reducible exact H2_) | (have H2_ := (Option.bind_some _ _).symm.trans H; with_reducible exact H2_) | with_reducible exact H | (rw [hy448]; exact H) | exact H
  have Ny448 := am hy448
  clear hy448
  simp only [Option.some.injEq, Prod.mk.injEq] at H
  obtain ⟨rfl, rfl⟩ := H
  go_enter Try.func16, Try.ntmps16
  go_wp2_with (first | ((with_reducible refine gate_dst (N := 1) rfl ?_); refine box_event ?hg (N := 1) ?hd (cs := #[.slice A0_0 l0_0.length c0_0, .slice A0_1 l0_1.length c0_1]) (t := 25) ?hr ?_; (case hd => rfl); (case hg => rfl); (case hr => first | (go_simp; done) | (go_simp; rfl)); intro gb446 hg w80 hbox hb; have n0_ := am (below_step (bm HB) hb); have n1_ := am (hbox); have n2_ := am ((by rw [hg]; exact (below_size (bm HB)) : w.heap.size ≤ gb446)); have n3_ := am ((by rw [hg]; exact (below_size (bm HB)) : w.heap.size ≤ gb446)); clear HB; revert n0_ n1_ n2_ n3_; intro HB BK446 GW446 GE446; clear hb hbox hg; have hcz81_0 : w80.cell? ⟨gb446, 0, none⟩ = some (.slice A0_0 l0_0.length c0_0) := (blk_cell BK446.out 0).trans rfl; have hcz81_1 : w80.cell? ⟨gb446, 1, none⟩ = some (.slice A0_1 l0_1.length c0_1) := (blk_cell BK446.out 1).trans rfl; have hfz81_0 := blk_frozen BK446.out 0; have hfz81_1 := blk_frozen BK446.out 1) | ((with_reducible refine gate_callee (f := 17) rfl ?_); refine goesL_ (some 16) rfl rfl Try.func17 (by kernel_rfl) rfl #[.agg #[.slice A0_0 l0_0.length c0_0, .slice A0_1 l0_1.length c0_1]] rfl (by (try simp only [List.map_toArray, List.map_cons, List.map_nil]); first | done | rfl | (simp only [List.length_drop, List.length_take]; rfl)) ?_; (with_reducible refine (spec_PictureValid.calls k _ _ l0_0 _ _ l0_1 false _ ?side1 ?side2 ?side3 ?side4 A2.out).mono ?_); (case side1 => repeat (first | exact (Kd.C_below HR0_0.out HB.out) | (with_reducible refine Kd.C_alloc ?_ _) | (with_reducible refine Kd.C_drewN ?_ _) | (with_reducible refine Kd.C_drew ?_))); (case side2 => exact HC0_0.out); (case side3 => repeat (first | exact (Kd.C_below HR0_1.out HB.out) | (with_reducible refine Kd.C_alloc ?_ _) | (with_reducible refine Kd.C_drewN ?_ _) | (with_reducible refine Kd.C_drew ?_))); (case side4 => exact HC0_1.out); rintro e w82 ⟨rfl, hb⟩; refine ⟨_, rfl, ?_⟩; have n0_ := am (blk_below (g := gb446) (o := .cells #[.slice A0_0 l0_0.length c0_0, .slice A0_1 l0_1.length c0_1] 25 (0, 0)) (bv BK446.out) hb); have n1_ := am (below_step (by repeat (first | (with_reducible first | exact HB.out | apply below_alloc | apply pw_below_drewN | apply below_drew1 | refine below_set ?_ GE446.out) | exact HB.out)) hb); clear BK446 HB; revert n0_ n1_; intro BK446 HB; (try clear hb); (try clear hb2); (try clear hk); (try clear hi)) | ((with_reducible refine gate_dst (N := 18) rfl ?_); refine Kd.S_lit (Kd.slice 3 (Kd.int .i64)) _ 36 ?hg (N := 18) ?hd (xs := ([] : List (List Int))) (inner := []) (ok := fun _ => True) (okp := fun _ => True) ?hr ?hp (fun _ hk => hk) trivial (Below.refl _ _) (Nat.le_refl _) (by simp) ?_; (case hd => rfl); (case hg => rfl); (case hr => first | (go_simp; done) | (go_simp; rfl)); (case hp => exact (Reps.none _ _)); intro v449 w83 ho84 hb hg_ hnew_; clear hg_ hnew_; (first | rw [← Ny448.out] at ho84 | (simp only [Int.reduceToNat] at ho84; rw [← Ny448.out] at ho84)); have n0_ := am (Kd.S_lower ho84 (below_size (by repeat (first | (with_reducible first | exact HB.out | apply below_alloc | apply pw_below_drewN | apply below_drew1 | refine below_set ?_ GE446.out) | exact HB.out)))); have n1_ := am (blk_below (g := gb446) (o := .cells #[.slice A0_0 l0_0.length c0_0, .slice A0_1 l0_1.length c0_1] 25 (0, 0)) (bv BK446.out) hb); have n2_ := am (below_step (by repeat (first | (with_reducible first | exact HB.out | apply below_alloc | apply pw_below_drewN | apply below_drew1 | refine below_set ?_ GE446.out) | exact HB.out)) hb); clear BK446 HB; revert n0_ n1_ n2_; intro HO450 BK446 HB; clear hb ho84))
  go_ret2
  exact ⟨_, rfl, by (with_reducible repeat (first | apply Kd.S_alloc | apply Kd.S_drewN | apply Kd.S_drew)); exact HO450.out, by repeat (first | (with_reducible first | exact HB.out | apply below_alloc | apply pw_below_drewN | apply below_drew1 | refine below_set ?_ GE446.out) | exact HB.out)⟩
end Go.Proofs.Ytapnohcfnclleaa.PFnPictureLines
