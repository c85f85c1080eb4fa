-- Made by a program of this session (the kit print, shortened, twice): the kit print itself does not give this text
import Derived.Test.YtapnohcfnclleaaV4
import Derived.Test.YtapnohcfnclleaaPFnPictureLinesx0
import Derived.Test.YtapnohcfnclleaaPFnPictureLinesx5
import Derived.Test.YtapnohcfnclleaaPFnPictureLinesx6
import Derived.Test.YtapnohcfnclleaaPFnPictureLinesx7
namespace Go.Proofs.Ytapnohcfnclleaa.PFnPictureLines
open Go.RowKit Go.Proofs.YtapnohcfnclleaaW.PrintWords Go.Proofs.YtapnohcfnclleaaW.PrintLast Go.Proofs.YtapnohcfnclleaaW.PrintMore
attribute [local go_sem] max2_int min2_int max_two min_two max_three min_three max_four min_four   -- for this text's walks alone
set_option linter.unusedVariables false
set_option linter.unusedSimpArgs false
/-! ### impl_PictureLines: function 15 -/
mutual
def impl_PictureLines.l0 : Nat → List (List Int) → Int → Int → List (List Int) → List (List Int) → Option ((List (List Int)) × Bool)
 | 0, _, _, _, _, _ => none
 | k + 1, x4, x25, x26, x317000, x317001 => if x26 < x25 then (impl_PictureLines.l1 k x4 (([] : List Int)) x25 x26 (x317001.length : Int) 0 x317000 x317001) else (impl_PictureLines.l2 k x4 true x317000 x317001)
def impl_PictureLines.l1 : Nat → List (List Int) → List Int → Int → Int → Int → Int → List (List Int) → List (List Int) → Option ((List (List Int)) × Bool)
 | 0, _, _, _, _, _, _, _, _ => none
 | k + 1, x4, x5, x25, x26, x31, x32, x317000, x317001 => if x32 < x31 then (if x5.length < 17592186044416 then (impl_PictureLines.l1 k x4 (x5 ++ [(-1)]) x25 x26 x31 (wrap64 (x32 + 1)) x317000 x317001) else (none)) else (if x4.length < 5864062014805 then (impl_PictureLines.l0 k (x4 ++ [x5]) x25 (wrap64 (x26 + 1)) x317000 x317001) else (none))
def impl_PictureLines.l2 : Nat → List (List Int) → Bool → List (List Int) → List (List Int) → Option ((List (List Int)) × Bool)
 | 0, _, _, _, _ => none
 | k + 1, x4, x6, x317000, x317001 => if x6 = true then (impl_PictureLines.l3 k x4 false x317000 (x317000.length : Int) 0 x317000 x317001) else (some (x4, true))
def impl_PictureLines.l3 : Nat → List (List Int) → Bool → List (List Int) → Int → Int → List (List Int) → List (List Int) → Option ((List (List Int)) × Bool)
 | 0, _, _, _, _, _, _, _ => none
 | k + 1, x4, x6, x45, x46, x47, x317000, x317001 => if x47 < x46 then (if 0 ≤ x47 then (if x47 < (x45.length : Int) then (if x47 < (x4.length : Int) then ((impl_LineForced.f k (rd_L1 x45 x47) (rd_L1 x4 x47)).bind fun bt332 => (if bt332.2 = true then (if x6 = true then (impl_PictureLines.l3 k (x4.set (x47 : Int).toNat bt332.1) true x45 x46 (wrap64 (x47 + 1)) x317000 x317001) else ((slices_Equal_int_int.f k bt332.1 (rd_L1 x4 x47)).bind fun t338 => (impl_PictureLines.l3 k (x4.set (x47 : Int).toNat bt332.1) (!t338) x45 x46 (wrap64 (x47 + 1)) x317000 x317001))) else (some (([] : List (List Int)), false)))) else (none)) else (none)) else (none)) else (impl_PictureLines.l4 k x4 x6 x317001 (x317001.length : Int) 0 x317000 x317001)
def impl_PictureLines.l4 : Nat → List (List Int) → Bool → List (List Int) → Int → Int → List (List Int) → List (List Int) → Option ((List (List Int)) × Bool)
 | 0, _, _, _, _, _, _, _ => none
 | k + 1, x4, x6, x79, x80, x81, x317000, x317001 => if x81 < x80 then (if 0 ≤ x81 then (if x81 < (x79.length : Int) then (impl_PictureLines.l5 k x4 x6 x81 (rd_L1 x79 x81) (([] : List Int)) x79 x80 x81 (x4.length : Int) 0 x317000 x317001) else (none)) else (none)) else (impl_PictureLines.l2 k x4 x6 x317000 x317001)
def impl_PictureLines.l5 : Nat → List (List Int) → Bool → Int → List Int → List Int → List (List Int) → Int → Int → Int → Int → List (List Int) → List (List Int) → Option ((List (List Int)) × Bool)
 | 0, _, _, _, _, _, _, _, _, _, _, _, _ => none
 | k + 1, x4, x6, x11, x12, x13, x79, x80, x81, x88, x89, x317000, x317001 => if x89 < x88 then (if 0 ≤ x89 then (if x89 < (x4.length : Int) then (if 0 ≤ x11 then (if x11 < ((rd_L1 x4 x89).length : Int) then (if x13.length < 17592186044416 then (impl_PictureLines.l5 k x4 x6 x11 x12 (x13 ++ [rd (rd_L1 x4 x89) x11]) x79 x80 x81 x88 (wrap64 (x89 + 1)) x317000 x317001) else (none)) else (none)) else (none)) else (none)) else (none)) else ((impl_LineForced.f k x12 x13).bind fun bt349 => (if bt349.2 = true then (impl_PictureLines.l6 k x4 x6 x11 x79 x80 x81 bt349.1 (bt349.1.length : Int) 0 x317000 x317001) else (some (([] : List (List Int)), false))))
def impl_PictureLines.l6 : Nat → List (List Int) → Bool → Int → List (List Int) → Int → Int → List Int → Int → Int → List (List Int) → List (List Int) → Option ((List (List Int)) × Bool)
 | 0, _, _, _, _, _, _, _, _, _, _, _ => none
 | k + 1, x4, x6, x11, x79, x80, x81, x111, x112, x113, x317000, x317001 => if x113 < x112 then (if 0 ≤ x113 then (if x113 < (x111.length : Int) then (if x6 = true then (if x113 < (x4.length : Int) then (if 0 ≤ x11 then (if x11 < ((rd_L1 x4 x113).length : Int) then (impl_PictureLines.l6 k (x4.set (x113 : Int).toNat ((rd_L1 x4 x113).set (x11 : Int).toNat (rd x111 x113))) true x11 x79 x80 x81 x111 x112 (wrap64 (x113 + 1)) x317000 x317001) else (none)) else (none)) else (none)) else (if x113 < (x4.length : Int) then (if 0 ≤ x11 then (if x11 < ((rd_L1 x4 x113).length : Int) then (impl_PictureLines.l6 k (x4.set (x113 : Int).toNat ((rd_L1 x4 x113).set (x11 : Int).toNat (rd x111 x113))) ((rd (rd_L1 x4 x113) x11) != (rd x111 x113)) x11 x79 x80 x81 x111 x112 (wrap64 (x113 + 1)) x317000 x317001) else (none)) else (none)) else (none))) else (none)) else (none)) else (impl_PictureLines.l4 k x4 x6 x79 x80 (wrap64 (x81 + 1)) x317000 x317001)
end
def impl_PictureLines.f (k : Nat) (l0_0 : List (List Int)) (l0_1 : List (List Int)) : Option ((List (List Int)) × Bool) := (impl_PictureValid.f k l0_0 l0_1).bind fun t317 => (if t317 = true then (impl_PictureLines.l0 k (([] : List (List Int))) (l0_0.length : Int) 0 l0_0 l0_1) else (some (([] : List (List Int)), false)))
set_option maxHeartbeats 8000000 in
set_option maxRecDepth 100000 in
theorem impl_PictureLines.calls (k : Nat) (A0_0 : Option Addr) (c0_0 : Nat) (l0_0 : List (List Int)) (A0_1 : Option Addr) (c0_1 : Nat) (l0_1 : List (List Int)) (r1 : List (List Int)) (r2 : Bool) (w : World) (hr0_0 : Kd.C (Kd.slice 3 (Kd.int .i64)) w A0_0 l0_0.length l0_0) (hc0_0 : l0_0.length ≤ c0_0) (hr0_1 : Kd.C (Kd.slice 3 (Kd.int .i64)) w A0_1 l0_1.length l0_1) (hc0_1 : l0_1.length ≤ c0_1) (h : impl_PictureLines.f k l0_0 l0_1 = some (r1, r2)) :
  Calls Try.prog 15 #[.agg #[.slice A0_0 l0_0.length c0_0, .slice A0_1 l0_1.length c0_1]] w fun e w' => ∃ v0_ : Value, e = .returned (.tuple #[v0_, .bool r2]) ∧ Kd.S (Kd.slice 3 (Kd.int .i64)) 36 w' w.heap.size (fun _ => True) v0_ r1 ∧ Below w.heap.size w w' := by
 have hu25 := Try.underlying25
 have HR0_0 := am hr0_0
 have HC0_0 := am hc0_0
 clear hr0_0 hc0_0
 have HR0_1 := am hr0_1
 have HC0_1 := am hc0_1
 clear hr0_1 hc0_1
 have HB := am (Below.refl w.heap.size w)
 have H : ((impl_PictureValid.f k l0_0 l0_1).bind fun t317 => (if t317 = true then (impl_PictureLines.l0 k (([] : List (List Int))) (l0_0.length : Int) 0 l0_0 l0_1) else (some (([] : List (List Int)), false)))) = some (r1, r2) := h
 clear h
 replace H := Option.bind_eq_some_iff.mp H
 obtain ⟨t317, A20, H⟩ := H
 replace H : (if t317 = true then (impl_PictureLines.l0 k (([] : List (List Int))) (l0_0.length : Int) 0 l0_0 l0_1) else (some (([] : List (List Int)), false))) = some (r1, r2) := H
 have A2 := am A20
 clear A20
 by_cases c3 : t317 = true
 ·subst c3
  rw [if_pos rfl] at H
  obtain ⟨y318, hy318⟩ : ∃ y_ : List (List Int), y_ = (([] : List (List Int))) := ⟨_, rfl⟩
  replace H : (impl_PictureLines.l0 k y318 (l0_0.length : Int) 0 l0_0 l0_1) = some (r1, r2) := by first | (rw [hy318]; with_reducible exact H) | (have H2_ := (Option.bind_some _ _).symm.trans H; rw [hy318]; with_reducible exact H2_) | (have H2_ := (Option.bind_some _ _).symm.trans H; with_reducible exact H2_) | with_reducible exact H | (rw [hy318]; exact H) | exact H
  have Ny318 := am hy318
  clear hy318
  have H' := am H
  clear H
  go_enter Try.func15, Try.ntmps15
  go_wp2_with (first | ((with_reducible refine gate_dst (N := 1) rfl ?_); refine box_event ?hg (N := 1) ?hd (cs := #[.slice A0_0 l0_0.length c0_0, .slice A0_1 l0_1.length c0_1]) (t := 25) ?hr ?_; (case hd => rfl); (case hg => rfl); (case hr => first | (go_simp; done) | (go_simp; rfl)); intro gb316 hg w4 hbox hb; have n0_ := am (below_step (bm HB) hb); have n1_ := am (hbox); have n2_ := am ((by rw [hg]; exact (below_size (bm HB)) : w.heap.size ≤ gb316)); have n3_ := am ((by rw [hg]; exact (below_size (bm HB)) : w.heap.size ≤ gb316)); clear HB; revert n0_ n1_ n2_ n3_; intro HB BK316 GW316 GE316; clear hb hbox hg; have hcz5_0 : w4.cell? ⟨gb316, 0, none⟩ = some (.slice A0_0 l0_0.length c0_0) := (blk_cell BK316.out 0).trans rfl; have hcz5_1 : w4.cell? ⟨gb316, 1, none⟩ = some (.slice A0_1 l0_1.length c0_1) := (blk_cell BK316.out 1).trans rfl; have hfz5_0 := blk_frozen BK316.out 0; have hfz5_1 := blk_frozen BK316.out 1) | ((with_reducible refine gate_callee (f := 24) rfl ?_); refine goesL_ (some 20) rfl rfl Try.func24 (by kernel_rfl) rfl #[.agg #[.slice A0_0 l0_0.length c0_0, .slice A0_1 l0_1.length c0_1]] rfl (by (try simp only [List.map_toArray, List.map_cons, List.map_nil]); first | done | rfl | (simp only [List.length_drop, List.length_take]; rfl)) ?_; (with_reducible refine (impl_PictureValid.calls k _ _ l0_0 _ _ l0_1 true _ ?side1 ?side2 ?side3 ?side4 A2.out).mono ?_); (case side1 => repeat (first | exact (Kd.C_below HR0_0.out HB.out) | (with_reducible refine Kd.C_alloc ?_ _) | (with_reducible refine Kd.C_drewN ?_ _) | (with_reducible refine Kd.C_drew ?_))); (case side2 => exact HC0_0.out); (case side3 => repeat (first | exact (Kd.C_below HR0_1.out HB.out) | (with_reducible refine Kd.C_alloc ?_ _) | (with_reducible refine Kd.C_drewN ?_ _) | (with_reducible refine Kd.C_drew ?_))); (case side4 => exact HC0_1.out); rintro e w6 ⟨rfl, hb⟩; refine ⟨_, rfl, ?_⟩; have n0_ := am (blk_below (g := gb316) (o := .cells #[.slice A0_0 l0_0.length c0_0, .slice A0_1 l0_1.length c0_1] 25 (0, 0)) (bv BK316.out) hb); have n1_ := am (below_step (by repeat (first | (with_reducible first | exact HB.out | apply below_alloc | apply pw_below_drewN | apply below_drew1 | refine below_set ?_ GE316.out) | exact HB.out)) hb); clear BK316 HB; revert n0_ n1_; intro BK316 HB; (try clear hb); (try clear hb2); (try clear hk); (try clear hi)) | ((with_reducible refine gate_dst (N := 22) rfl ?_); refine Kd.S_lit (Kd.slice 3 (Kd.int .i64)) _ 36 ?hg (N := 22) ?hd (xs := ([] : List (List Int))) (inner := []) (ok := fun _ => True) (okp := fun _ => True) ?hr ?hp (fun _ hk => hk) trivial (Below.refl _ _) (Nat.le_refl _) (by simp) ?_; (case hd => rfl); (case hg => rfl); (case hr => first | (go_simp; done) | (go_simp; rfl)); (case hp => exact (Reps.none _ _)); intro v319 w7 ho8 hb hg_ hnew_; clear hg_ hnew_; (first | rw [← Ny318.out] at ho8 | (simp only [Int.reduceToNat] at ho8; rw [← Ny318.out] at ho8)); have n0_ := am (Kd.S_lower ho8 (below_size (by repeat (first | (with_reducible first | exact HB.out | apply below_alloc | apply pw_below_drewN | apply below_drew1 | refine below_set ?_ GE316.out) | exact HB.out)))); have n1_ := am (blk_below (g := gb316) (o := .cells #[.slice A0_0 l0_0.length c0_0, .slice A0_1 l0_1.length c0_1] 25 (0, 0)) (bv BK316.out) hb); have n2_ := am (below_step (by repeat (first | (with_reducible first | exact HB.out | apply below_alloc | apply pw_below_drewN | apply below_drew1 | refine below_set ?_ GE316.out) | exact HB.out)) hb); clear BK316 HB; revert n0_ n1_ n2_; intro HO320 BK316 HB; clear hb ho8; have hcz9_0 : w7.cell? ⟨gb316, 0, none⟩ = some (.slice A0_0 l0_0.length c0_0) := (blk_cell BK316.out 0).trans rfl; have hcz9_1 : w7.cell? ⟨gb316, 1, none⟩ = some (.slice A0_1 l0_1.length c0_1) := (blk_cell BK316.out 1).trans rfl; have hfz9_0 := blk_frozen BK316.out 0; have hfz9_1 := blk_frozen BK316.out 1))
  go_loopg [4, 26] k (fun kq v4 v26 w' => ∃ (x4_1 : List (List Int)) (x26_1 : Int), v26 = .int .i64 x26_1 ∧ Aside0 (impl_PictureLines.l0 kq x4_1 (l0_0.length : Int) x26_1 l0_0 l0_1 = some (r1, r2)) ∧ Aside0 (kq ≤ k) ∧ Aside0 (Kd.S (Kd.slice 3 (Kd.int .i64)) 36 w' w.heap.size (fun _ => True) v4 x4_1) ∧ Aside0 (w'.heap[gb316]? = some (.cells #[(.slice A0_0 l0_0.length c0_0), (.slice A0_1 l0_1.length c0_1)] 25 (0, 0))) ∧ Aside0 (Below w.heap.size w w'))
  case atStart => exact ⟨(y318), (0), rfl, H', ⟨Nat.le_refl _⟩, ⟨by (with_reducible repeat (first | apply Kd.S_alloc | apply Kd.S_drewN | apply Kd.S_drew)); exact HO320.out⟩, ⟨bv BK316.out⟩, ⟨by repeat (first | (with_reducible first | exact HB.out | apply below_alloc | apply pw_below_drewN | apply below_drew1 | refine below_set ?_ GE316.out) | exact HB.out)⟩⟩
  case round =>
   clear H'
   clear hcz5_0 hcz5_1 hcz9_0 hcz9_1 hfz5_0 hfz5_1 hfz9_0 hfz9_1
   obtain ⟨x4_1, x26_1, rfl, HA, HK1, HO_4, BK316, HB⟩ := hrel
   cases gk with
   | zero => exact absurd HA.out (by simp [impl_PictureLines.l0])
   | succ k1 =>
    have H := HA.out
    clear HA
    simp only [impl_PictureLines.l0] at H
    by_cases c10 : x26_1 < (l0_0.length : Int)
    ·rw [if_pos c10] at H
     have c10b0 : decide (x26_1 < (l0_0.length : Int)) = true := decide_eq_true c10
     clear c10
     obtain ⟨y321, hy321⟩ : ∃ y_ : List Int, y_ = (([] : List Int)) := ⟨_, rfl⟩
     replace H : (impl_PictureLines.l1 k1 x4_1 y321 (l0_0.length : Int) x26_1 (l0_1.length : Int) 0 l0_0 l0_1) = some (r1, r2) := by first | (rw [hy321]; with_reducible exact H) | (have H2_ := (Option.bind_some _ _).symm.trans H; rw [hy321]; with_reducible exact H2_) | (have H2_ := (Option.bind_some _ _).symm.trans H; with_reducible exact H2_) | with_reducible exact H | (rw [hy321]; exact H) | exact H
     have Ny321 := am hy321
     clear hy321
     have H' := am H
     clear H
     go_wp2_with (first | ((with_reducible refine gate_dst (N := 28) rfl ?_); refine Kd.R_lit (Kd.int .i64) _ 3 ?hg (N := 28) ?hd (xs := ([] : List Int)) (inner := []) (ok := fun _ => True) (okp := fun _ => True) ?hr ?hp (fun _ hk => hk) trivial (Below.refl _ _) (Nat.le_refl _) (by simp) ?_; (case hd => rfl); (case hg => rfl); (case hr => first | (go_simp; done) | (go_simp; rfl)); (case hp => exact (Reps.none _ _)); intro v322 w11 ho12 hb hg_ hnew_; clear hg_ hnew_; (first | rw [← Ny321.out] at ho12 | (simp only [Int.reduceToNat] at ho12; rw [← Ny321.out] at ho12)); have n0_ := am (Kd.S_elder' (by (with_reducible repeat (first | apply Kd.S_alloc | apply Kd.S_drewN | apply Kd.S_drew)); exact HO_4.out) (Kd.R_base ho12) hb); have n1_ := am (Kd.R_lower ho12 (below_size (by repeat (first | (with_reducible first | exact HB.out | apply below_alloc | apply pw_below_drewN | apply below_drew1 | refine below_set ?_ GE316.out) | exact HB.out)))); have n2_ := am (blk_below (g := gb316) (o := .cells #[.slice A0_0 l0_0.length c0_0, .slice A0_1 l0_1.length c0_1] 25 (0, 0)) (bv BK316.out) hb); have n3_ := am (below_step (by repeat (first | (with_reducible first | exact HB.out | apply below_alloc | apply pw_below_drewN | apply below_drew1 | refine below_set ?_ GE316.out) | exact HB.out)) hb); clear HO_4 BK316 HB; revert n0_ n1_ n2_ n3_; intro HO_4 HO323 BK316 HB; clear hb ho12; have hcz13_0 : w11.cell? ⟨gb316, 0, none⟩ = some (.slice A0_0 l0_0.length c0_0) := (blk_cell BK316.out 0).trans rfl; have hcz13_1 : w11.cell? ⟨gb316, 1, none⟩ = some (.slice A0_1 l0_1.length c0_1) := (blk_cell BK316.out 1).trans rfl; have hfz13_0 := blk_frozen BK316.out 0; have hfz13_1 := blk_frozen BK316.out 1))
     go_loopg [5, 32] k1 (fun kq v5 v32 w' => ∃ (x5_2 : List Int) (x32_2 : Int), v32 = .int .i64 x32_2 ∧ Aside0 (impl_PictureLines.l1 kq x4_1 x5_2 (l0_0.length : Int) x26_1 (l0_1.length : Int) x32_2 l0_0 l0_1 = some (r1, r2)) ∧ Aside0 (kq ≤ k1) ∧ Aside0 (Kd.S (Kd.slice 3 (Kd.int .i64)) 36 w' w.heap.size (fun k_ => some k_ ≠ (v5 : Value).ownBlock) u4 x4_1) ∧ Aside0 (Kd.R (Kd.int .i64) 3 w' w.heap.size (fun _ => True) v5 x5_2) ∧ Aside0 (w'.heap[gb316]? = some (.cells #[(.slice A0_0 l0_0.length c0_0), (.slice A0_1 l0_1.length c0_1)] 25 (0, 0))) ∧ Aside0 (Below w.heap.size w w'))
     case atStart => exact ⟨(y321), (0), rfl, H', ⟨Nat.le_refl _⟩, ⟨by (with_reducible repeat (first | apply Kd.S_alloc | apply Kd.S_drewN | apply Kd.S_drew)); exact Kd.S_mono HO_4.out (fun _ hk => by first | exact hk.2 | exact hk | exact hk.1)⟩, ⟨Kd.rv HO323.out⟩, ⟨bv BK316.out⟩, ⟨by repeat (first | (with_reducible first | exact HB.out | apply below_alloc | apply pw_below_drewN | apply below_drew1 | refine below_set ?_ GE316.out) | exact HB.out)⟩⟩
     case round =>
      clear H'
      clear c10b0 hcz13_0 hcz13_1 hfz13_0 hfz13_1
      obtain ⟨x5_2, x32_2, rfl, HA, HK2, HO_4, HO_5, BK316, HB⟩ := hrel
      cases gk with
      | zero => exact absurd HA.out (by simp [impl_PictureLines.l1])
      | succ k2 =>
       have H := HA.out
       clear HA
       simp only [impl_PictureLines.l1] at H
       by_cases c14 : x32_2 < (l0_1.length : Int)
       ·rw [if_pos c14] at H
        have c14b0 : decide (x32_2 < (l0_1.length : Int)) = true := decide_eq_true c14
        clear c14
        have q_ := ifs H
        clear H
        obtain ⟨c15, H⟩ := q_
        have LMc15 := am c15
        clear c15
        obtain ⟨y324, hy324⟩ : ∃ y_ : List Int, y_ = (x5_2 ++ [(-1)]) := ⟨_, rfl⟩
        replace H : (impl_PictureLines.l1 k2 x4_1 y324 (l0_0.length : Int) x26_1 (l0_1.length : Int) (wrap64 (x32_2 + 1)) l0_0 l0_1) = some (r1, r2) := by first | (rw [hy324]; with_reducible exact H) | (have H2_ := (Option.bind_some _ _).symm.trans H; rw [hy324]; with_reducible exact H2_) | (have H2_ := (Option.bind_some _ _).symm.trans H; with_reducible exact H2_) | with_reducible exact H | (rw [hy324]; exact H) | exact H
        have Ny324 := am hy324
        clear hy324
        have H' := am H
        clear H
        go_wp2_with (first | ((with_reducible refine gate_builtin (b := .append) (xs := #[.tmp 34, .tmp 35]) rfl ?_); at_builtin; refine Kd.R_append (Kd.int .i64) (w0 := w) w.heap.size rfl (.tmp 34) (.tmp 35) 36 3 (.int .i64 0) 8 rfl Try.underlying36 info3 rfl (by decide) (by omega) u5 x5_2 (-1) [.int .i64 (-1)] (fun _ => True) (fun _ => False) rfl rfl ?aP (fun _ hk => hk.elim) ?aF ?aO ?aB ?aS ?aL ?_; (case aP => exact rfl); (case aB => exact (by repeat (first | (with_reducible first | exact HB.out | apply below_alloc | apply pw_below_drewN | apply below_drew1 | refine below_set ?_ GE316.out) | exact HB.out))); (case aF => exact (fun _ _ => trivial)); (case aO => exact (Kd.rv HO_5.out)); (case aS => exact (below_size (by repeat (first | (with_reducible first | exact HB.out | apply below_alloc | apply pw_below_drewN | apply below_drew1 | refine below_set ?_ GE316.out) | exact HB.out)))); (case aL => have := LMc15.out; omega); intro v325 w16 ho hb hg hat; rw [← Ny324.out] at ho; have n0_ := am (Kd.S_after (ok := (fun _ => True)) (by (with_reducible repeat (first | apply Kd.S_alloc | apply Kd.S_drewN | apply Kd.S_drew)); exact Kd.S_mono HO_4.out (fun _ hk => ⟨trivial, hk⟩)) hg hat); have n1_ := am (blk_grown (g := gb316) (o := .cells #[.slice A0_0 l0_0.length c0_0, .slice A0_1 l0_1.length c0_1] 25 (0, 0)) (bv BK316.out) hg (Kd.R_ne HO_5.out BK316.out (by decide))); have n2_ := am (hb); have n3_ := am (ho); clear HO_4 BK316 HB HO_5; revert n0_ n1_ n2_ n3_; intro HO_4 BK316 HB HO326; clear ho hb hg hat))
        go_roundg k2
        case measure => have := HK1.out; have := HK2.out; omega
        case rel => exact ⟨(y324), (wrap64 (x32_2 + 1)), rfl, H', ⟨by have := HK1.out; have := HK2.out; omega⟩, ⟨by (with_reducible repeat (first | apply Kd.S_alloc | apply Kd.S_drewN | apply Kd.S_drew)); exact Kd.S_mono HO_4.out (fun _ hk => by first | exact hk.2 | exact hk | exact hk.1)⟩, ⟨Kd.rv HO326.out⟩, ⟨bv BK316.out⟩, ⟨by repeat (first | (with_reducible first | exact HB.out | apply below_alloc | apply pw_below_drewN | apply below_drew1 | refine below_set ?_ GE316.out) | exact HB.out)⟩⟩
       ·rw [if_neg c14] at H
        have c14b0 : decide (x32_2 < (l0_1.length : Int)) = false := decide_eq_false c14
        clear c14
        have q_ := ifs H
        clear H
        obtain ⟨c17, H⟩ := q_
        have LMc17 := am c17
        clear c17
        obtain ⟨y327, hy327⟩ : ∃ y_ : List (List Int), y_ = (x4_1 ++ [x5_2]) := ⟨_, rfl⟩
        replace H : (impl_PictureLines.l0 k2 y327 (l0_0.length : Int) (wrap64 (x26_1 + 1)) l0_0 l0_1) = some (r1, r2) := by first | (rw [hy327]; with_reducible exact H) | (have H2_ := (Option.bind_some _ _).symm.trans H; rw [hy327]; with_reducible exact H2_) | (have H2_ := (Option.bind_some _ _).symm.trans H; with_reducible exact H2_) | with_reducible exact H | (rw [hy327]; exact H) | exact H
        have Ny327 := am hy327
        clear hy327
        have H' := am H
        clear H
        obtain ⟨Ao19, co19, eo19⟩ := Kd.R_slice HO_5.out
        subst eo19
        go_wp2_with (first | ((with_reducible refine gate_builtin (b := .append) (xs := #[.tmp 38, .tmp 40]) rfl ?_); at_builtin; refine Kd.S_append (Kd.slice 3 (Kd.int .i64)) (w0 := w) w.heap.size rfl (.tmp 38) (.tmp 40) 23 36 (.slice none 0 0) 24 rfl Try.underlying23 info36 rfl (by decide) (by omega) u4 x4_1 x5_2 [.slice Ao19 x5_2.length co19] (fun _ => True) (fun k_ => some k_ = (.slice Ao19 x5_2.length co19 : Value).ownBlock) rfl rfl ?aP (fun k_ hk_ => ((Kd.R_mono (ok' := fun k_ => ((fun _ => True)) k_ ∧ some k_ ≠ (u4 : Value).ownBlock) (Kd.R_apart' (HO_5.out) (Kd.S_typed HO_4.out) (by decide)) (fun k_ hk => ⟨trivial, hk.2⟩))).1 k_ hk_.symm) ?aF ?aO ?aB ?aS ?aL ?_; (case aP => exact Kd.M_row (Kd.R_mono (Kd.R_tight rfl (Kd.R_mono (ok' := fun k_ => ((fun _ => True)) k_ ∧ some k_ ≠ (u4 : Value).ownBlock) (Kd.R_apart' (HO_5.out) (Kd.S_typed HO_4.out) (by decide)) (fun k_ hk => ⟨trivial, hk.2⟩))) (fun _ h_ => h_))); (case aB => exact (by repeat (first | (with_reducible first | exact HB.out | apply below_alloc | apply pw_below_drewN | apply below_drew1 | refine below_set ?_ GE316.out) | exact HB.out))); (case aF => exact (fun _ _ => trivial)); (case aO => exact (by (with_reducible repeat (first | apply Kd.S_alloc | apply Kd.S_drewN | apply Kd.S_drew)); exact Kd.S_mono HO_4.out (fun k_ hk => ⟨trivial, fun e_ => hk e_⟩))); (case aS => exact (below_size (by repeat (first | (with_reducible first | exact HB.out | apply below_alloc | apply pw_below_drewN | apply below_drew1 | refine below_set ?_ GE316.out) | exact HB.out)))); (case aL => have := LMc17.out; omega); intro v328 w18 ho hb hg hat; rw [← Ny327.out] at ho; have n0_ := am (blk_grown (g := gb316) (o := .cells #[.slice A0_0 l0_0.length c0_0, .slice A0_1 l0_1.length c0_1] 25 (0, 0)) (bv BK316.out) hg (Kd.S_ne HO_4.out BK316.out (by decide))); have n1_ := am (hb); have n2_ := am (ho); clear BK316 HB HO_4 HO_5; revert n0_ n1_ n2_; intro BK316 HB HO329; clear ho hb hg hat))
        go_roundg k2
        case measure => have := HK1.out; have := HK2.out; omega
        case rel => exact ⟨(y327), (wrap64 (x26_1 + 1)), rfl, H', ⟨by have := HK1.out; have := HK2.out; omega⟩, ⟨by (with_reducible repeat (first | apply Kd.S_alloc | apply Kd.S_drewN | apply Kd.S_drew)); exact HO329.out⟩, ⟨bv BK316.out⟩, ⟨by repeat (first | (with_reducible first | exact HB.out | apply below_alloc | apply pw_below_drewN | apply below_drew1 | refine below_set ?_ GE316.out) | exact HB.out)⟩⟩
    ·rw [if_neg c10] at H
     have c10b0 : decide (x26_1 < (l0_0.length : Int)) = false := decide_eq_false c10
     clear c10
     have H' := am H
     clear H
     go_wp2
     go_loopg [6] k1 (fun kq v6 w' => ∃ (x4_2 : List (List Int)) (x6_2 : Bool), v6 = .bool x6_2 ∧ Aside0 (impl_PictureLines.l2 kq x4_2 x6_2 l0_0 l0_1 = some (r1, r2)) ∧ Aside0 (kq ≤ k1) ∧ Aside0 (Kd.S (Kd.slice 3 (Kd.int .i64)) 36 w' w.heap.size (fun _ => True) u4 x4_2) ∧ Aside0 (w'.heap[gb316]? = some (.cells #[(.slice A0_0 l0_0.length c0_0), (.slice A0_1 l0_1.length c0_1)] 25 (0, 0))) ∧ Aside0 (Below w.heap.size w w'))
     case atStart => exact ⟨(x4_1), (true), rfl, H', ⟨Nat.le_refl _⟩, ⟨by (with_reducible repeat (first | apply Kd.S_alloc | apply Kd.S_drewN | apply Kd.S_drew)); exact HO_4.out⟩, ⟨bv BK316.out⟩, ⟨by repeat (first | (with_reducible first | exact HB.out | apply below_alloc | apply pw_below_drewN | apply below_drew1 | refine below_set ?_ GE316.out) | exact HB.out)⟩⟩
     case round =>
      clear H'
      clear c10b0
      obtain ⟨x4_2, x6_2, rfl, HA, HK2, HO_4, BK316, HB⟩ := hrel
      cases gk with
      | zero => exact absurd HA.out (by simp [impl_PictureLines.l2])
      | succ k2 =>
       have H := HA.out
       clear HA
       simp only [impl_PictureLines.l2] at H
       by_cases c20 : x6_2 = true
       ·subst c20
        rw [if_pos rfl] at H
        have H' := am H
        clear H
        have hcz21_0 : wr.cell? ⟨gb316, 0, none⟩ = some (.slice A0_0 l0_0.length c0_0) := (blk_cell BK316.out 0).trans rfl
        have hcz21_1 : wr.cell? ⟨gb316, 1, none⟩ = some (.slice A0_1 l0_1.length c0_1) := (blk_cell BK316.out 1).trans rfl
        have hfz21_0 := blk_frozen BK316.out 0
        have hfz21_1 := blk_frozen BK316.out 1
        go_wp2
        go_loopg [6, 47] k2 (fun kq v6 v47 w' => ∃ (x4_3 : List (List Int)) (x6_3 : Bool) (x47_3 : Int), v6 = .bool x6_3 ∧ v47 = .int .i64 x47_3 ∧ Aside0 (impl_PictureLines.l3 kq x4_3 x6_3 l0_0 (l0_0.length : Int) x47_3 l0_0 l0_1 = some (r1, r2)) ∧ Aside0 (kq ≤ k2) ∧ Aside0 (Kd.S (Kd.slice 3 (Kd.int .i64)) 36 w' w.heap.size (fun _ => True) u4 x4_3) ∧ Aside0 (w'.heap[gb316]? = some (.cells #[(.slice A0_0 l0_0.length c0_0), (.slice A0_1 l0_1.length c0_1)] 25 (0, 0))) ∧ Aside0 (Below w.heap.size w w'))
        case atStart => exact ⟨(x4_2), (false), (0), rfl, rfl, H', ⟨Nat.le_refl _⟩, ⟨by (with_reducible repeat (first | apply Kd.S_alloc | apply Kd.S_drewN | apply Kd.S_drew)); exact HO_4.out⟩, ⟨bv BK316.out⟩, ⟨by repeat (first | (with_reducible first | exact HB.out | apply below_alloc | apply pw_below_drewN | apply below_drew1 | refine below_set ?_ GE316.out) | exact HB.out)⟩⟩
        case round =>
         clear H'
         clear hcz21_0 hcz21_1 hfz21_0 hfz21_1
         obtain ⟨x4_3, x6_3, x47_3, rfl, rfl, HA, HK3, HO_4, BK316, HB⟩ := hrel
         cases gk with
         | zero => exact absurd HA.out (by simp [impl_PictureLines.l3])
         | succ k3 =>
          have H := HA.out
          clear HA
          simp only [impl_PictureLines.l3] at H
          by_cases c22 : x47_3 < (l0_0.length : Int)
          ·rw [if_pos c22] at H
           have c22b0 : decide (x47_3 < (l0_0.length : Int)) = true := decide_eq_true c22
           clear c22
           have q_ := ifs H
           clear H
           obtain ⟨c23, H⟩ := q_
           have c23b0 : decide (0 ≤ x47_3) = true := decide_eq_true c23
           clear c23
           have q_ := ifs H
           clear H
           obtain ⟨c24, H⟩ := q_
           have c24b0 : decide (x47_3 < (l0_0.length : Int)) = true := decide_eq_true c24
           clear c24
           have q_ := ifs H
           clear H
           obtain ⟨c25, H⟩ := q_
           have c25b0 : decide (x47_3 < (x4_3.length : Int)) = true := decide_eq_true c25
           clear c25
           replace H := Option.bind_eq_some_iff.mp H
           obtain ⟨⟨t332, t333⟩, A260, H⟩ := H
           replace H : (if t333 = true then (if x6_3 = true then (impl_PictureLines.l3 k3 (x4_3.set (x47_3 : Int).toNat t332) true l0_0 (l0_0.length : Int) (wrap64 (x47_3 + 1)) l0_0 l0_1) else ((slices_Equal_int_int.f k3 t332 (rd_L1 x4_3 x47_3)).bind fun t338 => (impl_PictureLines.l3 k3 (x4_3.set (x47_3 : Int).toNat t332) (!t338) l0_0 (l0_0.length : Int) (wrap64 (x47_3 + 1)) l0_0 l0_1))) else (some (([] : List (List Int)), false))) = some (r1, r2) := H
           have A26 := am A260
           clear A260
           by_cases c27 : t333 = true
           ·subst c27
            rw [if_pos rfl] at H
            by_cases c28 : x6_3 = true
            ·subst c28
             rw [if_pos rfl] at H
             obtain ⟨y336, hy336⟩ : ∃ y_ : List (List Int), y_ = (x4_3.set (x47_3 : Int).toNat t332) := ⟨_, rfl⟩
             replace H : (impl_PictureLines.l3 k3 y336 true l0_0 (l0_0.length : Int) (wrap64 (x47_3 + 1)) l0_0 l0_1) = some (r1, r2) := by first | (rw [hy336]; with_reducible exact H) | (have H2_ := (Option.bind_some _ _).symm.trans H; rw [hy336]; with_reducible exact H2_) | (have H2_ := (Option.bind_some _ _).symm.trans H; with_reducible exact H2_) | with_reducible exact H | (rw [hy336]; exact H) | exact H
             have Ny336 := am hy336
             clear hy336
             have H' := am H
             clear H
             have p330 : 0 ≤ (x47_3 : Int) := da
             have q330 : x47_3 < (l0_0.length : Int) := da
             obtain ⟨ad330, A330_0, c330_0, e330, hx330_0, hl330_0, hi330_0⟩ := at_L1 HR0_0.out x47_3 p330 q330
             cases e330
             replace hx330_0 := (HB.out.cell (World.block_lt_of_cell? w _ hx330_0)).trans hx330_0
             have HR330_0 := am hi330_0
             have HC330_0 := am hl330_0
             clear hi330_0 hl330_0
             replace p330 := eq_true p330
             replace q330 := eq_true q330
             obtain ⟨Ao30, co30, eo30⟩ := Kd.S_slice HO_4.out
             subst eo30
             have p331 : 0 ≤ (x47_3 : Int) := da
             have q331 : x47_3 < (x4_3.length : Int) := da
             obtain ⟨ad331, A331_0, c331_0, e331, hx331_0, hl331_0, hi331_0⟩ := at_L1 (Kd.S_reads' HO_4.out).2.2 x47_3 p331 q331
             cases e331
             obtain ⟨ce331, hce331, hMe331, hcc331⟩ := Kd.S_get HO_4.out [] x47_3 p331 (by first | exact q331 | exact da | (have e_ := (Kd.S_reads' HO_4.out).1; omega))
             obtain ⟨ve331_0, rfl, ge331_0⟩ := hMe331
             have hv331_0 := hcc331 0 _ rfl
             rw [Nat.add_zero, show ((Kd.slice 3 (Kd.int .i64))).sz = 1 from rfl, Nat.mul_one] at hv331_0
             replace hv331_0 := Option.some.inj (hv331_0.symm.trans hx331_0)
             rw [hv331_0] at ge331_0
             have HL331_0 := am (show Kd.R (Kd.int .i64) 3 _ _ _ _ (rd_L1 x4_3 x47_3) from ge331_0)
             clear hv331_0 ge331_0
             have HX331_0 := am hx331_0
             clear hcc331 hce331
             have HR331_0 := am hi331_0
             have HC331_0 := am hl331_0
             clear hi331_0 hl331_0
             replace p331 := eq_true p331
             replace q331 := eq_true q331
             go_wp2_with (first | ((with_reducible refine gate_callee (f := 47) rfl ?_); refine goesL_ (some 58) rfl rfl Try.func47 (by kernel_rfl) rfl #[.slice A330_0 (rd_L1 l0_0 x47_3).length c330_0, .slice A331_0 (rd_L1 x4_3 x47_3).length c331_0] rfl (by (try simp only [List.map_toArray, List.map_cons, List.map_nil]); first | done | rfl | (simp only [List.length_drop, List.length_take]; rfl)) ?_; (with_reducible refine (impl_LineForced.calls k3 _ _ (rd_L1 l0_0 x47_3) _ _ (rd_L1 x4_3 x47_3) t332 true _ ?side1 ?side2 ?side3 ?side4 A26.out).mono ?_); (case side1 => repeat (first | exact (Kd.C_below HR330_0.out HB.out) | (with_reducible refine Kd.C_alloc ?_ _) | (with_reducible refine Kd.C_drewN ?_ _) | (with_reducible refine Kd.C_drew ?_))); (case side2 => exact HC330_0.out); (case side3 => exact Kd.cv HR331_0.out); (case side4 => exact HC331_0.out); rintro e w31 ⟨v334, rfl, ho0, hb⟩; refine ⟨_, rfl, ?_⟩; have n0_ := am (Kd.S_elder' (by (with_reducible repeat (first | apply Kd.S_alloc | apply Kd.S_drewN | apply Kd.S_drew)); exact HO_4.out) (Kd.R_base ho0) hb); have n1_ := am (Kd.R_elder' (Kd.rv HL331_0.out) (Kd.R_base ho0) hb); have n2_ := am (Kd.R_lower (Kd.R_new' ho0 (Kd.R_lt (Kd.rv HL331_0.out))) (below_size (by repeat (first | (with_reducible first | exact HB.out | apply below_alloc | apply pw_below_drewN | apply below_drew1 | refine below_set ?_ GE316.out) | exact HB.out)))); have n3_ := am (blk_below (g := gb316) (o := .cells #[.slice (some ad330) l0_0.length c0_0, .slice A0_1 l0_1.length c0_1] 25 (0, 0)) (bv BK316.out) hb); have n4_ := am (Kd.C_below (Kd.cv HR331_0.out) hb); have n5_ := am (pw_cell_below hb HX331_0.out); have n6_ := am (below_step (by repeat (first | (with_reducible first | exact HB.out | apply below_alloc | apply pw_below_drewN | apply below_drew1 | refine below_set ?_ GE316.out) | exact HB.out)) hb); clear HO_4 HL331_0 BK316 HR331_0 HX331_0 HB; revert n0_ n1_ n2_ n3_ n4_ n5_ n6_; intro HO_4 HL331_0 HO335 BK316 HR331_0 HX331_0 HB; (try clear hb); (try clear hb2); (try clear hk); (try clear hi); (try clear ho0); have p29 : 0 ≤ (x47_3 : Int) := da; have q29 : (x47_3 : Int) < ((x4_3.length : Int) : Int) := da; obtain ⟨go29, co29, eo29, gb29, gl29, cl29, HG29⟩ := Kd.S_form HO_4.out (by omega); (first | cases eo29 | (injection eo29 with ea_ en_ ec_; (first | subst ea_ | (injection ea_ with ea_; subst ea_)); subst ec_; clear en_)); have GB29 := am gb29; have GG29 := am HG29; clear gb29 gl29 HG29; (first | simp only [add_plain] at hx331_0 | skip); obtain ⟨_, ce29, hcl29, hM29, hcc29, hfr29, _, _⟩ := Kd.S_elem HO_4.out [] (x47_3 : Int) p29 q29; obtain ⟨ve29_0, rfl, ge29_0⟩ := hM29; have hx29_0 := hcc29 0 _ rfl; have hf29_0 := hfr29 0; (try simp only [show ((Kd.slice 3 (Kd.int .i64))).sz = 1 from rfl, Nat.mul_one, Nat.add_zero] at hx29_0); (try simp only [show ((Kd.slice 3 (Kd.int .i64))).sz = 1 from rfl, Nat.mul_one, Nat.add_zero] at hf29_0); clear hcl29 hcc29 hfr29; replace p29 := eq_true p29; replace q29 := eq_true q29; have n_ := am (Kd.S_mono (ok' := (fun k_ => some k_ ≠ (v334 : Value).ownBlock)) HO_4.out (fun k_ hk => by first | exact hk.2 | exact hk | exact hk.1)); clear HO_4; have HO_4 := n_; clear n_; have HX32 := am (show Kd.S (Kd.slice 3 (Kd.int .i64)) 36 w31 w.heap.size (fun k_ => ((fun _ => True)) k_ ∧ ¬ ((fun k_ => some k_ = (v334 : Value).ownBlock)) k_) (.slice (some ⟨go29, 0, none⟩) x4_3.length co30) x4_3 from (by (with_reducible repeat (first | apply Kd.S_alloc | apply Kd.S_drewN | apply Kd.S_drew)); exact Kd.S_mono HO_4.out (fun k_ hk => ⟨trivial, fun e_ => hk e_⟩))); obtain ⟨oki32, ce32, hcl32, hM32, hcc32, hfr32, hoki32, hH32⟩ := Kd.S_elem HX32.out [] (x47_3 : Int) (da) (by have h_ : (x47_3 : Int) < ((x4_3.length : Int) : Int) := da; first | exact h_ | (have e_ := (Kd.S_reads' HO_4.out).1; omega) | simpa using h_); obtain ⟨ve32_0, rfl, ge32_0⟩ := hM32; have HP32 := Kd.S_seg hH32 (da) (by have h_ : (x47_3 : Int) < ((x4_3.length : Int) : Int) := da; first | exact h_ | (have e_ := (Kd.S_reads' HO_4.out).1; omega) | simpa using h_) (seg := [v334]) (j := 0) (show 1 ≤ 1 from by decide) (x' := t332) (Kd.M_row (Kd.R_mono (Kd.R_tight rfl (Kd.R_mono (ok' := fun k_ => ((fun _ => True)) k_ ∧ k_ ≠ go29) (Kd.R_apart' (HO335.out) (Kd.S_typed HO_4.out) (by decide)) (fun k_ hk => ⟨trivial, fun e_ => (hk.2) (by rw [e_]; rfl)⟩))) (fun _ h_ => Or.inr (h_)))) (fun _ hk => hk) (fun k_ hk_ => ((Kd.R_mono (ok' := fun k_ => ((fun _ => True)) k_ ∧ k_ ≠ go29) (Kd.R_apart' (HO335.out) (Kd.S_typed HO_4.out) (by decide)) (fun k_ hk => ⟨trivial, fun e_ => (hk.2) (by rw [e_]; rfl)⟩))).1 k_ hk_.symm); have hx32_0 := hcc32 0 _ rfl; (try simp only [show ((Kd.slice 3 (Kd.int .i64))).sz = 1 from rfl, Nat.mul_one, Nat.add_zero] at hx32_0); have hf32_0 := hfr32 0; (try simp only [show ((Kd.slice 3 (Kd.int .i64))).sz = 1 from rfl, Nat.mul_one, Nat.add_zero] at hf32_0); clear hcl32 hcc32 hfr32 hoki32 hH32; (try simp only [show ((Kd.slice 3 (Kd.int .i64))).sz = 1 from rfl, Nat.mul_one, Nat.add_zero] at HP32)) | ((with_reducible refine gate_store (t := 36) (p := 76) rfl ?_); refine store_event (t := 36) (p := 76) (v := ?vo_w33) (w1 := (w31.setCell ⟨go29, (x47_3 : Int).toNat, none⟩ (v334))) ?hg ?ho ?hn ?hr ?_; (case ho => rfl); (case hg => rfl); (case hn => rfl); (case hr => first | (go_simp; done) | (go_simp; rfl) | (obtain ⟨A_, c_, e_⟩ := Kd.R_slice HO335.out; rw [e_]; go_simp; done) | (obtain ⟨A_, c_, e_⟩ := Kd.R_slice HO335.out; rw [e_]; go_simp; rfl)); intro w33 hw; have hg : w31.grownBy w33 (some go29) := (by rw [hw]; exact HP32.2); have hp_ : Kd.S (Kd.slice 3 (Kd.int .i64)) 36 w33 w.heap.size (fun _ => True) (.slice (some ⟨go29, 0, none⟩) x4_3.length co30) y336 := (by rw [hw, Ny336.out]; exact HP32.1); clear HP32; have n0_ := am (hp_); have n1_ := am (blk_grown (g := gb316) (o := .cells #[.slice (some ad330) l0_0.length c0_0, .slice A0_1 l0_1.length c0_1] 25 (0, 0)) (bv BK316.out) hg (Kd.S_ne HO_4.out BK316.out (by decide))); have n2_ := am (Kd.R_after (v := (.slice (some ⟨go29, 0, none⟩) x4_3.length co30)) (v1 := (.slice (some ⟨go29, 0, none⟩) x4_3.length co30)) (ok := (fun k_ => some k_ ≠ (v334 : Value).ownBlock)) (by (with_reducible repeat (first | apply Kd.R_alloc | apply Kd.R_drewN | apply Kd.R_drew)); exact Kd.R_mono HL331_0.out (fun _ hk => by first | exact ⟨hk.2, hk.1.2⟩ | exact ⟨hk.1, hk.2⟩ | exact ⟨hk.2, hk.1⟩ | exact ⟨hk.1.2, hk.2⟩ | exact ⟨hk.1.1, hk.2⟩ | exact ⟨hk.1, hk.2.2⟩)) hg (.inl rfl)); have n3_ := am ((by rw [hw]; exact below_set (HB.out) GB29.out : Below w.heap.size w w33)); clear HO_4 BK316 HL331_0 HB HO335; revert n0_ n1_ n2_ n3_; intro HO_4 BK316 HL331_0 HB; clear hg hw hp_))
             go_roundg k3
             case measure => have := HK1.out; have := HK2.out; have := HK3.out; omega
             case rel => exact ⟨(y336), (true), (wrap64 (x47_3 + 1)), rfl, rfl, H', ⟨by have := HK1.out; have := HK2.out; have := HK3.out; omega⟩, ⟨by (with_reducible repeat (first | apply Kd.S_alloc | apply Kd.S_drewN | apply Kd.S_drew)); exact HO_4.out⟩, ⟨bv BK316.out⟩, ⟨by repeat (first | (with_reducible first | exact HB.out | apply below_alloc | apply pw_below_drewN | apply below_drew1 | refine below_set ?_ GE316.out) | exact HB.out)⟩⟩
            ·replace c28 := Bool.eq_false_iff.mpr c28
             subst c28
             rw [if_neg (show ¬ (false = true) by decide)] at H
             replace H := Option.bind_eq_some_iff.mp H
             obtain ⟨t338, A340, H⟩ := H
             replace H : (impl_PictureLines.l3 k3 (x4_3.set (x47_3 : Int).toNat t332) (!t338) l0_0 (l0_0.length : Int) (wrap64 (x47_3 + 1)) l0_0 l0_1) = some (r1, r2) := H
             have A34 := am A340
             clear A340
             obtain ⟨y339, hy339⟩ : ∃ y_ : List (List Int), y_ = (x4_3.set (x47_3 : Int).toNat t332) := ⟨_, rfl⟩
             replace H : (impl_PictureLines.l3 k3 y339 (!t338) l0_0 (l0_0.length : Int) (wrap64 (x47_3 + 1)) l0_0 l0_1) = some (r1, r2) := by first | (rw [hy339]; with_reducible exact H) | (have H2_ := (Option.bind_some _ _).symm.trans H; rw [hy339]; with_reducible exact H2_) | (have H2_ := (Option.bind_some _ _).symm.trans H; with_reducible exact H2_) | with_reducible exact H | (rw [hy339]; exact H) | exact H
             have Ny339 := am hy339
             clear hy339
             have H' := am H
             clear H
             have p330 : 0 ≤ (x47_3 : Int) := da
             have q330 : x47_3 < (l0_0.length : Int) := da
             obtain ⟨ad330, A330_0, c330_0, e330, hx330_0, hl330_0, hi330_0⟩ := at_L1 HR0_0.out x47_3 p330 q330
             cases e330
             replace hx330_0 := (HB.out.cell (World.block_lt_of_cell? w _ hx330_0)).trans hx330_0
             have HR330_0 := am hi330_0
             have HC330_0 := am hl330_0
             clear hi330_0 hl330_0
             replace p330 := eq_true p330
             replace q330 := eq_true q330
             obtain ⟨Ao36, co36, eo36⟩ := Kd.S_slice HO_4.out
             subst eo36
             have p331 : 0 ≤ (x47_3 : Int) := da
             have q331 : x47_3 < (x4_3.length : Int) := da
             obtain ⟨ad331, A331_0, c331_0, e331, hx331_0, hl331_0, hi331_0⟩ := at_L1 (Kd.S_reads' HO_4.out).2.2 x47_3 p331 q331
             cases e331
             obtain ⟨ce331, hce331, hMe331, hcc331⟩ := Kd.S_get HO_4.out [] x47_3 p331 (by first | exact q331 | exact da | (have e_ := (Kd.S_reads' HO_4.out).1; omega))
             obtain ⟨ve331_0, rfl, ge331_0⟩ := hMe331
             have hv331_0 := hcc331 0 _ rfl
             rw [Nat.add_zero, show ((Kd.slice 3 (Kd.int .i64))).sz = 1 from rfl, Nat.mul_one] at hv331_0
             replace hv331_0 := Option.some.inj (hv331_0.symm.trans hx331_0)
             rw [hv331_0] at ge331_0
             have HL331_0 := am (show Kd.R (Kd.int .i64) 3 _ _ _ _ (rd_L1 x4_3 x47_3) from ge331_0)
             clear hv331_0 ge331_0
             have HX331_0 := am hx331_0
             clear hcc331 hce331
             have HR331_0 := am hi331_0
             have HC331_0 := am hl331_0
             clear hi331_0 hl331_0
             replace p331 := eq_true p331
             replace q331 := eq_true q331
             go_wp2_with (first | ((with_reducible refine gate_callee (f := 47) rfl ?_); refine goesL_ (some 58) rfl rfl Try.func47 (by kernel_rfl) rfl #[.slice A330_0 (rd_L1 l0_0 x47_3).length c330_0, .slice A331_0 (rd_L1 x4_3 x47_3).length c331_0] rfl (by (try simp only [List.map_toArray, List.map_cons, List.map_nil]); first | done | rfl | (simp only [List.length_drop, List.length_take]; rfl)) ?_; (with_reducible refine (impl_LineForced.calls k3 _ _ (rd_L1 l0_0 x47_3) _ _ (rd_L1 x4_3 x47_3) t332 true _ ?side1 ?side2 ?side3 ?side4 A26.out).mono ?_); (case side1 => repeat (first | exact (Kd.C_below HR330_0.out HB.out) | (with_reducible refine Kd.C_alloc ?_ _) | (with_reducible refine Kd.C_drewN ?_ _) | (with_reducible refine Kd.C_drew ?_))); (case side2 => exact HC330_0.out); (case side3 => exact Kd.cv HR331_0.out); (case side4 => exact HC331_0.out); rintro e w37 ⟨v334, rfl, ho0, hb⟩; refine ⟨_, rfl, ?_⟩; have n0_ := am (Kd.S_elder' (by (with_reducible repeat (first | apply Kd.S_alloc | apply Kd.S_drewN | apply Kd.S_drew)); exact HO_4.out) (Kd.R_base ho0) hb); have n1_ := am (Kd.R_elder' (Kd.rv HL331_0.out) (Kd.R_base ho0) hb); have n2_ := am (Kd.R_lower (Kd.R_new' ho0 (Kd.R_lt (Kd.rv HL331_0.out))) (below_size (by repeat (first | (with_reducible first | exact HB.out | apply below_alloc | apply pw_below_drewN | apply below_drew1 | refine below_set ?_ GE316.out) | exact HB.out)))); have n3_ := am (blk_below (g := gb316) (o := .cells #[.slice (some ad330) l0_0.length c0_0, .slice A0_1 l0_1.length c0_1] 25 (0, 0)) (bv BK316.out) hb); have n4_ := am (Kd.C_below (Kd.cv HR331_0.out) hb); have n5_ := am (pw_cell_below hb HX331_0.out); have n6_ := am (below_step (by repeat (first | (with_reducible first | exact HB.out | apply below_alloc | apply pw_below_drewN | apply below_drew1 | refine below_set ?_ GE316.out) | exact HB.out)) hb); clear HO_4 HL331_0 BK316 HR331_0 HX331_0 HB; revert n0_ n1_ n2_ n3_ n4_ n5_ n6_; intro HO_4 HL331_0 HO335 BK316 HR331_0 HX331_0 HB; (try clear hb); (try clear hb2); (try clear hk); (try clear hi); (try clear ho0); have p337 : 0 ≤ (x47_3 : Int) := da; have q337 : x47_3 < (x4_3.length : Int) := da; obtain ⟨ad337, A337_0, c337_0, e337, hx337_0, hl337_0, hi337_0⟩ := at_L1 (Kd.S_reads' HO_4.out).2.2 x47_3 p337 q337; obtain rfl : ad331 = ad337 := (by injection e337); obtain ⟨ce337, hce337, hMe337, hcc337⟩ := Kd.S_get HO_4.out [] x47_3 p337 (by first | exact q337 | exact da | (have e_ := (Kd.S_reads' HO_4.out).1; omega)); obtain ⟨ve337_0, rfl, ge337_0⟩ := hMe337; have hv337_0 := hcc337 0 _ rfl; rw [Nat.add_zero, show ((Kd.slice 3 (Kd.int .i64))).sz = 1 from rfl, Nat.mul_one] at hv337_0; replace hv337_0 := Option.some.inj (hv337_0.symm.trans hx337_0); rw [hv337_0] at ge337_0; have HL337_0 := am (show Kd.R (Kd.int .i64) 3 _ _ _ _ (rd_L1 x4_3 x47_3) from ge337_0); clear hv337_0 ge337_0; have HX337_0 := am hx337_0; clear hcc337 hce337; have HR337_0 := am hi337_0; have HC337_0 := am hl337_0; clear hi337_0 hl337_0; replace p337 := eq_true p337; replace q337 := eq_true q337; obtain ⟨Ao38, co38, eo38⟩ := Kd.R_slice HO335.out; subst eo38) | (go_at_call 48; (with_reducible refine (slices_Equal_int_int.calls k3 _ _ t332 _ _ (rd_L1 x4_3 x47_3) t338 _ ?side1 ?side2 ?side3 ?side4 A34.out).mono ?_); (case side1 => exact Kd.cv (Kd.R_reads' HO335.out).2.2); (case side2 => exact (Kd.R_reads' HO335.out).2.1); (case side3 => exact Kd.cv HR337_0.out); (case side4 => exact HC337_0.out); rintro e w' ⟨rfl, ⟨nd, rfl⟩⟩; (try (rw [drewN_self w37]; generalize hq_ : World.drewN w37 _ = w37; have n0_ : Aside0 (Kd.R (Kd.int .i64) 3 w37 w.heap.size (fun k_ => some k_ ≠ (.slice Ao38 t332.length co38 : Value).ownBlock ∧ some k_ ≠ (.slice (some ad331) x4_3.length co36 : Value).ownBlock) (.slice A331_0 (rd_L1 x4_3 x47_3).length c331_0) (rd_L1 x4_3 x47_3)) := ⟨by rw [← hq_]; exact (by (with_reducible repeat (first | apply Kd.R_alloc | apply Kd.R_drewN | apply Kd.R_drew)); first | exact Kd.R_mono HL331_0.out (fun _ hk => by first | exact ⟨hk.2, hk.1.2⟩ | exact ⟨hk.1, hk.2⟩ | exact ⟨hk.2, hk.1⟩ | exact ⟨hk.1.2, hk.2⟩ | exact ⟨hk.1.1, hk.2⟩ | exact ⟨hk.1, hk.2.2⟩) | exact Kd.R_mono (Kd.R_apart' HL331_0.out (Kd.S_typed HO_4.out) (by decide)) (fun _ hk => by first | exact ⟨hk.1, hk.2⟩ | exact ⟨hk.2, hk.1⟩ | exact ⟨hk.1.1, hk.2⟩ | exact ⟨hk.1.2, hk.2⟩ | exact ⟨hk.2, hk.1.1⟩ | exact ⟨hk.2, hk.1.2⟩ | exact hk))⟩; have n1_ : Aside0 (Kd.R (Kd.int .i64) 3 w37 w.heap.size (fun k_ => some k_ ≠ (.slice Ao38 t332.length co38 : Value).ownBlock ∧ some k_ ≠ (.slice (some ad331) x4_3.length co36 : Value).ownBlock) (.slice A337_0 (rd_L1 x4_3 x47_3).length c337_0) (rd_L1 x4_3 x47_3)) := ⟨by rw [← hq_]; exact (by (with_reducible repeat (first | apply Kd.R_alloc | apply Kd.R_drewN | apply Kd.R_drew)); first | exact Kd.R_mono HL337_0.out (fun _ hk => by first | exact ⟨hk.1.2, hk.2⟩ | exact ⟨hk.1, hk.2⟩ | exact ⟨hk.2, hk.1⟩ | exact ⟨hk.2, hk.1.2⟩ | exact ⟨hk.1.1, hk.2⟩ | exact ⟨hk.1, hk.2.2⟩) | exact Kd.R_mono (Kd.R_apart' HL337_0.out (Kd.S_typed HO_4.out) (by decide)) (fun _ hk => by first | exact ⟨hk.1, hk.2⟩ | exact ⟨hk.2, hk.1⟩ | exact ⟨hk.1.1, hk.2⟩ | exact ⟨hk.1.2, hk.2⟩ | exact ⟨hk.2, hk.1.1⟩ | exact ⟨hk.2, hk.1.2⟩ | exact hk))⟩; have n2_ : Aside0 (Kd.R (Kd.int .i64) 3 w37 w.heap.size (fun k_ => some k_ ≠ (.slice A331_0 (rd_L1 x4_3 x47_3).length c331_0 : Value).ownBlock) (.slice Ao38 t332.length co38) t332) := ⟨by rw [← hq_]; exact (by (with_reducible repeat (first | apply Kd.R_alloc | apply Kd.R_drewN | apply Kd.R_drew)); exact Kd.R_mono HO335.out (fun _ hk => by first | exact hk.2 | exact hk | exact hk.1))⟩; have n3_ : Aside0 (Kd.S (Kd.slice 3 (Kd.int .i64)) 36 w37 w.heap.size (fun k_ => some k_ ≠ (.slice Ao38 t332.length co38 : Value).ownBlock) (.slice (some ad331) x4_3.length co36) x4_3) := ⟨by rw [← hq_]; exact (by (with_reducible repeat (first | apply Kd.S_alloc | apply Kd.S_drewN | apply Kd.S_drew)); exact Kd.S_mono HO_4.out (fun _ hk => by first | exact hk.2 | exact hk | exact hk.1))⟩; have n4_ : Aside0 (w37.heap[gb316]? = some (.cells #[.slice (some ad330) l0_0.length c0_0, .slice A0_1 l0_1.length c0_1] 25 (0, 0))) := ⟨by rw [← hq_]; exact (bv BK316.out)⟩; have n5_ : Aside0 (Below w.heap.size w w37) := ⟨by rw [← hq_]; exact (by repeat (first | (with_reducible first | exact HB.out | apply below_alloc | apply pw_below_drewN | apply below_drew1 | refine below_set ?_ GE316.out) | exact HB.out))⟩; have n6_ : Aside0 (Kd.C (Kd.int .i64) w37 A331_0 (rd_L1 x4_3 x47_3).length (rd_L1 x4_3 x47_3)) := ⟨by rw [← hq_]; exact (Kd.cv HR331_0.out)⟩; have n7_ : Aside0 (Kd.C (Kd.int .i64) w37 A337_0 (rd_L1 x4_3 x47_3).length (rd_L1 x4_3 x47_3)) := ⟨by rw [← hq_]; exact (Kd.cv HR337_0.out)⟩; clear HL331_0 HL337_0 HO335 HO_4 BK316 HB HR331_0 HR337_0 hq_; revert n0_ n1_ n2_ n3_ n4_ n5_ n6_ n7_; intro HL331_0 HL337_0 HO335 HO_4 BK316 HB HR331_0 HR337_0)); have p35 : 0 ≤ (x47_3 : Int) := da; have q35 : (x47_3 : Int) < ((x4_3.length : Int) : Int) := da; obtain ⟨go35, co35, eo35, gb35, gl35, cl35, HG35⟩ := Kd.S_form HO_4.out (by omega); (first | cases eo35 | (injection eo35 with ea_ en_ ec_; (first | subst ea_ | (injection ea_ with ea_; subst ea_)); subst ec_; clear en_)); have GB35 := am gb35; have GG35 := am HG35; clear gb35 gl35 HG35; (first | simp only [add_plain] at hx331_0 | skip); (first | simp only [add_plain] at hx337_0 | skip); obtain ⟨_, ce35, hcl35, hM35, hcc35, hfr35, _, _⟩ := Kd.S_elem HO_4.out [] (x47_3 : Int) p35 q35; obtain ⟨ve35_0, rfl, ge35_0⟩ := hM35; have hx35_0 := hcc35 0 _ rfl; have hf35_0 := hfr35 0; (try simp only [show ((Kd.slice 3 (Kd.int .i64))).sz = 1 from rfl, Nat.mul_one, Nat.add_zero] at hx35_0); (try simp only [show ((Kd.slice 3 (Kd.int .i64))).sz = 1 from rfl, Nat.mul_one, Nat.add_zero] at hf35_0); clear hcl35 hcc35 hfr35; replace p35 := eq_true p35; replace q35 := eq_true q35; have n_ := am (Kd.S_mono (ok' := (fun k_ => some k_ ≠ (.slice Ao38 t332.length co38 : Value).ownBlock)) HO_4.out (fun k_ hk => by first | exact hk.2 | exact hk | exact hk.1)); clear HO_4; have HO_4 := n_; clear n_; have HX39 := am (show Kd.S (Kd.slice 3 (Kd.int .i64)) 36 w37 w.heap.size (fun k_ => ((fun _ => True)) k_ ∧ ¬ ((fun k_ => some k_ = (.slice Ao38 t332.length co38 : Value).ownBlock)) k_) (.slice (some ⟨go35, 0, none⟩) x4_3.length co36) x4_3 from (by (with_reducible repeat (first | apply Kd.S_alloc | apply Kd.S_drewN | apply Kd.S_drew)); exact Kd.S_mono HO_4.out (fun k_ hk => ⟨trivial, fun e_ => hk e_⟩))); obtain ⟨oki39, ce39, hcl39, hM39, hcc39, hfr39, hoki39, hH39⟩ := Kd.S_elem HX39.out [] (x47_3 : Int) (da) (by have h_ : (x47_3 : Int) < ((x4_3.length : Int) : Int) := da; first | exact h_ | (have e_ := (Kd.S_reads' HO_4.out).1; omega) | simpa using h_); obtain ⟨ve39_0, rfl, ge39_0⟩ := hM39; have HP39 := Kd.S_seg hH39 (da) (by have h_ : (x47_3 : Int) < ((x4_3.length : Int) : Int) := da; first | exact h_ | (have e_ := (Kd.S_reads' HO_4.out).1; omega) | simpa using h_) (seg := [.slice Ao38 t332.length co38]) (j := 0) (show 1 ≤ 1 from by decide) (x' := t332) (Kd.M_row (Kd.R_mono (Kd.R_tight rfl (Kd.R_mono (ok' := fun k_ => ((fun _ => True)) k_ ∧ k_ ≠ go35) (Kd.R_apart' (HO335.out) (Kd.S_typed HO_4.out) (by decide)) (fun k_ hk => ⟨trivial, fun e_ => (hk.2) (by rw [e_]; rfl)⟩))) (fun _ h_ => Or.inr (h_)))) (fun _ hk => hk) (fun k_ hk_ => ((Kd.R_mono (ok' := fun k_ => ((fun _ => True)) k_ ∧ k_ ≠ go35) (Kd.R_apart' (HO335.out) (Kd.S_typed HO_4.out) (by decide)) (fun k_ hk => ⟨trivial, fun e_ => (hk.2) (by rw [e_]; rfl)⟩))).1 k_ hk_.symm); have hx39_0 := hcc39 0 _ rfl; (try simp only [show ((Kd.slice 3 (Kd.int .i64))).sz = 1 from rfl, Nat.mul_one, Nat.add_zero] at hx39_0); have hf39_0 := hfr39 0; (try simp only [show ((Kd.slice 3 (Kd.int .i64))).sz = 1 from rfl, Nat.mul_one, Nat.add_zero] at hf39_0); clear hcl39 hcc39 hfr39 hoki39 hH39; (try simp only [show ((Kd.slice 3 (Kd.int .i64))).sz = 1 from rfl, Nat.mul_one, Nat.add_zero] at HP39)) | ((with_reducible refine gate_store (t := 36) (p := 76) rfl ?_); refine store_event (t := 36) (p := 76) (v := ?vo_w40) (w1 := (w37.setCell ⟨go35, (x47_3 : Int).toNat, none⟩ (.slice Ao38 t332.length co38))) ?hg ?ho ?hn ?hr ?_; (case ho => rfl); (case hg => rfl); (case hn => rfl); (case hr => first | (go_simp; done) | (go_simp; rfl) | (obtain ⟨A_, c_, e_⟩ := Kd.R_slice HO335.out; rw [e_]; go_simp; done) | (obtain ⟨A_, c_, e_⟩ := Kd.R_slice HO335.out; rw [e_]; go_simp; rfl)); intro w40 hw; have hg : w37.grownBy w40 (some go35) := (by rw [hw]; exact HP39.2); have hp_ : Kd.S (Kd.slice 3 (Kd.int .i64)) 36 w40 w.heap.size (fun _ => True) (.slice (some ⟨go35, 0, none⟩) x4_3.length co36) y339 := (by rw [hw, Ny339.out]; exact HP39.1); clear HP39; have n0_ := am (hp_); have n1_ := am (blk_grown (g := gb316) (o := .cells #[.slice (some ad330) l0_0.length c0_0, .slice A0_1 l0_1.length c0_1] 25 (0, 0)) (bv BK316.out) hg (Kd.S_ne HO_4.out BK316.out (by decide))); have n2_ := am (Kd.R_after (v := (.slice (some ⟨go35, 0, none⟩) x4_3.length co36)) (v1 := (.slice (some ⟨go35, 0, none⟩) x4_3.length co36)) (ok := (fun k_ => some k_ ≠ (.slice Ao38 t332.length co38 : Value).ownBlock)) (by (with_reducible repeat (first | apply Kd.R_alloc | apply Kd.R_drewN | apply Kd.R_drew)); exact Kd.R_mono HL331_0.out (fun _ hk => by first | exact ⟨hk.2, hk.1.2⟩ | exact ⟨hk.1, hk.2⟩ | exact ⟨hk.2, hk.1⟩ | exact ⟨hk.1.2, hk.2⟩ | exact ⟨hk.1.1, hk.2⟩ | exact ⟨hk.1, hk.2.2⟩)) hg (.inl rfl)); have n3_ := am (Kd.R_after (v := (.slice (some ⟨go35, 0, none⟩) x4_3.length co36)) (v1 := (.slice (some ⟨go35, 0, none⟩) x4_3.length co36)) (ok := (fun k_ => some k_ ≠ (.slice Ao38 t332.length co38 : Value).ownBlock)) (by (with_reducible repeat (first | apply Kd.R_alloc | apply Kd.R_drewN | apply Kd.R_drew)); exact Kd.R_mono HL337_0.out (fun _ hk => by first | exact ⟨hk.1.2, hk.2⟩ | exact ⟨hk.1, hk.2⟩ | exact ⟨hk.2, hk.1⟩ | exact ⟨hk.2, hk.1.2⟩ | exact ⟨hk.1.1, hk.2⟩ | exact ⟨hk.1, hk.2.2⟩)) hg (.inl rfl)); have n4_ := am ((by rw [hw]; exact below_set (HB.out) GB35.out : Below w.heap.size w w40)); clear HO_4 BK316 HL331_0 HL337_0 HB HO335; revert n0_ n1_ n2_ n3_ n4_; intro HO_4 BK316 HL331_0 HL337_0 HB; clear hg hw hp_))
             go_roundg k3
             case measure => have := HK1.out; have := HK2.out; have := HK3.out; omega
             case rel => exact ⟨(y339), (!t338), (wrap64 (x47_3 + 1)), rfl, rfl, H', ⟨by have := HK1.out; have := HK2.out; have := HK3.out; omega⟩, ⟨by (with_reducible repeat (first | apply Kd.S_alloc | apply Kd.S_drewN | apply Kd.S_drew)); exact HO_4.out⟩, ⟨bv BK316.out⟩, ⟨by repeat (first | (with_reducible first | exact HB.out | apply below_alloc | apply pw_below_drewN | apply below_drew1 | refine below_set ?_ GE316.out) | exact HB.out)⟩⟩
           ·replace c27 := Bool.eq_false_iff.mpr c27
            subst c27
            rw [if_neg (show ¬ (false = true) by decide)] at H
            simp only [Option.some.injEq, Prod.mk.injEq] at H
            obtain ⟨rfl, rfl⟩ := H
            have p330 : 0 ≤ (x47_3 : Int) := da
            have q330 : x47_3 < (l0_0.length : Int) := da
            obtain ⟨ad330, A330_0, c330_0, e330, hx330_0, hl330_0, hi330_0⟩ := at_L1 HR0_0.out x47_3 p330 q330
            cases e330
            replace hx330_0 := (HB.out.cell (World.block_lt_of_cell? w _ hx330_0)).trans hx330_0
            have HR330_0 := am hi330_0
            have HC330_0 := am hl330_0
            clear hi330_0 hl330_0
            replace p330 := eq_true p330
            replace q330 := eq_true q330
            obtain ⟨Ao41, co41, eo41⟩ := Kd.S_slice HO_4.out
            subst eo41
            have p331 : 0 ≤ (x47_3 : Int) := da
            have q331 : x47_3 < (x4_3.length : Int) := da
            obtain ⟨ad331, A331_0, c331_0, e331, hx331_0, hl331_0, hi331_0⟩ := at_L1 (Kd.S_reads' HO_4.out).2.2 x47_3 p331 q331
            cases e331
            obtain ⟨ce331, hce331, hMe331, hcc331⟩ := Kd.S_get HO_4.out [] x47_3 p331 (by first | exact q331 | exact da | (have e_ := (Kd.S_reads' HO_4.out).1; omega))
            obtain ⟨ve331_0, rfl, ge331_0⟩ := hMe331
            have hv331_0 := hcc331 0 _ rfl
            rw [Nat.add_zero, show ((Kd.slice 3 (Kd.int .i64))).sz = 1 from rfl, Nat.mul_one] at hv331_0
            replace hv331_0 := Option.some.inj (hv331_0.symm.trans hx331_0)
            rw [hv331_0] at ge331_0
            have HL331_0 := am (show Kd.R (Kd.int .i64) 3 _ _ _ _ (rd_L1 x4_3 x47_3) from ge331_0)
            clear hv331_0 ge331_0
            have HX331_0 := am hx331_0
            clear hcc331 hce331
            have HR331_0 := am hi331_0
            have HC331_0 := am hl331_0
            clear hi331_0 hl331_0
            replace p331 := eq_true p331
            replace q331 := eq_true q331
            go_wp2_with (first | ((with_reducible refine gate_callee (f := 47) rfl ?_); refine goesL_ (some 58) rfl rfl Try.func47 (by kernel_rfl) rfl #[.slice A330_0 (rd_L1 l0_0 x47_3).length c330_0, .slice A331_0 (rd_L1 x4_3 x47_3).length c331_0] rfl (by (try simp only [List.map_toArray, List.map_cons, List.map_nil]); first | done | rfl | (simp only [List.length_drop, List.length_take]; rfl)) ?_; (with_reducible refine (impl_LineForced.calls k3 _ _ (rd_L1 l0_0 x47_3) _ _ (rd_L1 x4_3 x47_3) t332 false _ ?side1 ?side2 ?side3 ?side4 A26.out).mono ?_); (case side1 => repeat (first | exact (Kd.C_below HR330_0.out HB.out) | (with_reducible refine Kd.C_alloc ?_ _) | (with_reducible refine Kd.C_drewN ?_ _) | (with_reducible refine Kd.C_drew ?_))); (case side2 => exact HC330_0.out); (case side3 => exact Kd.cv HR331_0.out); (case side4 => exact HC331_0.out); rintro e w42 ⟨v334, rfl, ho0, hb⟩; refine ⟨_, rfl, ?_⟩; have n0_ := am (Kd.S_elder' (by (with_reducible repeat (first | apply Kd.S_alloc | apply Kd.S_drewN | apply Kd.S_drew)); exact HO_4.out) (Kd.R_base ho0) hb); have n1_ := am (Kd.R_elder' (Kd.rv HL331_0.out) (Kd.R_base ho0) hb); have n2_ := am (Kd.R_lower (Kd.R_new' ho0 (Kd.R_lt (Kd.rv HL331_0.out))) (below_size (by repeat (first | (with_reducible first | exact HB.out | apply below_alloc | apply pw_below_drewN | apply below_drew1 | refine below_set ?_ GE316.out) | exact HB.out)))); have n3_ := am (blk_below (g := gb316) (o := .cells #[.slice (some ad330) l0_0.length c0_0, .slice A0_1 l0_1.length c0_1] 25 (0, 0)) (bv BK316.out) hb); have n4_ := am (Kd.C_below (Kd.cv HR331_0.out) hb); have n5_ := am (pw_cell_below hb HX331_0.out); have n6_ := am (below_step (by repeat (first | (with_reducible first | exact HB.out | apply below_alloc | apply pw_below_drewN | apply below_drew1 | refine below_set ?_ GE316.out) | exact HB.out)) hb); clear HO_4 HL331_0 BK316 HR331_0 HX331_0 HB; revert n0_ n1_ n2_ n3_ n4_ n5_ n6_; intro HO_4 HL331_0 HO335 BK316 HR331_0 HX331_0 HB; (try clear hb); (try clear hb2); (try clear hk); (try clear hi); (try clear ho0)))
            go_ret2
            exact ⟨_, rfl, by first | exact Kd.S_nil _ _ _ _ _ | exact Kd.N_nil _ _ _ _ _ | exact Kd.V_nil _ _ _ _ _ | exact Kd.Q_nil _ _ _ _ _ | exact Kd.R_nil _ _ _ _ _, by repeat (first | (with_reducible first | exact HB.out | apply below_alloc | apply pw_below_drewN | apply below_drew1 | refine below_set ?_ GE316.out) | exact HB.out)⟩
          ·rw [if_neg c22] at H
           have c22b0 : decide (x47_3 < (l0_0.length : Int)) = false := decide_eq_false c22
           clear c22
           have H' := am H
           clear H
           have hcz43_0 : wr.cell? ⟨gb316, 0, none⟩ = some (.slice A0_0 l0_0.length c0_0) := (blk_cell BK316.out 0).trans rfl
           have hcz43_1 : wr.cell? ⟨gb316, 1, none⟩ = some (.slice A0_1 l0_1.length c0_1) := (blk_cell BK316.out 1).trans rfl
           have hfz43_0 := blk_frozen BK316.out 0
           have hfz43_1 := blk_frozen BK316.out 1
           go_wp2
           go_loopg [6, 81] k3 (fun kq v6 v81 w' => ∃ (x4_4 : List (List Int)) (x6_4 : Bool) (x81_4 : Int), v6 = .bool x6_4 ∧ v81 = .int .i64 x81_4 ∧ Aside0 (impl_PictureLines.l4 kq x4_4 x6_4 l0_1 (l0_1.length : Int) x81_4 l0_0 l0_1 = some (r1, r2)) ∧ Aside0 (kq ≤ k3) ∧ Aside0 (Kd.S (Kd.slice 3 (Kd.int .i64)) 36 w' w.heap.size (fun _ => True) u4 x4_4) ∧ Aside0 (w'.heap[gb316]? = some (.cells #[(.slice A0_0 l0_0.length c0_0), (.slice A0_1 l0_1.length c0_1)] 25 (0, 0))) ∧ Aside0 (Below w.heap.size w w'))
           case atStart => exact ⟨(x4_3), (x6_3), (0), rfl, rfl, H', ⟨Nat.le_refl _⟩, ⟨by (with_reducible repeat (first | apply Kd.S_alloc | apply Kd.S_drewN | apply Kd.S_drew)); exact HO_4.out⟩, ⟨bv BK316.out⟩, ⟨by repeat (first | (with_reducible first | exact HB.out | apply below_alloc | apply pw_below_drewN | apply below_drew1 | refine below_set ?_ GE316.out) | exact HB.out)⟩⟩
           case round =>
            clear H'
            clear c22b0 hcz43_0 hcz43_1 hfz43_0 hfz43_1
            obtain ⟨x4_4, x6_4, x81_4, rfl, rfl, HA, HK4, HO_4, BK316, HB⟩ := hrel
            cases gk with
            | zero => exact absurd HA.out (by simp [impl_PictureLines.l4])
            | succ k4 =>
             have H := HA.out
             clear HA
             simp only [impl_PictureLines.l4] at H
             by_cases c44 : x81_4 < (l0_1.length : Int)
             ·rw [if_pos c44] at H
              have c44b0 : decide (x81_4 < (l0_1.length : Int)) = true := decide_eq_true c44
              clear c44
              have q_ := ifs H
              clear H
              obtain ⟨c45, H⟩ := q_
              have c45b0 : decide (0 ≤ x81_4) = true := decide_eq_true c45
              clear c45
              have q_ := ifs H
              clear H
              obtain ⟨c46, H⟩ := q_
              have c46b0 : decide (x81_4 < (l0_1.length : Int)) = true := decide_eq_true c46
              clear c46
              obtain ⟨y341, hy341⟩ : ∃ y_ : List Int, y_ = (([] : List Int)) := ⟨_, rfl⟩
              replace H : (impl_PictureLines.l5 k4 x4_4 x6_4 x81_4 (rd_L1 l0_1 x81_4) y341 l0_1 (l0_1.length : Int) x81_4 (x4_4.length : Int) 0 l0_0 l0_1) = some (r1, r2) := by first | (rw [hy341]; with_reducible exact H) | (have H2_ := (Option.bind_some _ _).symm.trans H; rw [hy341]; with_reducible exact H2_) | (have H2_ := (Option.bind_some _ _).symm.trans H; with_reducible exact H2_) | with_reducible exact H | (rw [hy341]; exact H) | exact H
              have Ny341 := am hy341
              clear hy341
              have H' := am H
              clear H
              have p340 : 0 ≤ (x81_4 : Int) := da
              have q340 : x81_4 < (l0_1.length : Int) := da
              obtain ⟨ad340, A340_0, c340_0, e340, hx340_0, hl340_0, hi340_0⟩ := at_L1 HR0_1.out x81_4 p340 q340
              cases e340
              replace hx340_0 := (HB.out.cell (World.block_lt_of_cell? w _ hx340_0)).trans hx340_0
              have HR340_0 := am hi340_0
              have HC340_0 := am hl340_0
              clear hi340_0 hl340_0
              replace p340 := eq_true p340
              replace q340 := eq_true q340
              go_wp2_with (first | ((with_reducible refine gate_dst (N := 86) rfl ?_); refine Kd.R_lit (Kd.int .i64) _ 3 ?hg (N := 86) ?hd (xs := ([] : List Int)) (inner := []) (ok := fun _ => True) (okp := fun _ => True) ?hr ?hp (fun _ hk => hk) trivial (Below.refl _ _) (Nat.le_refl _) (by simp) ?_; (case hd => rfl); (case hg => rfl); (case hr => first | (go_simp; done) | (go_simp; rfl)); (case hp => exact (Reps.none _ _)); intro v342 w47 ho48 hb hg_ hnew_; clear hg_ hnew_; (first | rw [← Ny341.out] at ho48 | (simp only [Int.reduceToNat] at ho48; rw [← Ny341.out] at ho48)); have n0_ := am (Kd.S_elder' (by (with_reducible repeat (first | apply Kd.S_alloc | apply Kd.S_drewN | apply Kd.S_drew)); exact HO_4.out) (Kd.R_base ho48) hb); have n1_ := am (Kd.R_lower ho48 (below_size (by repeat (first | (with_reducible first | exact HB.out | apply below_alloc | apply pw_below_drewN | apply below_drew1 | refine below_set ?_ GE316.out) | exact HB.out)))); have n2_ := am (blk_below (g := gb316) (o := .cells #[.slice A0_0 l0_0.length c0_0, .slice (some ad340) l0_1.length c0_1] 25 (0, 0)) (bv BK316.out) hb); have n3_ := am (below_step (by repeat (first | (with_reducible first | exact HB.out | apply below_alloc | apply pw_below_drewN | apply below_drew1 | refine below_set ?_ GE316.out) | exact HB.out)) hb); clear HO_4 BK316 HB; revert n0_ n1_ n2_ n3_; intro HO_4 HO343 BK316 HB; clear hb ho48; obtain ⟨Ao49, co49, eo49⟩ := Kd.S_slice HO_4.out; subst eo49))
              go_loopg [13, 89] k4 (fun kq v13 v89 w' => ∃ (x13_5 : List Int) (x89_5 : Int), v89 = .int .i64 x89_5 ∧ Aside0 (impl_PictureLines.l5 kq x4_4 x6_4 x81_4 (rd_L1 l0_1 x81_4) x13_5 l0_1 (l0_1.length : Int) x81_4 (x4_4.length : Int) x89_5 l0_0 l0_1 = some (r1, r2)) ∧ Aside0 (kq ≤ k4) ∧ Aside0 (Kd.S (Kd.slice 3 (Kd.int .i64)) 36 w' w.heap.size (fun k_ => some k_ ≠ (v13 : Value).ownBlock) (.slice Ao49 x4_4.length co49) x4_4) ∧ Aside0 (Kd.R (Kd.int .i64) 3 w' w.heap.size (fun _ => True) v13 x13_5) ∧ Aside0 (w'.heap[gb316]? = some (.cells #[(.slice A0_0 l0_0.length c0_0), (.slice (some ad340) l0_1.length c0_1)] 25 (0, 0))) ∧ Aside0 (Below w.heap.size w w'))
              case atStart => exact ⟨(y341), (0), rfl, H', ⟨Nat.le_refl _⟩, ⟨by (with_reducible repeat (first | apply Kd.S_alloc | apply Kd.S_drewN | apply Kd.S_drew)); exact Kd.S_mono HO_4.out (fun _ hk => by first | exact hk.2 | exact hk | exact hk.1)⟩, ⟨Kd.rv HO343.out⟩, ⟨bv BK316.out⟩, ⟨by repeat (first | (with_reducible first | exact HB.out | apply below_alloc | apply pw_below_drewN | apply below_drew1 | refine below_set ?_ GE316.out) | exact HB.out)⟩⟩
              case round =>
               clear H'
               clear c44b0 c45b0 c46b0 hx340_0 p340 q340
               obtain ⟨x13_5, x89_5, rfl, HA, HK5, HO_4, HO_13, BK316, HB⟩ := hrel
               cases gk with
               | zero => exact absurd HA.out (by simp [impl_PictureLines.l5])
               | succ k5 =>
                have H := HA.out
                clear HA
                simp only [impl_PictureLines.l5] at H
                by_cases c50 : x89_5 < (x4_4.length : Int)
                ·rw [if_pos c50] at H
                 have c50b0 : decide (x89_5 < (x4_4.length : Int)) = true := decide_eq_true c50
                 clear c50
                 have q_ := ifs H
                 clear H
                 obtain ⟨c51, H⟩ := q_
                 have c51b0 : decide (0 ≤ x89_5) = true := decide_eq_true c51
                 clear c51
                 have q_ := ifs H
                 clear H
                 obtain ⟨c52, H⟩ := q_
                 have c52b0 : decide (x89_5 < (x4_4.length : Int)) = true := decide_eq_true c52
                 clear c52
                 have q_ := ifs H
                 clear H
                 obtain ⟨c53, H⟩ := q_
                 have c53b0 : decide (0 ≤ x81_4) = true := decide_eq_true c53
                 clear c53
                 have q_ := ifs H
                 clear H
                 obtain ⟨c54, H⟩ := q_
                 have c54b0 : decide (x81_4 < ((rd_L1 x4_4 x89_5).length : Int)) = true := decide_eq_true c54
                 clear c54
                 have q_ := ifs H
                 clear H
                 obtain ⟨c55, H⟩ := q_
                 have LMc55 := am c55
                 clear c55
                 obtain ⟨y346, hy346⟩ : ∃ y_ : List Int, y_ = (x13_5 ++ [rd (rd_L1 x4_4 x89_5) x81_4]) := ⟨_, rfl⟩
                 replace H : (impl_PictureLines.l5 k5 x4_4 x6_4 x81_4 (rd_L1 l0_1 x81_4) y346 l0_1 (l0_1.length : Int) x81_4 (x4_4.length : Int) (wrap64 (x89_5 + 1)) l0_0 l0_1) = some (r1, r2) := by first | (rw [hy346]; with_reducible exact H) | (have H2_ := (Option.bind_some _ _).symm.trans H; rw [hy346]; with_reducible exact H2_) | (have H2_ := (Option.bind_some _ _).symm.trans H; with_reducible exact H2_) | with_reducible exact H | (rw [hy346]; exact H) | exact H
                 have Ny346 := am hy346
                 clear hy346
                 have H' := am H
                 clear H
                 have p344 : 0 ≤ (x89_5 : Int) := da
                 have q344 : x89_5 < (x4_4.length : Int) := da
                 obtain ⟨ad344, A344_0, c344_0, e344, hx344_0, hl344_0, hi344_0⟩ := at_L1 (Kd.S_reads' HO_4.out).2.2 x89_5 p344 q344
                 cases e344
                 obtain ⟨ce344, hce344, hMe344, hcc344⟩ := Kd.S_get HO_4.out [] x89_5 p344 (by first | exact q344 | exact da | (have e_ := (Kd.S_reads' HO_4.out).1; omega))
                 obtain ⟨ve344_0, rfl, ge344_0⟩ := hMe344
                 have hv344_0 := hcc344 0 _ rfl
                 rw [Nat.add_zero, show ((Kd.slice 3 (Kd.int .i64))).sz = 1 from rfl, Nat.mul_one] at hv344_0
                 replace hv344_0 := Option.some.inj (hv344_0.symm.trans hx344_0)
                 rw [hv344_0] at ge344_0
                 have HL344_0 := am (show Kd.R (Kd.int .i64) 3 _ _ _ _ (rd_L1 x4_4 x89_5) from ge344_0)
                 clear hv344_0 ge344_0
                 have HX344_0 := am hx344_0
                 clear hcc344 hce344
                 have HR344_0 := am hi344_0
                 have HC344_0 := am hl344_0
                 clear hi344_0 hl344_0
                 replace p344 := eq_true p344
                 replace q344 := eq_true q344
                 have p345 : 0 ≤ (x81_4 : Int) := da
                 have q345 : x81_4 < ((rd_L1 x4_4 x89_5).length : Int) := da
                 obtain ⟨ad345, e345, hx345_0⟩ := Kd.at_int (Kd.cv HR344_0.out) x81_4 p345 q345
                 cases e345
                 replace p345 := eq_true p345
                 replace q345 := eq_true q345
                 go_wp2_with (first | ((with_reducible refine gate_builtin (b := .append) (xs := #[.tmp 92, .tmp 100]) rfl ?_); at_builtin; refine Kd.R_append (Kd.int .i64) (w0 := w) w.heap.size rfl (.tmp 92) (.tmp 100) 36 3 (.int .i64 0) 8 rfl Try.underlying36 info3 rfl (by decide) (by omega) u13 x13_5 (rd (rd_L1 x4_4 x89_5) x81_4) [.int .i64 (rd (rd_L1 x4_4 x89_5) x81_4)] (fun _ => True) (fun _ => False) rfl rfl ?aP (fun _ hk => hk.elim) ?aF ?aO ?aB ?aS ?aL ?_; (case aP => exact rfl); (case aB => exact (by repeat (first | (with_reducible first | exact HB.out | apply below_alloc | apply pw_below_drewN | apply below_drew1 | refine below_set ?_ GE316.out) | exact HB.out))); (case aF => exact (fun _ _ => trivial)); (case aO => exact (Kd.rv HO_13.out)); (case aS => exact (below_size (by repeat (first | (with_reducible first | exact HB.out | apply below_alloc | apply pw_below_drewN | apply below_drew1 | refine below_set ?_ GE316.out) | exact HB.out)))); (case aL => have := LMc55.out; omega); intro v347 w56 ho hb hg hat; rw [← Ny346.out] at ho; have n0_ := am (Kd.S_after (ok := (fun _ => True)) (by (with_reducible repeat (first | apply Kd.S_alloc | apply Kd.S_drewN | apply Kd.S_drew)); exact Kd.S_mono HO_4.out (fun _ hk => ⟨trivial, hk⟩)) hg hat); have n1_ := am (blk_grown (g := gb316) (o := .cells #[.slice A0_0 l0_0.length c0_0, .slice (some ad340) l0_1.length c0_1] 25 (0, 0)) (bv BK316.out) hg (Kd.R_ne HO_13.out BK316.out (by decide))); have n2_ := am (Kd.R_after (ok := (fun k_ => some k_ ≠ (.slice (some ad344) x4_4.length co49 : Value).ownBlock)) (by (with_reducible repeat (first | apply Kd.R_alloc | apply Kd.R_drewN | apply Kd.R_drew)); first | exact Kd.R_mono HL344_0.out (fun _ hk => by first | exact ⟨hk.2, hk.1⟩ | exact ⟨hk.1, hk.2⟩ | exact ⟨hk.2, hk.1.2⟩ | exact ⟨hk.1.2, hk.2⟩ | exact ⟨hk.1.1, hk.2⟩ | exact ⟨hk.1, hk.2.2⟩) | exact Kd.R_mono (Kd.R_apart' HL344_0.out (Kd.S_typed HO_4.out) (by decide)) (fun _ hk => by first | exact ⟨hk.1, hk.2⟩ | exact ⟨hk.2, hk.1⟩ | exact ⟨hk.1.1, hk.2⟩ | exact ⟨hk.1.2, hk.2⟩ | exact ⟨hk.2, hk.1.1⟩ | exact ⟨hk.2, hk.1.2⟩ | exact hk)) hg hat); have n3_ := am (hb); have n4_ := am (ho); clear HO_4 BK316 HL344_0 HB HO_13; revert n0_ n1_ n2_ n3_ n4_; intro HO_4 BK316 HL344_0 HB HO348; clear ho hb hg hat))
                 go_roundg k5
                 case measure => have := HK1.out; have := HK2.out; have := HK3.out; have := HK4.out; have := HK5.out; omega
                 case rel => exact ⟨(y346), (wrap64 (x89_5 + 1)), rfl, H', ⟨by have := HK1.out; have := HK2.out; have := HK3.out; have := HK4.out; have := HK5.out; omega⟩, ⟨by (with_reducible repeat (first | apply Kd.S_alloc | apply Kd.S_drewN | apply Kd.S_drew)); exact Kd.S_mono HO_4.out (fun _ hk => by first | exact hk.2 | exact hk | exact hk.1)⟩, ⟨Kd.rv HO348.out⟩, ⟨bv BK316.out⟩, ⟨by repeat (first | (with_reducible first | exact HB.out | apply below_alloc | apply pw_below_drewN | apply below_drew1 | refine below_set ?_ GE316.out) | exact HB.out)⟩⟩
                ·rw [if_neg c50] at H
                 have c50b0 : decide (x89_5 < (x4_4.length : Int)) = false := decide_eq_false c50
                 clear c50
                 replace H := Option.bind_eq_some_iff.mp H
                 obtain ⟨⟨t349, t350⟩, A570, H⟩ := H
                 replace H : (if t350 = true then (impl_PictureLines.l6 k5 x4_4 x6_4 x81_4 l0_1 (l0_1.length : Int) x81_4 t349 (t349.length : Int) 0 l0_0 l0_1) else (some (([] : List (List Int)), false))) = some (r1, r2) := H
                 have A57 := am A570
                 clear A570
                 by_cases c58 : t350 = true
                 ·subst c58
                  rw [if_pos rfl] at H
                  have H' := am H
                  clear H
                  obtain ⟨Ao59, co59, eo59⟩ := Kd.R_slice HO_13.out
                  subst eo59
                  go_wp2_with (first | ((with_reducible refine gate_callee (f := 47) rfl ?_); refine goesL_ (some 106) rfl rfl Try.func47 (by kernel_rfl) rfl #[.slice A340_0 (rd_L1 l0_1 x81_4).length c340_0, .slice Ao59 x13_5.length co59] rfl (by (try simp only [List.map_toArray, List.map_cons, List.map_nil]); first | done | rfl | (simp only [List.length_drop, List.length_take]; rfl)) ?_; (with_reducible refine (impl_LineForced.calls k5 _ _ (rd_L1 l0_1 x81_4) _ _ x13_5 t349 true _ ?side1 ?side2 ?side3 ?side4 A57.out).mono ?_); (case side1 => repeat (first | exact (Kd.C_below HR340_0.out HB.out) | (with_reducible refine Kd.C_alloc ?_ _) | (with_reducible refine Kd.C_drewN ?_ _) | (with_reducible refine Kd.C_drew ?_))); (case side2 => exact HC340_0.out); (case side3 => exact Kd.cv (Kd.R_reads' HO_13.out).2.2); (case side4 => exact (Kd.R_reads' HO_13.out).2.1); rintro e w60 ⟨v351, rfl, ho0, hb⟩; refine ⟨_, rfl, ?_⟩; have n0_ := am (Kd.S_elder' (by (with_reducible repeat (first | apply Kd.S_alloc | apply Kd.S_drewN | apply Kd.S_drew)); exact HO_4.out) (Kd.R_base ho0) hb); have n1_ := am (Kd.R_elder' (Kd.rv HO_13.out) (Kd.R_base ho0) hb); have n2_ := am (Kd.R_lower (Kd.R_new' ho0 (Kd.R_lt (Kd.rv HO_13.out))) (below_size (by repeat (first | (with_reducible first | exact HB.out | apply below_alloc | apply pw_below_drewN | apply below_drew1 | refine below_set ?_ GE316.out) | exact HB.out)))); have n3_ := am (blk_below (g := gb316) (o := .cells #[.slice A0_0 l0_0.length c0_0, .slice (some ad340) l0_1.length c0_1] 25 (0, 0)) (bv BK316.out) hb); have n4_ := am (below_step (by repeat (first | (with_reducible first | exact HB.out | apply below_alloc | apply pw_below_drewN | apply below_drew1 | refine below_set ?_ GE316.out) | exact HB.out)) hb); clear HO_4 HO_13 BK316 HB; revert n0_ n1_ n2_ n3_ n4_; intro HO_4 HO_13 HO352 BK316 HB; (try clear hb); (try clear hb2); (try clear hk); (try clear hi); (try clear ho0); obtain ⟨Ao61, co61, eo61⟩ := Kd.R_slice HO352.out; subst eo61))
                  go_loopg [6, 113] k5 (fun kq v6 v113 w' => ∃ (x4_6 : List (List Int)) (x6_6 : Bool) (x111_6 : List Int) (x113_6 : Int), v6 = .bool x6_6 ∧ v113 = .int .i64 x113_6 ∧ Aside0 (impl_PictureLines.l6 kq x4_6 x6_6 x81_4 l0_1 (l0_1.length : Int) x81_4 x111_6 (t349.length : Int) x113_6 l0_0 l0_1 = some (r1, r2)) ∧ Aside0 (kq ≤ k5) ∧ Aside0 (Kd.S (Kd.slice 3 (Kd.int .i64)) 36 w' w.heap.size (fun k_ => some k_ ≠ ((.slice Ao61 t349.length co61) : Value).ownBlock) (.slice Ao49 x4_4.length co49) x4_6) ∧ Aside0 (Kd.R (Kd.int .i64) 3 w' w.heap.size (fun _ => True) (.slice Ao61 t349.length co61) x111_6) ∧ Aside0 (w'.heap[gb316]? = some (.cells #[(.slice A0_0 l0_0.length c0_0), (.slice (some ad340) l0_1.length c0_1)] 25 (0, 0))) ∧ Aside0 (Below w.heap.size w w'))
                  case atStart => exact ⟨(x4_4), (x6_4), (t349), (0), rfl, rfl, H', ⟨Nat.le_refl _⟩, ⟨by (with_reducible repeat (first | apply Kd.S_alloc | apply Kd.S_drewN | apply Kd.S_drew)); exact Kd.S_mono HO_4.out (fun _ hk => by first | exact hk.2 | exact hk | exact hk.1)⟩, ⟨by (with_reducible repeat (first | apply Kd.R_alloc | apply Kd.R_drewN | apply Kd.R_drew)); exact Kd.R_mono HO352.out (fun _ hk => trivial)⟩, ⟨bv BK316.out⟩, ⟨by repeat (first | (with_reducible first | exact HB.out | apply below_alloc | apply pw_below_drewN | apply below_drew1 | refine below_set ?_ GE316.out) | exact HB.out)⟩⟩
                  case round =>
                   clear H'
                   clear c50b0
                   obtain ⟨x4_6, x6_6, x111_6, x113_6, rfl, rfl, HA, HK6, HO_4, HO_111, BK316, HB⟩ := hrel
                   have hl4_6 := (Kd.S_reads' HO_4.out).1
                   rw [hl4_6] at HO_4
                   (try simp only [hl4_6])
                   (try simp only [hl4_6] at BK316)
                   (try simp only [hl4_6] at HO_111)
                   have hl111_6 := (Kd.R_reads' HO_111.out).1
                   rw [hl111_6] at HO_111
                   (try simp only [hl111_6])
                   (try simp only [hl111_6] at BK316)
                   (try simp only [hl111_6] at HO_4)
                   cases gk with
                   | zero => exact absurd HA.out (by simp [impl_PictureLines.l6])
                   | succ k6 =>
                    have H := HA.out
                    clear HA
                    simp only [impl_PictureLines.l6] at H
                    by_cases c62 : x113_6 < (t349.length : Int)
                    ·rw [if_pos c62] at H
                     have c62b0 : decide (x113_6 < (t349.length : Int)) = true := decide_eq_true c62
                     (try (have c62b0_x111_6 : decide (x113_6 < (x111_6.length : Int)) = true := by first | (rw [← hl111_6]; exact c62b0) | (rw [hl111_6]; exact c62b0)))
                     clear c62
                     have q_ := ifs H
                     clear H
                     obtain ⟨c63, H⟩ := q_
                     have c63b0 : decide (0 ≤ x113_6) = true := decide_eq_true c63
                     clear c63
                     have q_ := ifs H
                     clear H
                     obtain ⟨c64, H⟩ := q_
                     have c64b0 : decide (x113_6 < (x111_6.length : Int)) = true := decide_eq_true c64
                     clear c64
                     by_cases c65 : x6_6 = true
                     ·subst c65
                      rw [if_pos rfl] at H
                      have q_ := ifs H
                      clear H
                      obtain ⟨c66, H⟩ := q_
                      have c66b0 : decide (x113_6 < (x4_6.length : Int)) = true := decide_eq_true c66
                      clear c66
                      have q_ := ifs H
                      clear H
                      obtain ⟨c67, H⟩ := q_
                      have c67b0 : decide (0 ≤ x81_4) = true := decide_eq_true c67
                      clear c67
                      have q_ := ifs H
                      clear H
                      obtain ⟨c68, H⟩ := q_
                      have c68b0 : decide (x81_4 < ((rd_L1 x4_6 x113_6).length : Int)) = true := decide_eq_true c68
                      clear c68
                      obtain ⟨y355, hy355⟩ : ∃ y_ : List Int, y_ = ((rd_L1 x4_6 x113_6).set (x81_4 : Int).toNat (rd x111_6 x113_6)) := ⟨_, rfl⟩
                      replace H : (impl_PictureLines.l6 k6 (x4_6.set (x113_6 : Int).toNat y355) true x81_4 l0_1 (l0_1.length : Int) x81_4 x111_6 (t349.length : Int) (wrap64 (x113_6 + 1)) l0_0 l0_1) = some (r1, r2) := by first | (rw [hy355]; with_reducible exact H) | (have H2_ := (Option.bind_some _ _).symm.trans H; rw [hy355]; with_reducible exact H2_) | (have H2_ := (Option.bind_some _ _).symm.trans H; with_reducible exact H2_) | with_reducible exact H | (rw [hy355]; exact H) | exact H
                      have Ny355 := am hy355
                      clear hy355
                      obtain ⟨y357, hy357⟩ : ∃ y_ : List (List Int), y_ = (x4_6.set (x113_6 : Int).toNat y355) := ⟨_, rfl⟩
                      replace H : (impl_PictureLines.l6 k6 y357 true x81_4 l0_1 (l0_1.length : Int) x81_4 x111_6 (t349.length : Int) (wrap64 (x113_6 + 1)) l0_0 l0_1) = some (r1, r2) := by first | (rw [hy357]; with_reducible exact H) | (have H2_ := (Option.bind_some _ _).symm.trans H; rw [hy357]; with_reducible exact H2_) | (have H2_ := (Option.bind_some _ _).symm.trans H; with_reducible exact H2_) | with_reducible exact H | (rw [hy357]; exact H) | exact H
                      have Ny357 := am hy357
                      clear hy357
                      have H' := am H
                      clear H
                      have p353 : 0 ≤ (x113_6 : Int) := da
                      have q353 : x113_6 < (x111_6.length : Int) := da
                      obtain ⟨ad353, e353, hx353_0⟩ := Kd.at_int (Kd.R_reads' HO_111.out).2.2 x113_6 p353 q353
                      cases e353
                      replace p353 := eq_true p353
                      replace q353 := eq_true q353
                      have p354 : 0 ≤ (x113_6 : Int) := da
                      have q354 : x113_6 < (x4_6.length : Int) := da
                      obtain ⟨ad354, A354_0, c354_0, e354, hx354_0, hl354_0, hi354_0⟩ := at_L1 (Kd.S_reads' HO_4.out).2.2 x113_6 p354 q354
                      cases e354
                      obtain ⟨ce354, hce354, hMe354, hcc354⟩ := Kd.S_get HO_4.out [] x113_6 p354 (by first | exact q354 | exact da | (have e_ := (Kd.S_reads' HO_4.out).1; omega))
                      obtain ⟨ve354_0, rfl, ge354_0⟩ := hMe354
                      have hv354_0 := hcc354 0 _ rfl
                      rw [Nat.add_zero, show ((Kd.slice 3 (Kd.int .i64))).sz = 1 from rfl, Nat.mul_one] at hv354_0
                      replace hv354_0 := Option.some.inj (hv354_0.symm.trans hx354_0)
                      rw [hv354_0] at ge354_0
                      have HL354_0 := am (show Kd.R (Kd.int .i64) 3 _ _ _ _ (rd_L1 x4_6 x113_6) from ge354_0)
                      clear hv354_0 ge354_0
                      have HX354_0 := am hx354_0
                      clear hcc354 hce354
                      have HR354_0 := am hi354_0
                      have HC354_0 := am hl354_0
                      clear hi354_0 hl354_0
                      replace p354 := eq_true p354
                      replace q354 := eq_true q354
                      have p69 : 0 ≤ (x81_4 : Int) := da
                      have q69 : (x81_4 : Int) < (((rd_L1 x4_6 x113_6).length : Int) : Int) := da
                      obtain ⟨go69, co69, eo69, gb69, gl69, cl69, HG69⟩ := Kd.R_form HL354_0.out (by omega)
                      (first | cases eo69 | (injection eo69 with ea_ en_ ec_; (first | subst ea_ | (injection ea_ with ea_; subst ea_)); subst ec_; clear en_))
                      have GB69 := am gb69
                      have GG69 := am HG69
                      clear gb69 gl69 HG69
                      obtain ⟨hx69_0, hf69_0⟩ := Kd.R_celln 0 HL354_0.out (x81_4 : Int) p69 q69
                      replace p69 := eq_true p69
                      replace q69 := eq_true q69
                      have hq70 : (x113_6 : Int) < (x4_6.length : Int) := (by have h_ : (x113_6 : Int) < ((x4_6.length : Int) : Int) := da; first | exact h_ | (have e_ := (Kd.S_reads' HO_4.out).1; omega) | simpa only [List.length_set, List.length_set] using h_)
                      obtain ⟨oki70, ce70, hcl70, hM70, hcc70, hok70, hbk70⟩ := Kd.S_borrow HO_4.out [] (x113_6 : Int) (da) hq70
                      obtain ⟨ve70_0, rfl, ge70_0⟩ := hM70
                      have hv70 := hcc70 0 _ rfl
                      rw [Nat.add_zero, show ((Kd.slice 3 (Kd.int .i64))).sz = 1 from rfl, Nat.mul_one] at hv70
                      replace hv70 := Option.some.inj (hv70.symm.trans HX354_0.out)
                      subst hv70
                      clear hcc70 hcl70
                      replace ge70_0 := (show Kd.R (Kd.int .i64) 3 _ _ _ _ (rd_L1 x4_6 x113_6) from ge70_0)
                      have HP70 := Kd.R_putg ge70_0 (x81_4 : Int) (rd x111_6 x113_6)
                      go_wp2_with (first | ((with_reducible refine gate_store (t := 3) (p := 136) rfl ?_); refine store_event (t := 3) (p := 136) (v := ?vo_w71) (w1 := (wr.setCell ⟨go69, (x81_4 : Int).toNat, none⟩ (.int .i64 (rd x111_6 x113_6)))) ?hg ?ho ?hn ?hr ?_; (case ho => rfl); (case hg => rfl); (case hn => rfl); (case hr => first | (go_simp; done) | (go_simp; rfl)); intro w71 hw; have hg : wr.grownBy w71 (some go69) := (by rw [hw]; exact HP70.2); have hz_ : Kd.R (Kd.int .i64) 3 w71 w.heap.size oki70 (.slice (some ⟨go69, 0, none⟩) (rd_L1 x4_6 x113_6).length c354_0) y355 := (by rw [hw, Ny355.out]; exact HP70.1); have hp_ : Kd.S (Kd.slice 3 (Kd.int .i64)) 36 w71 w.heap.size (fun k_ => some k_ ≠ (.slice (some ad353) x111_6.length co61 : Value).ownBlock) (.slice (some ad354) x4_6.length co49) y357 := (by rw [Ny357.out]; exact hbk70 hg (fun k_ e_ => by injection e_ with e_; subst e_; exact ge70_0.1 _ rfl) (Kd.M_row hz_)); have hm_ := Kd.R_mono hz_ hok70; clear HP70 hbk70; have n0_ := am (hp_); have n1_ := am (Kd.R_grown1 (Kd.rv HO_111.out) rfl hg ((HL354_0.out.1 _ rfl).1)); have n2_ := am (blk_grown (g := gb316) (o := .cells #[.slice A0_0 l0_0.length c0_0, .slice (some ad340) l0_1.length c0_1] 25 (0, 0)) (bv BK316.out) hg (Kd.R_ne HL354_0.out BK316.out (by decide))); have n3_ := am ((by rw [hw]; exact below_set (HB.out) GB69.out : Below w.heap.size w w71)); have n4_ := am (hm_); have n5_ := am ((Kd.R_reads' hm_).2.1); clear HO_4 HO_111 BK316 HB HL354_0; revert n0_ n1_ n2_ n3_ n4_ n5_; intro HO_4 HO_111 BK316 HB HL364 HC356; clear hg hw hp_ hz_ hm_ hok70))
                      (try simp only [← hl4_6, ← hl111_6])
                      go_roundg k6
                      case measure => have := HK1.out; have := HK2.out; have := HK3.out; have := HK4.out; have := HK5.out; have := HK6.out; omega
                      case rel => exact ⟨(y357), (true), (x111_6), (wrap64 (x113_6 + 1)), rfl, rfl, H', ⟨by have := HK1.out; have := HK2.out; have := HK3.out; have := HK4.out; have := HK5.out; have := HK6.out; omega⟩, ⟨by (try simp only [hl4_6]); (try simp only [hl111_6]); (with_reducible repeat (first | apply Kd.S_alloc | apply Kd.S_drewN | apply Kd.S_drew)); exact HO_4.out⟩, ⟨by (try simp only [hl4_6]); (try simp only [hl111_6]); (with_reducible repeat (first | apply Kd.R_alloc | apply Kd.R_drewN | apply Kd.R_drew)); exact HO_111.out⟩, ⟨by (try simp only [hl4_6]); (try simp only [hl111_6]); (with_reducible repeat (first | refine blk_drewN ?_ _ | refine blk_drew ?_ | refine blk_alloc ?_ _)); exact BK316.out⟩, ⟨by repeat (first | (with_reducible first | exact HB.out | apply below_alloc | apply pw_below_drewN | apply below_drew1 | refine below_set ?_ GE316.out) | exact HB.out)⟩⟩
                     ·replace c65 := Bool.eq_false_iff.mpr c65
                      subst c65
                      rw [if_neg (show ¬ (false = true) by decide)] at H
                      have q_ := ifs H
                      clear H
                      obtain ⟨c72, H⟩ := q_
                      have c72b0 : decide (x113_6 < (x4_6.length : Int)) = true := decide_eq_true c72
                      clear c72
                      have q_ := ifs H
                      clear H
                      obtain ⟨c73, H⟩ := q_
                      have c73b0 : decide (0 ≤ x81_4) = true := decide_eq_true c73
                      clear c73
                      have q_ := ifs H
                      clear H
                      obtain ⟨c74, H⟩ := q_
                      have c74b0 : decide (x81_4 < ((rd_L1 x4_6 x113_6).length : Int)) = true := decide_eq_true c74
                      clear c74
                      obtain ⟨y361, hy361⟩ : ∃ y_ : List Int, y_ = ((rd_L1 x4_6 x113_6).set (x81_4 : Int).toNat (rd x111_6 x113_6)) := ⟨_, rfl⟩
                      replace H : (impl_PictureLines.l6 k6 (x4_6.set (x113_6 : Int).toNat y361) ((rd (rd_L1 x4_6 x113_6) x81_4) != (rd x111_6 x113_6)) x81_4 l0_1 (l0_1.length : Int) x81_4 x111_6 (t349.length : Int) (wrap64 (x113_6 + 1)) l0_0 l0_1) = some (r1, r2) := by first | (rw [hy361]; with_reducible exact H) | (have H2_ := (Option.bind_some _ _).symm.trans H; rw [hy361]; with_reducible exact H2_) | (have H2_ := (Option.bind_some _ _).symm.trans H; with_reducible exact H2_) | with_reducible exact H | (rw [hy361]; exact H) | exact H
                      have Ny361 := am hy361
                      clear hy361
                      obtain ⟨y363, hy363⟩ : ∃ y_ : List (List Int), y_ = (x4_6.set (x113_6 : Int).toNat y361) := ⟨_, rfl⟩
                      replace H : (impl_PictureLines.l6 k6 y363 ((rd (rd_L1 x4_6 x113_6) x81_4) != (rd x111_6 x113_6)) x81_4 l0_1 (l0_1.length : Int) x81_4 x111_6 (t349.length : Int) (wrap64 (x113_6 + 1)) l0_0 l0_1) = some (r1, r2) := by first | (rw [hy363]; with_reducible exact H) | (have H2_ := (Option.bind_some _ _).symm.trans H; rw [hy363]; with_reducible exact H2_) | (have H2_ := (Option.bind_some _ _).symm.trans H; with_reducible exact H2_) | with_reducible exact H | (rw [hy363]; exact H) | exact H
                      have Ny363 := am hy363
                      clear hy363
                      have H' := am H
                      clear H
                      have p353 : 0 ≤ (x113_6 : Int) := da
                      have q353 : x113_6 < (x111_6.length : Int) := da
                      obtain ⟨ad353, e353, hx353_0⟩ := Kd.at_int (Kd.R_reads' HO_111.out).2.2 x113_6 p353 q353
                      cases e353
                      replace p353 := eq_true p353
                      replace q353 := eq_true q353
                      have p358 : 0 ≤ (x113_6 : Int) := da
                      have q358 : x113_6 < (x4_6.length : Int) := da
                      obtain ⟨ad358, A358_0, c358_0, e358, hx358_0, hl358_0, hi358_0⟩ := at_L1 (Kd.S_reads' HO_4.out).2.2 x113_6 p358 q358
                      cases e358
                      obtain ⟨ce358, hce358, hMe358, hcc358⟩ := Kd.S_get HO_4.out [] x113_6 p358 (by first | exact q358 | exact da | (have e_ := (Kd.S_reads' HO_4.out).1; omega))
                      obtain ⟨ve358_0, rfl, ge358_0⟩ := hMe358
                      have hv358_0 := hcc358 0 _ rfl
                      rw [Nat.add_zero, show ((Kd.slice 3 (Kd.int .i64))).sz = 1 from rfl, Nat.mul_one] at hv358_0
                      replace hv358_0 := Option.some.inj (hv358_0.symm.trans hx358_0)
                      rw [hv358_0] at ge358_0
                      have HL358_0 := am (show Kd.R (Kd.int .i64) 3 _ _ _ _ (rd_L1 x4_6 x113_6) from ge358_0)
                      clear hv358_0 ge358_0
                      have HX358_0 := am hx358_0
                      clear hcc358 hce358
                      have HR358_0 := am hi358_0
                      have HC358_0 := am hl358_0
                      clear hi358_0 hl358_0
                      replace p358 := eq_true p358
                      replace q358 := eq_true q358
                      have p359 : 0 ≤ (x81_4 : Int) := da
                      have q359 : x81_4 < ((rd_L1 x4_6 x113_6).length : Int) := da
                      obtain ⟨ad359, e359, hx359_0⟩ := Kd.at_int (Kd.cv HR358_0.out) x81_4 p359 q359
                      cases e359
                      replace p359 := eq_true p359
                      replace q359 := eq_true q359
                      have p360 : 0 ≤ (x113_6 : Int) := da
                      have q360 : x113_6 < (x4_6.length : Int) := da
                      obtain ⟨ad360, A360_0, c360_0, e360, hx360_0, hl360_0, hi360_0⟩ := at_L1 (Kd.S_reads' HO_4.out).2.2 x113_6 p360 q360
                      obtain rfl : ad358 = ad360 := (by injection e360)
                      obtain ⟨ce360, hce360, hMe360, hcc360⟩ := Kd.S_get HO_4.out [] x113_6 p360 (by first | exact q360 | exact da | (have e_ := (Kd.S_reads' HO_4.out).1; omega))
                      obtain ⟨ve360_0, rfl, ge360_0⟩ := hMe360
                      have hv360_0 := hcc360 0 _ rfl
                      rw [Nat.add_zero, show ((Kd.slice 3 (Kd.int .i64))).sz = 1 from rfl, Nat.mul_one] at hv360_0
                      replace hv360_0 := Option.some.inj (hv360_0.symm.trans hx360_0)
                      rw [hv360_0] at ge360_0
                      have HL360_0 := am (show Kd.R (Kd.int .i64) 3 _ _ _ _ (rd_L1 x4_6 x113_6) from ge360_0)
                      clear hv360_0 ge360_0
                      have HX360_0 := am hx360_0
                      clear hcc360 hce360
                      have HR360_0 := am hi360_0
                      have HC360_0 := am hl360_0
                      clear hi360_0 hl360_0
                      replace p360 := eq_true p360
                      replace q360 := eq_true q360
                      have ea_ := Option.some.inj (hx358_0.symm.trans hx360_0)
                      injection ea_ with ea_ en_ ec_
                      subst ea_
                      subst ec_
                      clear en_
                      have p75 : 0 ≤ (x81_4 : Int) := da
                      have q75 : (x81_4 : Int) < (((rd_L1 x4_6 x113_6).length : Int) : Int) := da
                      obtain ⟨go75, co75, eo75, gb75, gl75, cl75, HG75⟩ := Kd.R_form HL360_0.out (by omega)
                      (first | cases eo75 | (injection eo75 with ea_ en_ ec_; (first | subst ea_ | (injection ea_ with ea_; subst ea_)); subst ec_; clear en_))
                      have GB75 := am gb75
                      have GG75 := am HG75
                      clear gb75 gl75 HG75
                      (first | simp only [add_plain] at hx359_0 | skip)
                      obtain ⟨hx75_0, hf75_0⟩ := Kd.R_celln 0 HL360_0.out (x81_4 : Int) p75 q75
                      replace p75 := eq_true p75
                      replace q75 := eq_true q75
                      have hq76 : (x113_6 : Int) < (x4_6.length : Int) := (by have h_ : (x113_6 : Int) < ((x4_6.length : Int) : Int) := da; first | exact h_ | (have e_ := (Kd.S_reads' HO_4.out).1; omega) | simpa only [List.length_set, List.length_set] using h_)
                      obtain ⟨oki76, ce76, hcl76, hM76, hcc76, hok76, hbk76⟩ := Kd.S_borrow HO_4.out [] (x113_6 : Int) (da) hq76
                      obtain ⟨ve76_0, rfl, ge76_0⟩ := hM76
                      have hv76 := hcc76 0 _ rfl
                      rw [Nat.add_zero, show ((Kd.slice 3 (Kd.int .i64))).sz = 1 from rfl, Nat.mul_one] at hv76
                      replace hv76 := Option.some.inj (hv76.symm.trans HX360_0.out)
                      subst hv76
                      clear hcc76 hcl76
                      replace ge76_0 := (show Kd.R (Kd.int .i64) 3 _ _ _ _ (rd_L1 x4_6 x113_6) from ge76_0)
                      have HP76 := Kd.R_putg ge76_0 (x81_4 : Int) (rd x111_6 x113_6)
                      go_wp2_with (first | ((with_reducible refine gate_store (t := 3) (p := 136) rfl ?_); refine store_event (t := 3) (p := 136) (v := ?vo_w77) (w1 := (wr.setCell ⟨go75, (x81_4 : Int).toNat, none⟩ (.int .i64 (rd x111_6 x113_6)))) ?hg ?ho ?hn ?hr ?_; (case ho => rfl); (case hg => rfl); (case hn => rfl); (case hr => first | (go_simp; done) | (go_simp; rfl)); intro w77 hw; have hg : wr.grownBy w77 (some go75) := (by rw [hw]; exact HP76.2); have hz_ : Kd.R (Kd.int .i64) 3 w77 w.heap.size oki76 (.slice (some ⟨go75, 0, none⟩) (rd_L1 x4_6 x113_6).length c358_0) y361 := (by rw [hw, Ny361.out]; exact HP76.1); have hp_ : Kd.S (Kd.slice 3 (Kd.int .i64)) 36 w77 w.heap.size (fun k_ => some k_ ≠ (.slice (some ad353) x111_6.length co61 : Value).ownBlock) (.slice (some ad358) x4_6.length co49) y363 := (by rw [Ny363.out]; exact hbk76 hg (fun k_ e_ => by injection e_ with e_; subst e_; exact ge76_0.1 _ rfl) (Kd.M_row hz_)); have hm_ := Kd.R_mono hz_ hok76; clear HP76 hbk76; have n0_ := am (hp_); have n1_ := am (Kd.R_grown1 (Kd.rv HO_111.out) rfl hg ((HL360_0.out.1 _ rfl).1)); have n2_ := am (blk_grown (g := gb316) (o := .cells #[.slice A0_0 l0_0.length c0_0, .slice (some ad340) l0_1.length c0_1] 25 (0, 0)) (bv BK316.out) hg (Kd.R_ne HL360_0.out BK316.out (by decide))); have n3_ := am ((by rw [hw]; exact below_set (HB.out) GB75.out : Below w.heap.size w w77)); have n4_ := am (hm_); have n5_ := am ((Kd.R_reads' hm_).2.1); clear HO_4 HO_111 BK316 HB HL358_0 HL360_0; revert n0_ n1_ n2_ n3_ n4_ n5_; intro HO_4 HO_111 BK316 HB HL365 HC362; clear hg hw hp_ hz_ hm_ hok76))
                      (try simp only [← hl4_6, ← hl111_6])
                      go_roundg k6
                      case measure => have := HK1.out; have := HK2.out; have := HK3.out; have := HK4.out; have := HK5.out; have := HK6.out; omega
                      case rel => exact ⟨(y363), (((rd (rd_L1 x4_6 x113_6) x81_4) != (rd x111_6 x113_6))), (x111_6), (wrap64 (x113_6 + 1)), rfl, rfl, H', ⟨by have := HK1.out; have := HK2.out; have := HK3.out; have := HK4.out; have := HK5.out; have := HK6.out; omega⟩, ⟨by (try simp only [hl4_6]); (try simp only [hl111_6]); (with_reducible repeat (first | apply Kd.S_alloc | apply Kd.S_drewN | apply Kd.S_drew)); exact HO_4.out⟩, ⟨by (try simp only [hl4_6]); (try simp only [hl111_6]); (with_reducible repeat (first | apply Kd.R_alloc | apply Kd.R_drewN | apply Kd.R_drew)); exact HO_111.out⟩, ⟨by (try simp only [hl4_6]); (try simp only [hl111_6]); (with_reducible repeat (first | refine blk_drewN ?_ _ | refine blk_drew ?_ | refine blk_alloc ?_ _)); exact BK316.out⟩, ⟨by repeat (first | (with_reducible first | exact HB.out | apply below_alloc | apply pw_below_drewN | apply below_drew1 | refine below_set ?_ GE316.out) | exact HB.out)⟩⟩
                    ·rw [if_neg c62] at H
                     have c62b0 : decide (x113_6 < (t349.length : Int)) = false := decide_eq_false c62
                     (try (have c62b0_x111_6 : decide (x113_6 < (x111_6.length : Int)) = false := by first | (rw [← hl111_6]; exact c62b0) | (rw [hl111_6]; exact c62b0)))
                     clear c62
                     have H' := am H
                     clear H
                     go_wp2
                     (try simp only [← hl4_6, ← hl111_6])
                     go_roundg k6
                     case measure => have := HK1.out; have := HK2.out; have := HK3.out; have := HK4.out; have := HK5.out; have := HK6.out; omega
                     case rel => exact ⟨(x4_6), (x6_6), (wrap64 (x81_4 + 1)), rfl, rfl, H', ⟨by have := HK1.out; have := HK2.out; have := HK3.out; have := HK4.out; have := HK5.out; have := HK6.out; omega⟩, ⟨by (try simp only [hl4_6]); (try simp only [hl111_6]); (with_reducible repeat (first | apply Kd.S_alloc | apply Kd.S_drewN | apply Kd.S_drew)); exact Kd.S_mono HO_4.out (fun _ hk => trivial)⟩, ⟨by (try simp only [hl4_6]); (try simp only [hl111_6]); (with_reducible repeat (first | refine blk_drewN ?_ _ | refine blk_drew ?_ | refine blk_alloc ?_ _)); exact BK316.out⟩, ⟨by repeat (first | (with_reducible first | exact HB.out | apply below_alloc | apply pw_below_drewN | apply below_drew1 | refine below_set ?_ GE316.out) | exact HB.out)⟩⟩
                 ·replace c58 := Bool.eq_false_iff.mpr c58
                  subst c58
                  rw [if_neg (show ¬ (false = true) by decide)] at H
                  simp only [Option.some.injEq, Prod.mk.injEq] at H
                  obtain ⟨rfl, rfl⟩ := H
                  obtain ⟨Ao78, co78, eo78⟩ := Kd.R_slice HO_13.out
                  subst eo78
                  go_wp2_with (first | ((with_reducible refine gate_callee (f := 47) rfl ?_); refine goesL_ (some 106) rfl rfl Try.func47 (by kernel_rfl) rfl #[.slice A340_0 (rd_L1 l0_1 x81_4).length c340_0, .slice Ao78 x13_5.length co78] rfl (by (try simp only [List.map_toArray, List.map_cons, List.map_nil]); first | done | rfl | (simp only [List.length_drop, List.length_take]; rfl)) ?_; (with_reducible refine (impl_LineForced.calls k5 _ _ (rd_L1 l0_1 x81_4) _ _ x13_5 t349 false _ ?side1 ?side2 ?side3 ?side4 A57.out).mono ?_); (case side1 => repeat (first | exact (Kd.C_below HR340_0.out HB.out) | (with_reducible refine Kd.C_alloc ?_ _) | (with_reducible refine Kd.C_drewN ?_ _) | (with_reducible refine Kd.C_drew ?_))); (case side2 => exact HC340_0.out); (case side3 => exact Kd.cv (Kd.R_reads' HO_13.out).2.2); (case side4 => exact (Kd.R_reads' HO_13.out).2.1); rintro e w79 ⟨v351, rfl, ho0, hb⟩; refine ⟨_, rfl, ?_⟩; have n0_ := am (Kd.S_elder' (by (with_reducible repeat (first | apply Kd.S_alloc | apply Kd.S_drewN | apply Kd.S_drew)); exact HO_4.out) (Kd.R_base ho0) hb); have n1_ := am (Kd.R_elder' (Kd.rv HO_13.out) (Kd.R_base ho0) hb); have n2_ := am (Kd.R_lower (Kd.R_new' ho0 (Kd.R_lt (Kd.rv HO_13.out))) (below_size (by repeat (first | (with_reducible first | exact HB.out | apply below_alloc | apply pw_below_drewN | apply below_drew1 | refine below_set ?_ GE316.out) | exact HB.out)))); have n3_ := am (blk_below (g := gb316) (o := .cells #[.slice A0_0 l0_0.length c0_0, .slice (some ad340) l0_1.length c0_1] 25 (0, 0)) (bv BK316.out) hb); have n4_ := am (below_step (by repeat (first | (with_reducible first | exact HB.out | apply below_alloc | apply pw_below_drewN | apply below_drew1 | refine below_set ?_ GE316.out) | exact HB.out)) hb); clear HO_4 HO_13 BK316 HB; revert n0_ n1_ n2_ n3_ n4_; intro HO_4 HO_13 HO352 BK316 HB; (try clear hb); (try clear hb2); (try clear hk); (try clear hi); (try clear ho0)))
                  go_ret2
                  exact ⟨_, rfl, by first | exact Kd.S_nil _ _ _ _ _ | exact Kd.N_nil _ _ _ _ _ | exact Kd.V_nil _ _ _ _ _ | exact Kd.Q_nil _ _ _ _ _ | exact Kd.R_nil _ _ _ _ _, by repeat (first | (with_reducible first | exact HB.out | apply below_alloc | apply pw_below_drewN | apply below_drew1 | refine below_set ?_ GE316.out) | exact HB.out)⟩
             ·rw [if_neg c44] at H
              have c44b0 : decide (x81_4 < (l0_1.length : Int)) = false := decide_eq_false c44
              clear c44
              have H' := am H
              clear H
              go_wp2
              go_roundg k4
              case measure => have := HK1.out; have := HK2.out; have := HK3.out; have := HK4.out; omega
              case rel => exact ⟨(x4_4), (x6_4), rfl, H', ⟨by have := HK1.out; have := HK2.out; have := HK3.out; have := HK4.out; omega⟩, ⟨by (with_reducible repeat (first | apply Kd.S_alloc | apply Kd.S_drewN | apply Kd.S_drew)); exact HO_4.out⟩, ⟨bv BK316.out⟩, ⟨by repeat (first | (with_reducible first | exact HB.out | apply below_alloc | apply pw_below_drewN | apply below_drew1 | refine below_set ?_ GE316.out) | exact HB.out)⟩⟩
       ·replace c20 := Bool.eq_false_iff.mpr c20
        subst c20
        rw [if_neg (show ¬ (false = true) by decide)] at H
        simp only [Option.some.injEq, Prod.mk.injEq] at H
        obtain ⟨rfl, rfl⟩ := H
        go_wp2
        go_ret2
        exact ⟨_, rfl, by (with_reducible repeat (first | apply Kd.S_alloc | apply Kd.S_drewN | apply Kd.S_drew)); exact HO_4.out, by repeat (first | (with_reducible first | exact HB.out | apply below_alloc | apply pw_below_drewN | apply below_drew1 | refine below_set ?_ GE316.out) | exact HB.out)⟩
 ·replace c3 := Bool.eq_false_iff.mpr c3
  subst c3
  rw [if_neg (show ¬ (false = true) by decide)] at H
  simp only [Option.some.injEq, Prod.mk.injEq] at H
  obtain ⟨rfl, rfl⟩ := H
  go_enter Try.func15, Try.ntmps15
  go_wp2_with (first | ((with_reducible refine gate_dst (N := 1) rfl ?_); refine box_event ?hg (N := 1) ?hd (cs := #[.slice A0_0 l0_0.length c0_0, .slice A0_1 l0_1.length c0_1]) (t := 25) ?hr ?_; (case hd => rfl); (case hg => rfl); (case hr => first | (go_simp; done) | (go_simp; rfl)); intro gb316 hg w80 hbox hb; have n0_ := am (below_step (bm HB) hb); have n1_ := am (hbox); have n2_ := am ((by rw [hg]; exact (below_size (bm HB)) : w.heap.size ≤ gb316)); have n3_ := am ((by rw [hg]; exact (below_size (bm HB)) : w.heap.size ≤ gb316)); clear HB; revert n0_ n1_ n2_ n3_; intro HB BK316 GW316 GE316; clear hb hbox hg; have hcz81_0 : w80.cell? ⟨gb316, 0, none⟩ = some (.slice A0_0 l0_0.length c0_0) := (blk_cell BK316.out 0).trans rfl; have hcz81_1 : w80.cell? ⟨gb316, 1, none⟩ = some (.slice A0_1 l0_1.length c0_1) := (blk_cell BK316.out 1).trans rfl; have hfz81_0 := blk_frozen BK316.out 0; have hfz81_1 := blk_frozen BK316.out 1) | ((with_reducible refine gate_callee (f := 24) rfl ?_); refine goesL_ (some 20) rfl rfl Try.func24 (by kernel_rfl) rfl #[.agg #[.slice A0_0 l0_0.length c0_0, .slice A0_1 l0_1.length c0_1]] rfl (by (try simp only [List.map_toArray, List.map_cons, List.map_nil]); first | done | rfl | (simp only [List.length_drop, List.length_take]; rfl)) ?_; (with_reducible refine (impl_PictureValid.calls k _ _ l0_0 _ _ l0_1 false _ ?side1 ?side2 ?side3 ?side4 A2.out).mono ?_); (case side1 => repeat (first | exact (Kd.C_below HR0_0.out HB.out) | (with_reducible refine Kd.C_alloc ?_ _) | (with_reducible refine Kd.C_drewN ?_ _) | (with_reducible refine Kd.C_drew ?_))); (case side2 => exact HC0_0.out); (case side3 => repeat (first | exact (Kd.C_below HR0_1.out HB.out) | (with_reducible refine Kd.C_alloc ?_ _) | (with_reducible refine Kd.C_drewN ?_ _) | (with_reducible refine Kd.C_drew ?_))); (case side4 => exact HC0_1.out); rintro e w82 ⟨rfl, hb⟩; refine ⟨_, rfl, ?_⟩; have n0_ := am (blk_below (g := gb316) (o := .cells #[.slice A0_0 l0_0.length c0_0, .slice A0_1 l0_1.length c0_1] 25 (0, 0)) (bv BK316.out) hb); have n1_ := am (below_step (by repeat (first | (with_reducible first | exact HB.out | apply below_alloc | apply pw_below_drewN | apply below_drew1 | refine below_set ?_ GE316.out) | exact HB.out)) hb); clear BK316 HB; revert n0_ n1_; intro BK316 HB; (try clear hb); (try clear hb2); (try clear hk); (try clear hi)))
  go_ret2
  exact ⟨_, rfl, by first | exact Kd.S_nil _ _ _ _ _ | exact Kd.N_nil _ _ _ _ _ | exact Kd.V_nil _ _ _ _ _ | exact Kd.Q_nil _ _ _ _ _ | exact Kd.R_nil _ _ _ _ _, by repeat (first | (with_reducible first | exact HB.out | apply below_alloc | apply pw_below_drewN | apply below_drew1 | refine below_set ?_ GE316.out) | exact HB.out)⟩
end Go.Proofs.Ytapnohcfnclleaa.PFnPictureLines
