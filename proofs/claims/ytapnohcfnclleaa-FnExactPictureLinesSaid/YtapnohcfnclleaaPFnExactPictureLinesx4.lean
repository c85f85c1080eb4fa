-- Made by a program of this session (a changed copy of the kit print): the kit print itself does not give this text
import Derived.Test.YtapnohcfnclleaaPFnExactPictureLinesx0
import Derived.Test.YtapnohcfnclleaaPFnExactPictureLinesx1
import Derived.Test.YtapnohcfnclleaaPFnExactPictureLinesx2
import Derived.Test.YtapnohcfnclleaaPFnExactPictureLinesx3
namespace Go.Proofs.Ytapnohcfnclleaa.PFnExactPictureLines
open Go.RowKit Go.Proofs.YtapnohcfnclleaaW.PrintWords Go.Proofs.YtapnohcfnclleaaW.PrintLast Go.Proofs.YtapnohcfnclleaaW.PrintMore
attribute [local go_sem] max2_int min2_int max_two min_two max_three min_three max_four min_four   -- for this text's walks alone
set_option linter.unusedVariables false
set_option linter.unusedSimpArgs false

/-! ### impl_PictureLines: function 15 -/
mutual
def impl_PictureLines.l0 : Nat → List (List Int) → Int → Int → List (List Int) → List (List Int) → Option ((List (List Int)) × Bool)
  | 0, _, _, _, _, _ => none
  | k + 1, x4, x25, x26, x162000, x162001 => if x26 < x25 then (impl_PictureLines.l1 k x4 (([] : List Int)) x25 x26 (x162001.length : Int) 0 x162000 x162001) else (impl_PictureLines.l2 k x4 true x162000 x162001)
def impl_PictureLines.l1 : Nat → List (List Int) → List Int → Int → Int → Int → Int → List (List Int) → List (List Int) → Option ((List (List Int)) × Bool)
  | 0, _, _, _, _, _, _, _, _ => none
  | k + 1, x4, x5, x25, x26, x31, x32, x162000, x162001 => if x32 < x31 then (if x5.length < 17592186044416 then (impl_PictureLines.l1 k x4 (x5 ++ [(-1)]) x25 x26 x31 (wrap64 (x32 + 1)) x162000 x162001) else (none)) else (if x4.length < 5864062014805 then (impl_PictureLines.l0 k (x4 ++ [x5]) x25 (wrap64 (x26 + 1)) x162000 x162001) else (none))
def impl_PictureLines.l2 : Nat → List (List Int) → Bool → List (List Int) → List (List Int) → Option ((List (List Int)) × Bool)
  | 0, _, _, _, _ => none
  | k + 1, x4, x6, x162000, x162001 => if x6 = true then (impl_PictureLines.l3 k x4 false x162000 (x162000.length : Int) 0 x162000 x162001) else (some (x4, true))
def impl_PictureLines.l3 : Nat → List (List Int) → Bool → List (List Int) → Int → Int → List (List Int) → List (List Int) → Option ((List (List Int)) × Bool)
  | 0, _, _, _, _, _, _, _ => none
  | k + 1, x4, x6, x45, x46, x47, x162000, x162001 => if x47 < x46 then (if 0 ≤ x47 then (if x47 < (x45.length : Int) then (if x47 < (x4.length : Int) then ((impl_LineForced.f k (rd_L1 x45 x47) (rd_L1 x4 x47)).bind fun bt177 => (if bt177.2 = true then (if x6 = true then (impl_PictureLines.l3 k (x4.set (x47 : Int).toNat bt177.1) true x45 x46 (wrap64 (x47 + 1)) x162000 x162001) else ((slices_Equal_int_int.f k bt177.1 (rd_L1 x4 x47)).bind fun t183 => (impl_PictureLines.l3 k (x4.set (x47 : Int).toNat bt177.1) (!t183) x45 x46 (wrap64 (x47 + 1)) x162000 x162001))) else (some (([] : List (List Int)), false)))) else (none)) else (none)) else (none)) else (impl_PictureLines.l4 k x4 x6 x162001 (x162001.length : Int) 0 x162000 x162001)
def impl_PictureLines.l4 : Nat → List (List Int) → Bool → List (List Int) → Int → Int → List (List Int) → List (List Int) → Option ((List (List Int)) × Bool)
  | 0, _, _, _, _, _, _, _ => none
  | k + 1, x4, x6, x79, x80, x81, x162000, x162001 => if x81 < x80 then (if 0 ≤ x81 then (if x81 < (x79.length : Int) then (impl_PictureLines.l5 k x4 x6 x81 (rd_L1 x79 x81) (([] : List Int)) x79 x80 x81 (x4.length : Int) 0 x162000 x162001) else (none)) else (none)) else (impl_PictureLines.l2 k x4 x6 x162000 x162001)
def impl_PictureLines.l5 : Nat → List (List Int) → Bool → Int → List Int → List Int → List (List Int) → Int → Int → Int → Int → List (List Int) → List (List Int) → Option ((List (List Int)) × Bool)
  | 0, _, _, _, _, _, _, _, _, _, _, _, _ => none
  | k + 1, x4, x6, x11, x12, x13, x79, x80, x81, x88, x89, x162000, x162001 => if x89 < x88 then (if 0 ≤ x89 then (if x89 < (x4.length : Int) then (if 0 ≤ x11 then (if x11 < ((rd_L1 x4 x89).length : Int) then (if x13.length < 17592186044416 then (impl_PictureLines.l5 k x4 x6 x11 x12 (x13 ++ [rd (rd_L1 x4 x89) x11]) x79 x80 x81 x88 (wrap64 (x89 + 1)) x162000 x162001) else (none)) else (none)) else (none)) else (none)) else (none)) else ((impl_LineForced.f k x12 x13).bind fun bt194 => (if bt194.2 = true then (impl_PictureLines.l6 k x4 x6 x11 x79 x80 x81 bt194.1 (bt194.1.length : Int) 0 x162000 x162001) else (some (([] : List (List Int)), false))))
def impl_PictureLines.l6 : Nat → List (List Int) → Bool → Int → List (List Int) → Int → Int → List Int → Int → Int → List (List Int) → List (List Int) → Option ((List (List Int)) × Bool)
  | 0, _, _, _, _, _, _, _, _, _, _, _ => none
  | k + 1, x4, x6, x11, x79, x80, x81, x111, x112, x113, x162000, x162001 => if x113 < x112 then (if 0 ≤ x113 then (if x113 < (x111.length : Int) then (if x6 = true then (if x113 < (x4.length : Int) then (if 0 ≤ x11 then (if x11 < ((rd_L1 x4 x113).length : Int) then (impl_PictureLines.l6 k (x4.set (x113 : Int).toNat ((rd_L1 x4 x113).set (x11 : Int).toNat (rd x111 x113))) true x11 x79 x80 x81 x111 x112 (wrap64 (x113 + 1)) x162000 x162001) else (none)) else (none)) else (none)) else (if x113 < (x4.length : Int) then (if 0 ≤ x11 then (if x11 < ((rd_L1 x4 x113).length : Int) then (impl_PictureLines.l6 k (x4.set (x113 : Int).toNat ((rd_L1 x4 x113).set (x11 : Int).toNat (rd x111 x113))) ((rd (rd_L1 x4 x113) x11) != (rd x111 x113)) x11 x79 x80 x81 x111 x112 (wrap64 (x113 + 1)) x162000 x162001) else (none)) else (none)) else (none))) else (none)) else (none)) else (impl_PictureLines.l4 k x4 x6 x79 x80 (wrap64 (x81 + 1)) x162000 x162001)
end
def impl_PictureLines.f (k : Nat) (l0_0 : List (List Int)) (l0_1 : List (List Int)) : Option ((List (List Int)) × Bool) := (impl_PictureValid.f k l0_0 l0_1).bind fun t162 => (if t162 = true then (impl_PictureLines.l0 k (([] : List (List Int))) (l0_0.length : Int) 0 l0_0 l0_1) else (some (([] : List (List Int)), false)))
theorem impl_PictureLines.mono_l : ∀ k, (∀ y0 y1 y2 y3 y4, LeO (impl_PictureLines.l0 k y0 y1 y2 y3 y4) (impl_PictureLines.l0 (k + 1) y0 y1 y2 y3 y4)) ∧ (∀ y0 y1 y2 y3 y4 y5 y6 y7, LeO (impl_PictureLines.l1 k y0 y1 y2 y3 y4 y5 y6 y7) (impl_PictureLines.l1 (k + 1) y0 y1 y2 y3 y4 y5 y6 y7)) ∧ (∀ y0 y1 y2 y3, LeO (impl_PictureLines.l2 k y0 y1 y2 y3) (impl_PictureLines.l2 (k + 1) y0 y1 y2 y3)) ∧ (∀ y0 y1 y2 y3 y4 y5 y6, LeO (impl_PictureLines.l3 k y0 y1 y2 y3 y4 y5 y6) (impl_PictureLines.l3 (k + 1) y0 y1 y2 y3 y4 y5 y6)) ∧ (∀ y0 y1 y2 y3 y4 y5 y6, LeO (impl_PictureLines.l4 k y0 y1 y2 y3 y4 y5 y6) (impl_PictureLines.l4 (k + 1) y0 y1 y2 y3 y4 y5 y6)) ∧ (∀ y0 y1 y2 y3 y4 y5 y6 y7 y8 y9 y10 y11, LeO (impl_PictureLines.l5 k y0 y1 y2 y3 y4 y5 y6 y7 y8 y9 y10 y11) (impl_PictureLines.l5 (k + 1) y0 y1 y2 y3 y4 y5 y6 y7 y8 y9 y10 y11)) ∧ (∀ y0 y1 y2 y3 y4 y5 y6 y7 y8 y9 y10, LeO (impl_PictureLines.l6 k y0 y1 y2 y3 y4 y5 y6 y7 y8 y9 y10) (impl_PictureLines.l6 (k + 1) y0 y1 y2 y3 y4 y5 y6 y7 y8 y9 y10))
  | 0 => ⟨fun _ _ _ _ _ r h => by simp [impl_PictureLines.l0] at h, fun _ _ _ _ _ _ _ _ r h => by simp [impl_PictureLines.l1] at h, fun _ _ _ _ r h => by simp [impl_PictureLines.l2] at h, fun _ _ _ _ _ _ _ r h => by simp [impl_PictureLines.l3] at h, fun _ _ _ _ _ _ _ r h => by simp [impl_PictureLines.l4] at h, fun _ _ _ _ _ _ _ _ _ _ _ _ r h => by simp [impl_PictureLines.l5] at h, fun _ _ _ _ _ _ _ _ _ _ _ r h => by simp [impl_PictureLines.l6] at h⟩
  | k + 1 => by
    obtain ⟨ih0, ih1, ih2, ih3, ih4, ih5, ih6⟩ := impl_PictureLines.mono_l k
    refine ⟨?_, ?_, ?_, ?_, ?_, ?_, ?_⟩
    · intro y0 y1 y2 y3 y4
      unfold impl_PictureLines.l0
      repeat' first
      | (with_reducible exact ih0 _ _ _ _ _)
      | (with_reducible exact ih1 _ _ _ _ _ _ _ _)
      | (with_reducible exact ih2 _ _ _ _)
      | (with_reducible exact ih3 _ _ _ _ _ _ _)
      | (with_reducible exact ih4 _ _ _ _ _ _ _)
      | (with_reducible exact ih5 _ _ _ _ _ _ _ _ _ _ _ _)
      | (with_reducible exact ih6 _ _ _ _ _ _ _ _ _ _ _)
      | (with_reducible exact impl_LineForced.mono _ _ _)
      | (with_reducible exact impl_PictureValid.mono _ _ _)
      | (with_reducible exact slices_Equal_int_int.mono _ _ _)
      | (with_reducible exact LeO.refl _)
      | (with_reducible exact LeO.none _)
      | (with_reducible refine LeO.ite ?_ ?_)
      | (with_reducible refine LeO.bind ?_ (fun _ => ?_))
      | exact ih0 _ _ _ _ _
      | exact ih1 _ _ _ _ _ _ _ _
      | exact ih2 _ _ _ _
      | exact ih3 _ _ _ _ _ _ _
      | exact ih4 _ _ _ _ _ _ _
      | exact ih5 _ _ _ _ _ _ _ _ _ _ _ _
      | exact ih6 _ _ _ _ _ _ _ _ _ _ _
      | exact impl_LineForced.mono _ _ _
      | exact impl_PictureValid.mono _ _ _
      | exact slices_Equal_int_int.mono _ _ _
      | exact LeO.none _
      | refine LeO.ite ?_ ?_
      | refine LeO.bind ?_ (fun _ => ?_)
    · intro y0 y1 y2 y3 y4 y5 y6 y7
      unfold impl_PictureLines.l1
      repeat' first
      | (with_reducible exact ih0 _ _ _ _ _)
      | (with_reducible exact ih1 _ _ _ _ _ _ _ _)
      | (with_reducible exact ih2 _ _ _ _)
      | (with_reducible exact ih3 _ _ _ _ _ _ _)
      | (with_reducible exact ih4 _ _ _ _ _ _ _)
      | (with_reducible exact ih5 _ _ _ _ _ _ _ _ _ _ _ _)
      | (with_reducible exact ih6 _ _ _ _ _ _ _ _ _ _ _)
      | (with_reducible exact impl_LineForced.mono _ _ _)
      | (with_reducible exact impl_PictureValid.mono _ _ _)
      | (with_reducible exact slices_Equal_int_int.mono _ _ _)
      | (with_reducible exact LeO.refl _)
      | (with_reducible exact LeO.none _)
      | (with_reducible refine LeO.ite ?_ ?_)
      | (with_reducible refine LeO.bind ?_ (fun _ => ?_))
      | exact ih0 _ _ _ _ _
      | exact ih1 _ _ _ _ _ _ _ _
      | exact ih2 _ _ _ _
      | exact ih3 _ _ _ _ _ _ _
      | exact ih4 _ _ _ _ _ _ _
      | exact ih5 _ _ _ _ _ _ _ _ _ _ _ _
      | exact ih6 _ _ _ _ _ _ _ _ _ _ _
      | exact impl_LineForced.mono _ _ _
      | exact impl_PictureValid.mono _ _ _
      | exact slices_Equal_int_int.mono _ _ _
      | exact LeO.none _
      | refine LeO.ite ?_ ?_
      | refine LeO.bind ?_ (fun _ => ?_)
    · intro y0 y1 y2 y3
      unfold impl_PictureLines.l2
      repeat' first
      | (with_reducible exact ih0 _ _ _ _ _)
      | (with_reducible exact ih1 _ _ _ _ _ _ _ _)
      | (with_reducible exact ih2 _ _ _ _)
      | (with_reducible exact ih3 _ _ _ _ _ _ _)
      | (with_reducible exact ih4 _ _ _ _ _ _ _)
      | (with_reducible exact ih5 _ _ _ _ _ _ _ _ _ _ _ _)
      | (with_reducible exact ih6 _ _ _ _ _ _ _ _ _ _ _)
      | (with_reducible exact impl_LineForced.mono _ _ _)
      | (with_reducible exact impl_PictureValid.mono _ _ _)
      | (with_reducible exact slices_Equal_int_int.mono _ _ _)
      | (with_reducible exact LeO.refl _)
      | (with_reducible exact LeO.none _)
      | (with_reducible refine LeO.ite ?_ ?_)
      | (with_reducible refine LeO.bind ?_ (fun _ => ?_))
      | exact ih0 _ _ _ _ _
      | exact ih1 _ _ _ _ _ _ _ _
      | exact ih2 _ _ _ _
      | exact ih3 _ _ _ _ _ _ _
      | exact ih4 _ _ _ _ _ _ _
      | exact ih5 _ _ _ _ _ _ _ _ _ _ _ _
      | exact ih6 _ _ _ _ _ _ _ _ _ _ _
      | exact impl_LineForced.mono _ _ _
      | exact impl_PictureValid.mono _ _ _
      | exact slices_Equal_int_int.mono _ _ _
      | exact LeO.none _
      | refine LeO.ite ?_ ?_
      | refine LeO.bind ?_ (fun _ => ?_)
    · intro y0 y1 y2 y3 y4 y5 y6
      unfold impl_PictureLines.l3
      repeat' first
      | (with_reducible exact ih0 _ _ _ _ _)
      | (with_reducible exact ih1 _ _ _ _ _ _ _ _)
      | (with_reducible exact ih2 _ _ _ _)
      | (with_reducible exact ih3 _ _ _ _ _ _ _)
      | (with_reducible exact ih4 _ _ _ _ _ _ _)
      | (with_reducible exact ih5 _ _ _ _ _ _ _ _ _ _ _ _)
      | (with_reducible exact ih6 _ _ _ _ _ _ _ _ _ _ _)
      | (with_reducible exact impl_LineForced.mono _ _ _)
      | (with_reducible exact impl_PictureValid.mono _ _ _)
      | (with_reducible exact slices_Equal_int_int.mono _ _ _)
      | (with_reducible exact LeO.refl _)
      | (with_reducible exact LeO.none _)
      | (with_reducible refine LeO.ite ?_ ?_)
      | (with_reducible refine LeO.bind ?_ (fun _ => ?_))
      | exact ih0 _ _ _ _ _
      | exact ih1 _ _ _ _ _ _ _ _
      | exact ih2 _ _ _ _
      | exact ih3 _ _ _ _ _ _ _
      | exact ih4 _ _ _ _ _ _ _
      | exact ih5 _ _ _ _ _ _ _ _ _ _ _ _
      | exact ih6 _ _ _ _ _ _ _ _ _ _ _
      | exact impl_LineForced.mono _ _ _
      | exact impl_PictureValid.mono _ _ _
      | exact slices_Equal_int_int.mono _ _ _
      | exact LeO.none _
      | refine LeO.ite ?_ ?_
      | refine LeO.bind ?_ (fun _ => ?_)
    · intro y0 y1 y2 y3 y4 y5 y6
      unfold impl_PictureLines.l4
      repeat' first
      | (with_reducible exact ih0 _ _ _ _ _)
      | (with_reducible exact ih1 _ _ _ _ _ _ _ _)
      | (with_reducible exact ih2 _ _ _ _)
      | (with_reducible exact ih3 _ _ _ _ _ _ _)
      | (with_reducible exact ih4 _ _ _ _ _ _ _)
      | (with_reducible exact ih5 _ _ _ _ _ _ _ _ _ _ _ _)
      | (with_reducible exact ih6 _ _ _ _ _ _ _ _ _ _ _)
      | (with_reducible exact impl_LineForced.mono _ _ _)
      | (with_reducible exact impl_PictureValid.mono _ _ _)
      | (with_reducible exact slices_Equal_int_int.mono _ _ _)
      | (with_reducible exact LeO.refl _)
      | (with_reducible exact LeO.none _)
      | (with_reducible refine LeO.ite ?_ ?_)
      | (with_reducible refine LeO.bind ?_ (fun _ => ?_))
      | exact ih0 _ _ _ _ _
      | exact ih1 _ _ _ _ _ _ _ _
      | exact ih2 _ _ _ _
      | exact ih3 _ _ _ _ _ _ _
      | exact ih4 _ _ _ _ _ _ _
      | exact ih5 _ _ _ _ _ _ _ _ _ _ _ _
      | exact ih6 _ _ _ _ _ _ _ _ _ _ _
      | exact impl_LineForced.mono _ _ _
      | exact impl_PictureValid.mono _ _ _
      | exact slices_Equal_int_int.mono _ _ _
      | exact LeO.none _
      | refine LeO.ite ?_ ?_
      | refine LeO.bind ?_ (fun _ => ?_)
    · intro y0 y1 y2 y3 y4 y5 y6 y7 y8 y9 y10 y11
      unfold impl_PictureLines.l5
      repeat' first
      | (with_reducible exact ih0 _ _ _ _ _)
      | (with_reducible exact ih1 _ _ _ _ _ _ _ _)
      | (with_reducible exact ih2 _ _ _ _)
      | (with_reducible exact ih3 _ _ _ _ _ _ _)
      | (with_reducible exact ih4 _ _ _ _ _ _ _)
      | (with_reducible exact ih5 _ _ _ _ _ _ _ _ _ _ _ _)
      | (with_reducible exact ih6 _ _ _ _ _ _ _ _ _ _ _)
      | (with_reducible exact impl_LineForced.mono _ _ _)
      | (with_reducible exact impl_PictureValid.mono _ _ _)
      | (with_reducible exact slices_Equal_int_int.mono _ _ _)
      | (with_reducible exact LeO.refl _)
      | (with_reducible exact LeO.none _)
      | (with_reducible refine LeO.ite ?_ ?_)
      | (with_reducible refine LeO.bind ?_ (fun _ => ?_))
      | exact ih0 _ _ _ _ _
      | exact ih1 _ _ _ _ _ _ _ _
      | exact ih2 _ _ _ _
      | exact ih3 _ _ _ _ _ _ _
      | exact ih4 _ _ _ _ _ _ _
      | exact ih5 _ _ _ _ _ _ _ _ _ _ _ _
      | exact ih6 _ _ _ _ _ _ _ _ _ _ _
      | exact impl_LineForced.mono _ _ _
      | exact impl_PictureValid.mono _ _ _
      | exact slices_Equal_int_int.mono _ _ _
      | exact LeO.none _
      | refine LeO.ite ?_ ?_
      | refine LeO.bind ?_ (fun _ => ?_)
    · intro y0 y1 y2 y3 y4 y5 y6 y7 y8 y9 y10
      unfold impl_PictureLines.l6
      repeat' first
      | (with_reducible exact ih0 _ _ _ _ _)
      | (with_reducible exact ih1 _ _ _ _ _ _ _ _)
      | (with_reducible exact ih2 _ _ _ _)
      | (with_reducible exact ih3 _ _ _ _ _ _ _)
      | (with_reducible exact ih4 _ _ _ _ _ _ _)
      | (with_reducible exact ih5 _ _ _ _ _ _ _ _ _ _ _ _)
      | (with_reducible exact ih6 _ _ _ _ _ _ _ _ _ _ _)
      | (with_reducible exact impl_LineForced.mono _ _ _)
      | (with_reducible exact impl_PictureValid.mono _ _ _)
      | (with_reducible exact slices_Equal_int_int.mono _ _ _)
      | (with_reducible exact LeO.refl _)
      | (with_reducible exact LeO.none _)
      | (with_reducible refine LeO.ite ?_ ?_)
      | (with_reducible refine LeO.bind ?_ (fun _ => ?_))
      | exact ih0 _ _ _ _ _
      | exact ih1 _ _ _ _ _ _ _ _
      | exact ih2 _ _ _ _
      | exact ih3 _ _ _ _ _ _ _
      | exact ih4 _ _ _ _ _ _ _
      | exact ih5 _ _ _ _ _ _ _ _ _ _ _ _
      | exact ih6 _ _ _ _ _ _ _ _ _ _ _
      | exact impl_LineForced.mono _ _ _
      | exact impl_PictureValid.mono _ _ _
      | exact slices_Equal_int_int.mono _ _ _
      | exact LeO.none _
      | refine LeO.ite ?_ ?_
      | refine LeO.bind ?_ (fun _ => ?_)
theorem impl_PictureLines.mono : ∀ a0 a1 k, LeO (impl_PictureLines.f k a0 a1) (impl_PictureLines.f (k + 1) a0 a1) := by
  intro a0 a1 k
  obtain ⟨ih0, ih1, ih2, ih3, ih4, ih5, ih6⟩ := impl_PictureLines.mono_l k
  unfold impl_PictureLines.f
  repeat' first
      | (with_reducible exact ih0 _ _ _ _ _)
      | (with_reducible exact ih1 _ _ _ _ _ _ _ _)
      | (with_reducible exact ih2 _ _ _ _)
      | (with_reducible exact ih3 _ _ _ _ _ _ _)
      | (with_reducible exact ih4 _ _ _ _ _ _ _)
      | (with_reducible exact ih5 _ _ _ _ _ _ _ _ _ _ _ _)
      | (with_reducible exact ih6 _ _ _ _ _ _ _ _ _ _ _)
      | (with_reducible exact impl_LineForced.mono _ _ _)
      | (with_reducible exact impl_PictureValid.mono _ _ _)
      | (with_reducible exact slices_Equal_int_int.mono _ _ _)
      | (with_reducible exact LeO.refl _)
      | (with_reducible exact LeO.none _)
      | (with_reducible refine LeO.ite ?_ ?_)
      | (with_reducible refine LeO.bind ?_ (fun _ => ?_))
      | exact ih0 _ _ _ _ _
      | exact ih1 _ _ _ _ _ _ _ _
      | exact ih2 _ _ _ _
      | exact ih3 _ _ _ _ _ _ _
      | exact ih4 _ _ _ _ _ _ _
      | exact ih5 _ _ _ _ _ _ _ _ _ _ _ _
      | exact ih6 _ _ _ _ _ _ _ _ _ _ _
      | exact impl_LineForced.mono _ _ _
      | exact impl_PictureValid.mono _ _ _
      | exact slices_Equal_int_int.mono _ _ _
      | exact LeO.none _
      | refine LeO.ite ?_ ?_
      | refine LeO.bind ?_ (fun _ => ?_)
set_option maxHeartbeats 8000000 in
set_option maxRecDepth 100000 in
theorem impl_PictureLines.calls (k : Nat) (A0_0 : Option Addr) (c0_0 : Nat) (l0_0 : List (List Int)) (A0_1 : Option Addr) (c0_1 : Nat) (l0_1 : List (List Int)) (r1 : List (List Int)) (r2 : Bool) (w : World) (hr0_0 : Kd.C (Kd.slice 3 (Kd.int .i64)) w A0_0 l0_0.length l0_0) (hc0_0 : l0_0.length ≤ c0_0) (hr0_1 : Kd.C (Kd.slice 3 (Kd.int .i64)) w A0_1 l0_1.length l0_1) (hc0_1 : l0_1.length ≤ c0_1) (h : impl_PictureLines.f k l0_0 l0_1 = some (r1, r2)) :
    Calls Try.prog 15 #[.agg #[.slice A0_0 l0_0.length c0_0, .slice A0_1 l0_1.length c0_1]] w fun e w' => ∃ v0_ : Value, e = .returned (.tuple #[v0_, .bool r2]) ∧ Kd.S (Kd.slice 3 (Kd.int .i64)) 36 w' w.heap.size (fun _ => True) v0_ r1 ∧ Below w.heap.size w w' := by
  have hu25 := Try.underlying25
  have HR0_0 := Aside0.mk hr0_0
  have HC0_0 := Aside0.mk hc0_0
  clear hr0_0 hc0_0
  have HR0_1 := Aside0.mk hr0_1
  have HC0_1 := Aside0.mk hc0_1
  clear hr0_1 hc0_1
  have HB := Aside0.mk (Below.refl w.heap.size w)
  have H : ((impl_PictureValid.f k l0_0 l0_1).bind fun t162 => (if t162 = true then (impl_PictureLines.l0 k (([] : List (List Int))) (l0_0.length : Int) 0 l0_0 l0_1) else (some (([] : List (List Int)), false)))) = some (r1, r2) := h
  clear h
  replace H := Option.bind_eq_some_iff.mp H
  obtain ⟨t162, A20, H⟩ := H
  replace H : (if t162 = true then (impl_PictureLines.l0 k (([] : List (List Int))) (l0_0.length : Int) 0 l0_0 l0_1) else (some (([] : List (List Int)), false))) = some (r1, r2) := H
  have A2 := Aside0.mk A20
  clear A20
  by_cases c3 : t162 = true
  · subst c3
    have H1 : (impl_PictureLines.l0 k (([] : List (List Int))) (l0_0.length : Int) 0 l0_0 l0_1) = some (r1, r2) := by rw [if_pos rfl] at H; exact H
    clear H
    have H := H1
    clear H1
    obtain ⟨y163, hy163⟩ : ∃ y_ : List (List Int), y_ = (([] : List (List Int))) := ⟨_, rfl⟩
    replace H : (impl_PictureLines.l0 k y163 (l0_0.length : Int) 0 l0_0 l0_1) = some (r1, r2) := by first | (rw [hy163]; with_reducible exact H) | (have H2_ := (Option.bind_some _ _).symm.trans H; rw [hy163]; with_reducible exact H2_) | (have H2_ := (Option.bind_some _ _).symm.trans H; with_reducible exact H2_) | with_reducible exact H | (rw [hy163]; exact H) | exact H
    have Ny163 := Aside0.mk hy163
    clear hy163
    have H' := Aside0.mk H
    clear H
    go_enter Try.func15, Try.ntmps15
    go_wp2_with (first | ((with_reducible refine gate_dst (N := 1) rfl ?_); refine box_event ?hg (N := 1) ?hd (cs := #[.slice A0_0 l0_0.length c0_0, .slice A0_1 l0_1.length c0_1]) (t := 25) ?hr ?_; (case hd => rfl); (case hg => rfl); (case hr => first | (go_simp; done) | (go_simp; rfl)); intro gb161 hg w4 hbox hb; have n0_ := Aside0.mk (below_step (by repeat (first | (with_reducible first | exact HB.out | apply below_alloc | apply pw_below_drewN | apply below_drew1) | exact HB.out)) hb); have n1_ := Aside0.mk (hbox); have n2_ := Aside0.mk ((by rw [hg]; exact (below_size (by repeat (first | (with_reducible first | exact HB.out | apply below_alloc | apply pw_below_drewN | apply below_drew1) | exact HB.out))) : w.heap.size ≤ gb161)); have n3_ := Aside0.mk ((by rw [hg]; exact (below_size (by repeat (first | (with_reducible first | exact HB.out | apply below_alloc | apply pw_below_drewN | apply below_drew1) | exact HB.out))) : w.heap.size ≤ gb161)); clear HB; have HB := n0_; have BK161 := n1_; have GW161 := n2_; have GE161 := n3_; clear n0_ n1_ n2_ n3_; clear hb hbox hg; have hcz5_0 : w4.cell? ⟨gb161, 0, none⟩ = some (.slice A0_0 l0_0.length c0_0) := (blk_cell BK161.out 0).trans rfl; have hcz5_1 : w4.cell? ⟨gb161, 1, none⟩ = some (.slice A0_1 l0_1.length c0_1) := (blk_cell BK161.out 1).trans rfl; have hfz5_0 := blk_frozen BK161.out 0; have hfz5_1 := blk_frozen BK161.out 1) | ((with_reducible refine gate_callee (f := 24) rfl ?_); refine goesL_ (some 20) rfl rfl Try.func24 (by kernel_rfl) rfl #[.agg #[.slice A0_0 l0_0.length c0_0, .slice A0_1 l0_1.length c0_1]] rfl (by (try simp only [List.map_toArray, List.map_cons, List.map_nil]); first | done | rfl | (simp only [List.length_drop, List.length_take]; rfl)) ?_; (with_reducible refine (impl_PictureValid.calls k _ _ l0_0 _ _ l0_1 true _ ?side1 ?side2 ?side3 ?side4 A2.out).mono ?_); (case side1 => repeat (first | exact (Kd.C_below HR0_0.out HB.out) | (with_reducible refine Kd.C_alloc ?_ _) | (with_reducible refine Kd.C_drewN ?_ _) | (with_reducible refine Kd.C_drew ?_))); (case side2 => exact HC0_0.out); (case side3 => repeat (first | exact (Kd.C_below HR0_1.out HB.out) | (with_reducible refine Kd.C_alloc ?_ _) | (with_reducible refine Kd.C_drewN ?_ _) | (with_reducible refine Kd.C_drew ?_))); (case side4 => exact HC0_1.out); rintro e w6 ⟨rfl, hb⟩; refine ⟨_, rfl, ?_⟩; have n0_ := Aside0.mk (blk_below (g := gb161) (o := .cells #[.slice A0_0 l0_0.length c0_0, .slice A0_1 l0_1.length c0_1] 25 (0, 0)) (by (with_reducible repeat (first | refine blk_drewN ?_ _ | refine blk_drew ?_ | refine blk_alloc ?_ _)); exact BK161.out) hb); have n1_ := Aside0.mk (below_step (by repeat (first | (with_reducible first | exact HB.out | apply below_alloc | apply pw_below_drewN | apply below_drew1 | refine below_set ?_ GE161.out) | exact HB.out)) hb); clear BK161; clear HB; have BK161 := n0_; have HB := n1_; clear n0_ n1_; (try clear hb); (try clear hb2); (try clear hk); (try clear hi)) | ((with_reducible refine gate_dst (N := 22) rfl ?_); refine Kd.S_lit (Kd.slice 3 (Kd.int .i64)) _ 36 ?hg (N := 22) ?hd (xs := ([] : List (List Int))) (inner := []) (ok := fun _ => True) (okp := fun _ => True) ?hr ?hp (fun _ hk => hk) trivial (Below.refl _ _) (Nat.le_refl _) (by simp) ?_; (case hd => rfl); (case hg => rfl); (case hr => first | (go_simp; done) | (go_simp; rfl)); (case hp => exact (Reps.none _ _)); intro v164 w7 ho8 hb hg_ hnew_; clear hg_ hnew_; (first | rw [← Ny163.out] at ho8 | (simp only [Int.reduceToNat] at ho8; rw [← Ny163.out] at ho8)); have n0_ := Aside0.mk (Kd.S_lower ho8 (below_size (by repeat (first | (with_reducible first | exact HB.out | apply below_alloc | apply pw_below_drewN | apply below_drew1 | refine below_set ?_ GE161.out) | exact HB.out)))); have n1_ := Aside0.mk (blk_below (g := gb161) (o := .cells #[.slice A0_0 l0_0.length c0_0, .slice A0_1 l0_1.length c0_1] 25 (0, 0)) (by (with_reducible repeat (first | refine blk_drewN ?_ _ | refine blk_drew ?_ | refine blk_alloc ?_ _)); exact BK161.out) hb); have n2_ := Aside0.mk (below_step (by repeat (first | (with_reducible first | exact HB.out | apply below_alloc | apply pw_below_drewN | apply below_drew1 | refine below_set ?_ GE161.out) | exact HB.out)) hb); clear BK161; clear HB; have HO165 := n0_; have BK161 := n1_; have HB := n2_; clear n0_ n1_ n2_; clear hb ho8; have hcz9_0 : w7.cell? ⟨gb161, 0, none⟩ = some (.slice A0_0 l0_0.length c0_0) := (blk_cell BK161.out 0).trans rfl; have hcz9_1 : w7.cell? ⟨gb161, 1, none⟩ = some (.slice A0_1 l0_1.length c0_1) := (blk_cell BK161.out 1).trans rfl; have hfz9_0 := blk_frozen BK161.out 0; have hfz9_1 := blk_frozen BK161.out 1))
    go_loopg [4, 26] k (fun kq v4 v26 w' => ∃ (x4_1 : List (List Int)) (x26_1 : Int), v26 = .int .i64 x26_1 ∧ Aside0 (impl_PictureLines.l0 kq x4_1 (l0_0.length : Int) x26_1 l0_0 l0_1 = some (r1, r2)) ∧ Aside0 (kq ≤ k) ∧ Aside0 (Kd.S (Kd.slice 3 (Kd.int .i64)) 36 w' w.heap.size (fun _ => True) v4 x4_1) ∧ Aside0 (w'.heap[gb161]? = some (.cells #[(.slice A0_0 l0_0.length c0_0), (.slice A0_1 l0_1.length c0_1)] 25 (0, 0))) ∧ Aside0 (Below w.heap.size w w'))
    case atStart => exact ⟨(y163), (0), (by first | rfl | (simp; done) | (simp [*]; done)), H', ⟨Nat.le_refl _⟩, ⟨by (with_reducible repeat (first | apply Kd.S_alloc | apply Kd.S_drewN | apply Kd.S_drew)); exact HO165.out⟩, ⟨by (with_reducible repeat (first | refine blk_drewN ?_ _ | refine blk_drew ?_ | refine blk_alloc ?_ _)); exact BK161.out⟩, ⟨by repeat (first | (with_reducible first | exact HB.out | apply below_alloc | apply pw_below_drewN | apply below_drew1 | refine below_set ?_ GE161.out) | exact HB.out)⟩⟩
    case round =>
      clear H'
      try clear c1
      try clear c2
      try clear p2
      try clear c3
      try clear hcz5_0
      try clear hcz5_1
      try clear hcz9_0
      try clear hcz9_1
      try clear hfz5_0
      try clear hfz5_1
      try clear hfz9_0
      try clear hfz9_1
      obtain ⟨x4_1, x26_1, rfl, HA, HK1, HO_4, BK161, HB⟩ := hrel
      cases gk with
      | zero => exact absurd HA.out (by simp [impl_PictureLines.l0])
      | succ k1 =>
        have H := HA.out
        clear HA
        simp only [impl_PictureLines.l0] at H
        by_cases c10 : x26_1 < (l0_0.length : Int)
        · rw [if_pos c10] at H
          have c10b0 : decide (x26_1 < (l0_0.length : Int)) = true := decide_eq_true c10
          clear c10
          obtain ⟨y166, hy166⟩ : ∃ y_ : List Int, y_ = (([] : List Int)) := ⟨_, rfl⟩
          replace H : (impl_PictureLines.l1 k1 x4_1 y166 (l0_0.length : Int) x26_1 (l0_1.length : Int) 0 l0_0 l0_1) = some (r1, r2) := by first | (rw [hy166]; with_reducible exact H) | (have H2_ := (Option.bind_some _ _).symm.trans H; rw [hy166]; with_reducible exact H2_) | (have H2_ := (Option.bind_some _ _).symm.trans H; with_reducible exact H2_) | with_reducible exact H | (rw [hy166]; exact H) | exact H
          have Ny166 := Aside0.mk hy166
          clear hy166
          have H' := Aside0.mk H
          clear H
          go_wp2_with (first | ((with_reducible refine gate_dst (N := 28) rfl ?_); refine Kd.R_lit (Kd.int .i64) _ 3 ?hg (N := 28) ?hd (xs := ([] : List Int)) (inner := []) (ok := fun _ => True) (okp := fun _ => True) ?hr ?hp (fun _ hk => hk) trivial (Below.refl _ _) (Nat.le_refl _) (by simp) ?_; (case hd => rfl); (case hg => rfl); (case hr => first | (go_simp; done) | (go_simp; rfl)); (case hp => exact (Reps.none _ _)); intro v167 w11 ho12 hb hg_ hnew_; clear hg_ hnew_; (first | rw [← Ny166.out] at ho12 | (simp only [Int.reduceToNat] at ho12; rw [← Ny166.out] at ho12)); have n0_ := Aside0.mk (Kd.S_elder' (by (with_reducible repeat (first | apply Kd.S_alloc | apply Kd.S_drewN | apply Kd.S_drew)); exact HO_4.out) (Kd.R_base ho12) hb); have n1_ := Aside0.mk (Kd.R_lower ho12 (below_size (by repeat (first | (with_reducible first | exact HB.out | apply below_alloc | apply pw_below_drewN | apply below_drew1 | refine below_set ?_ GE161.out) | exact HB.out)))); have n2_ := Aside0.mk (blk_below (g := gb161) (o := .cells #[.slice A0_0 l0_0.length c0_0, .slice A0_1 l0_1.length c0_1] 25 (0, 0)) (by (with_reducible repeat (first | refine blk_drewN ?_ _ | refine blk_drew ?_ | refine blk_alloc ?_ _)); exact BK161.out) hb); have n3_ := Aside0.mk (below_step (by repeat (first | (with_reducible first | exact HB.out | apply below_alloc | apply pw_below_drewN | apply below_drew1 | refine below_set ?_ GE161.out) | exact HB.out)) hb); clear HO_4; clear BK161; clear HB; have HO_4 := n0_; have HO168 := n1_; have BK161 := n2_; have HB := n3_; clear n0_ n1_ n2_ n3_; clear hb ho12; have hcz13_0 : w11.cell? ⟨gb161, 0, none⟩ = some (.slice A0_0 l0_0.length c0_0) := (blk_cell BK161.out 0).trans rfl; have hcz13_1 : w11.cell? ⟨gb161, 1, none⟩ = some (.slice A0_1 l0_1.length c0_1) := (blk_cell BK161.out 1).trans rfl; have hfz13_0 := blk_frozen BK161.out 0; have hfz13_1 := blk_frozen BK161.out 1))
          go_loopg [5, 32] k1 (fun kq v5 v32 w' => ∃ (x5_2 : List Int) (x32_2 : Int), v32 = .int .i64 x32_2 ∧ Aside0 (impl_PictureLines.l1 kq x4_1 x5_2 (l0_0.length : Int) x26_1 (l0_1.length : Int) x32_2 l0_0 l0_1 = some (r1, r2)) ∧ Aside0 (kq ≤ k1) ∧ Aside0 (Kd.S (Kd.slice 3 (Kd.int .i64)) 36 w' w.heap.size (fun k_ => some k_ ≠ (v5 : Value).ownBlock) u4 x4_1) ∧ Aside0 (Kd.R (Kd.int .i64) 3 w' w.heap.size (fun _ => True) v5 x5_2) ∧ Aside0 (w'.heap[gb161]? = some (.cells #[(.slice A0_0 l0_0.length c0_0), (.slice A0_1 l0_1.length c0_1)] 25 (0, 0))) ∧ Aside0 (Below w.heap.size w w'))
          case atStart => exact ⟨(y166), (0), (by first | rfl | (simp; done) | (simp [*]; done)), H', ⟨Nat.le_refl _⟩, ⟨by (with_reducible repeat (first | apply Kd.S_alloc | apply Kd.S_drewN | apply Kd.S_drew)); exact Kd.S_mono HO_4.out (fun _ hk => by first | exact hk.2 | exact hk | exact hk.1)⟩, ⟨by (with_reducible repeat (first | apply Kd.R_alloc | apply Kd.R_drewN | apply Kd.R_drew)); exact HO168.out⟩, ⟨by (with_reducible repeat (first | refine blk_drewN ?_ _ | refine blk_drew ?_ | refine blk_alloc ?_ _)); exact BK161.out⟩, ⟨by repeat (first | (with_reducible first | exact HB.out | apply below_alloc | apply pw_below_drewN | apply below_drew1 | refine below_set ?_ GE161.out) | exact HB.out)⟩⟩
          case round =>
            clear H'
            try clear c1
            try clear c2
            try clear p2
            try clear c3
            try clear c10
            try clear c10b0
            try clear hcz13_0
            try clear hcz13_1
            try clear hcz5_0
            try clear hcz5_1
            try clear hcz9_0
            try clear hcz9_1
            try clear hfz13_0
            try clear hfz13_1
            try clear hfz5_0
            try clear hfz5_1
            try clear hfz9_0
            try clear hfz9_1
            try clear p2
            obtain ⟨x5_2, x32_2, rfl, HA, HK2, HO_4, HO_5, BK161, HB⟩ := hrel
            cases gk with
            | zero => exact absurd HA.out (by simp [impl_PictureLines.l1])
            | succ k2 =>
              have H := HA.out
              clear HA
              simp only [impl_PictureLines.l1] at H
              by_cases c14 : x32_2 < (l0_1.length : Int)
              · rw [if_pos c14] at H
                have c14b0 : decide (x32_2 < (l0_1.length : Int)) = true := decide_eq_true c14
                clear c14
                by_cases c15 : x5_2.length < 17592186044416
                · rw [if_pos c15] at H
                  have LMc15 := Aside0.mk c15
                  clear c15
                  obtain ⟨y169, hy169⟩ : ∃ y_ : List Int, y_ = (x5_2 ++ [(-1)]) := ⟨_, rfl⟩
                  replace H : (impl_PictureLines.l1 k2 x4_1 y169 (l0_0.length : Int) x26_1 (l0_1.length : Int) (wrap64 (x32_2 + 1)) l0_0 l0_1) = some (r1, r2) := by first | (rw [hy169]; with_reducible exact H) | (have H2_ := (Option.bind_some _ _).symm.trans H; rw [hy169]; with_reducible exact H2_) | (have H2_ := (Option.bind_some _ _).symm.trans H; with_reducible exact H2_) | with_reducible exact H | (rw [hy169]; exact H) | exact H
                  have Ny169 := Aside0.mk hy169
                  clear hy169
                  have H' := Aside0.mk H
                  clear H
                  go_wp2_with (first | ((with_reducible refine gate_builtin (b := .append) (xs := #[.tmp 34, .tmp 35]) rfl ?_); at_builtin; refine Kd.R_append (Kd.int .i64) (w0 := w) w.heap.size rfl (.tmp 34) (.tmp 35) 36 3 (.int .i64 0) 8 rfl Try.underlying36 info3 rfl (by decide) (by omega) u5 x5_2 (-1) [.int .i64 (-1)] (fun _ => True) (fun _ => False) rfl rfl ?aP (fun _ hk => hk.elim) ?aF ?aO ?aB ?aS ?aL ?_; (case aP => exact rfl); (case aB => exact (by repeat (first | (with_reducible first | exact HB.out | apply below_alloc | apply pw_below_drewN | apply below_drew1 | refine below_set ?_ GE161.out) | exact HB.out))); (case aF => exact (fun _ _ => trivial)); (case aO => exact (by (with_reducible repeat (first | apply Kd.R_alloc | apply Kd.R_drewN | apply Kd.R_drew)); exact HO_5.out)); (case aS => exact (below_size (by repeat (first | (with_reducible first | exact HB.out | apply below_alloc | apply pw_below_drewN | apply below_drew1 | refine below_set ?_ GE161.out) | exact HB.out)))); (case aL => have := LMc15.out; omega); intro v170 w16 ho hb hg hat; rw [← Ny169.out] at ho; have n0_ := Aside0.mk (Kd.S_after (ok := (fun _ => True)) (by (with_reducible repeat (first | apply Kd.S_alloc | apply Kd.S_drewN | apply Kd.S_drew)); exact Kd.S_mono HO_4.out (fun _ hk => ⟨trivial, hk⟩)) hg hat); have n1_ := Aside0.mk (blk_grown (g := gb161) (o := .cells #[.slice A0_0 l0_0.length c0_0, .slice A0_1 l0_1.length c0_1] 25 (0, 0)) (by (with_reducible repeat (first | refine blk_drewN ?_ _ | refine blk_drew ?_ | refine blk_alloc ?_ _)); exact BK161.out) hg (Kd.R_ne HO_5.out BK161.out (by decide))); have n2_ := Aside0.mk (hb); have n3_ := Aside0.mk (ho); clear HO_4; clear BK161; clear HB; clear HO_5; have HO_4 := n0_; have BK161 := n1_; have HB := n2_; have HO171 := n3_; clear n0_ n1_ n2_ n3_; clear ho hb hg hat))
                  go_roundg k2
                  case measure => have := HK1.out; have := HK2.out; omega
                  case rel => exact ⟨(y169), (wrap64 (x32_2 + 1)), (by first | rfl | (simp; done) | (simp [*]; done)), H', ⟨by have := HK1.out; have := HK2.out; omega⟩, ⟨by (with_reducible repeat (first | apply Kd.S_alloc | apply Kd.S_drewN | apply Kd.S_drew)); exact Kd.S_mono HO_4.out (fun _ hk => by first | exact hk.2 | exact hk | exact hk.1)⟩, ⟨by (with_reducible repeat (first | apply Kd.R_alloc | apply Kd.R_drewN | apply Kd.R_drew)); exact HO171.out⟩, ⟨by (with_reducible repeat (first | refine blk_drewN ?_ _ | refine blk_drew ?_ | refine blk_alloc ?_ _)); exact BK161.out⟩, ⟨by repeat (first | (with_reducible first | exact HB.out | apply below_alloc | apply pw_below_drewN | apply below_drew1 | refine below_set ?_ GE161.out) | exact HB.out)⟩⟩
                · rw [if_neg c15] at H
                  exact absurd H (by simp)
              · rw [if_neg c14] at H
                have c14b0 : decide (x32_2 < (l0_1.length : Int)) = false := decide_eq_false c14
                clear c14
                by_cases c17 : x4_1.length < 5864062014805
                · rw [if_pos c17] at H
                  have LMc17 := Aside0.mk c17
                  clear c17
                  obtain ⟨y172, hy172⟩ : ∃ y_ : List (List Int), y_ = (x4_1 ++ [x5_2]) := ⟨_, rfl⟩
                  replace H : (impl_PictureLines.l0 k2 y172 (l0_0.length : Int) (wrap64 (x26_1 + 1)) l0_0 l0_1) = some (r1, r2) := by first | (rw [hy172]; with_reducible exact H) | (have H2_ := (Option.bind_some _ _).symm.trans H; rw [hy172]; with_reducible exact H2_) | (have H2_ := (Option.bind_some _ _).symm.trans H; with_reducible exact H2_) | with_reducible exact H | (rw [hy172]; exact H) | exact H
                  have Ny172 := Aside0.mk hy172
                  clear hy172
                  have H' := Aside0.mk H
                  clear H
                  obtain ⟨Ao19, co19, eo19⟩ := Kd.R_slice HO_5.out
                  subst eo19
                  go_wp2_with (first | ((with_reducible refine gate_builtin (b := .append) (xs := #[.tmp 38, .tmp 40]) rfl ?_); at_builtin; refine Kd.S_append (Kd.slice 3 (Kd.int .i64)) (w0 := w) w.heap.size rfl (.tmp 38) (.tmp 40) 23 36 (.slice none 0 0) 24 rfl Try.underlying23 info36 rfl (by decide) (by omega) u4 x4_1 x5_2 [.slice Ao19 x5_2.length co19] (fun _ => True) (fun k_ => some k_ = (.slice Ao19 x5_2.length co19 : Value).ownBlock) rfl rfl ?aP (fun k_ hk_ => ((Kd.R_mono (ok' := fun k_ => ((fun _ => True)) k_ ∧ some k_ ≠ (u4 : Value).ownBlock) (Kd.R_apart' (HO_5.out) (Kd.S_typed HO_4.out) (by decide)) (fun k_ hk => ⟨trivial, hk.2⟩))).1 k_ hk_.symm) ?aF ?aO ?aB ?aS ?aL ?_; (case aP => exact Kd.M_row (Kd.R_mono (Kd.R_tight rfl (Kd.R_mono (ok' := fun k_ => ((fun _ => True)) k_ ∧ some k_ ≠ (u4 : Value).ownBlock) (Kd.R_apart' (HO_5.out) (Kd.S_typed HO_4.out) (by decide)) (fun k_ hk => ⟨trivial, hk.2⟩))) (fun _ h_ => h_))); (case aB => exact (by repeat (first | (with_reducible first | exact HB.out | apply below_alloc | apply pw_below_drewN | apply below_drew1 | refine below_set ?_ GE161.out) | exact HB.out))); (case aF => exact (fun _ _ => trivial)); (case aO => exact (by (with_reducible repeat (first | apply Kd.S_alloc | apply Kd.S_drewN | apply Kd.S_drew)); exact Kd.S_mono HO_4.out (fun k_ hk => ⟨trivial, fun e_ => hk e_⟩))); (case aS => exact (below_size (by repeat (first | (with_reducible first | exact HB.out | apply below_alloc | apply pw_below_drewN | apply below_drew1 | refine below_set ?_ GE161.out) | exact HB.out)))); (case aL => have := LMc17.out; omega); intro v173 w18 ho hb hg hat; rw [← Ny172.out] at ho; have n0_ := Aside0.mk (blk_grown (g := gb161) (o := .cells #[.slice A0_0 l0_0.length c0_0, .slice A0_1 l0_1.length c0_1] 25 (0, 0)) (by (with_reducible repeat (first | refine blk_drewN ?_ _ | refine blk_drew ?_ | refine blk_alloc ?_ _)); exact BK161.out) hg (Kd.S_ne HO_4.out BK161.out (by decide))); have n1_ := Aside0.mk (hb); have n2_ := Aside0.mk (ho); clear BK161; clear HB; clear HO_4; clear HO_5; have BK161 := n0_; have HB := n1_; have HO174 := n2_; clear n0_ n1_ n2_; clear ho hb hg hat))
                  go_roundg k2
                  case measure => have := HK1.out; have := HK2.out; omega
                  case rel => exact ⟨(y172), (wrap64 (x26_1 + 1)), (by first | rfl | (simp; done) | (simp [*]; done)), H', ⟨by have := HK1.out; have := HK2.out; omega⟩, ⟨by (with_reducible repeat (first | apply Kd.S_alloc | apply Kd.S_drewN | apply Kd.S_drew)); exact HO174.out⟩, ⟨by (with_reducible repeat (first | refine blk_drewN ?_ _ | refine blk_drew ?_ | refine blk_alloc ?_ _)); exact BK161.out⟩, ⟨by repeat (first | (with_reducible first | exact HB.out | apply below_alloc | apply pw_below_drewN | apply below_drew1 | refine below_set ?_ GE161.out) | exact HB.out)⟩⟩
                · rw [if_neg c17] at H
                  exact absurd H (by simp)
        · rw [if_neg c10] at H
          have c10b0 : decide (x26_1 < (l0_0.length : Int)) = false := decide_eq_false c10
          clear c10
          have H' := Aside0.mk H
          clear H
          go_wp2
          go_loopg [6] k1 (fun kq v6 w' => ∃ (x4_2 : List (List Int)) (x6_2 : Bool), v6 = .bool x6_2 ∧ Aside0 (impl_PictureLines.l2 kq x4_2 x6_2 l0_0 l0_1 = some (r1, r2)) ∧ Aside0 (kq ≤ k1) ∧ Aside0 (Kd.S (Kd.slice 3 (Kd.int .i64)) 36 w' w.heap.size (fun _ => True) u4 x4_2) ∧ Aside0 (w'.heap[gb161]? = some (.cells #[(.slice A0_0 l0_0.length c0_0), (.slice A0_1 l0_1.length c0_1)] 25 (0, 0))) ∧ Aside0 (Below w.heap.size w w'))
          case atStart => exact ⟨(x4_1), (true), (by first | rfl | (simp; done) | (simp [*]; done)), H', ⟨Nat.le_refl _⟩, ⟨by (with_reducible repeat (first | apply Kd.S_alloc | apply Kd.S_drewN | apply Kd.S_drew)); exact HO_4.out⟩, ⟨by (with_reducible repeat (first | refine blk_drewN ?_ _ | refine blk_drew ?_ | refine blk_alloc ?_ _)); exact BK161.out⟩, ⟨by repeat (first | (with_reducible first | exact HB.out | apply below_alloc | apply pw_below_drewN | apply below_drew1 | refine below_set ?_ GE161.out) | exact HB.out)⟩⟩
          case round =>
            clear H'
            try clear c1
            try clear c2
            try clear p2
            try clear c3
            try clear p6
            try clear c10
            try clear c10b0
            try clear c14
            try clear c14b0
            try clear c15
            try clear c17
            try clear hcz13_0
            try clear hcz13_1
            try clear hcz5_0
            try clear hcz5_1
            try clear hcz9_0
            try clear hcz9_1
            try clear hfz13_0
            try clear hfz13_1
            try clear hfz5_0
            try clear hfz5_1
            try clear hfz9_0
            try clear hfz9_1
            try clear p2
            obtain ⟨x4_2, x6_2, rfl, HA, HK2, HO_4, BK161, HB⟩ := hrel
            cases gk with
            | zero => exact absurd HA.out (by simp [impl_PictureLines.l2])
            | succ k2 =>
              have H := HA.out
              clear HA
              simp only [impl_PictureLines.l2] at H
              by_cases c20 : x6_2 = true
              · subst c20
                have H1 : (impl_PictureLines.l3 k2 x4_2 false l0_0 (l0_0.length : Int) 0 l0_0 l0_1) = some (r1, r2) := by rw [if_pos rfl] at H; exact H
                clear H
                have H := H1
                clear H1
                have H' := Aside0.mk H
                clear H
                have hcz21_0 : wr.cell? ⟨gb161, 0, none⟩ = some (.slice A0_0 l0_0.length c0_0) := (blk_cell BK161.out 0).trans rfl
                have hcz21_1 : wr.cell? ⟨gb161, 1, none⟩ = some (.slice A0_1 l0_1.length c0_1) := (blk_cell BK161.out 1).trans rfl
                have hfz21_0 := blk_frozen BK161.out 0
                have hfz21_1 := blk_frozen BK161.out 1
                go_wp2
                go_loopg [6, 47] k2 (fun kq v6 v47 w' => ∃ (x4_3 : List (List Int)) (x6_3 : Bool) (x47_3 : Int), v6 = .bool x6_3 ∧ v47 = .int .i64 x47_3 ∧ Aside0 (impl_PictureLines.l3 kq x4_3 x6_3 l0_0 (l0_0.length : Int) x47_3 l0_0 l0_1 = some (r1, r2)) ∧ Aside0 (kq ≤ k2) ∧ Aside0 (Kd.S (Kd.slice 3 (Kd.int .i64)) 36 w' w.heap.size (fun _ => True) u4 x4_3) ∧ Aside0 (w'.heap[gb161]? = some (.cells #[(.slice A0_0 l0_0.length c0_0), (.slice A0_1 l0_1.length c0_1)] 25 (0, 0))) ∧ Aside0 (Below w.heap.size w w'))
                case atStart => exact ⟨(x4_2), (false), (0), (by first | rfl | (simp; done) | (simp [*]; done)), (by first | rfl | (simp; done) | (simp [*]; done)), H', ⟨Nat.le_refl _⟩, ⟨by (with_reducible repeat (first | apply Kd.S_alloc | apply Kd.S_drewN | apply Kd.S_drew)); exact HO_4.out⟩, ⟨by (with_reducible repeat (first | refine blk_drewN ?_ _ | refine blk_drew ?_ | refine blk_alloc ?_ _)); exact BK161.out⟩, ⟨by repeat (first | (with_reducible first | exact HB.out | apply below_alloc | apply pw_below_drewN | apply below_drew1 | refine below_set ?_ GE161.out) | exact HB.out)⟩⟩
                case round =>
                  clear H'
                  try clear c1
                  try clear c2
                  try clear p2
                  try clear c3
                  try clear p6
                  try clear c10
                  try clear c10b0
                  try clear c14
                  try clear c14b0
                  try clear c15
                  try clear c17
                  try clear c20
                  try clear hcz13_0
                  try clear hcz13_1
                  try clear hcz21_0
                  try clear hcz21_1
                  try clear hcz5_0
                  try clear hcz5_1
                  try clear hcz9_0
                  try clear hcz9_1
                  try clear hfz13_0
                  try clear hfz13_1
                  try clear hfz21_0
                  try clear hfz21_1
                  try clear hfz5_0
                  try clear hfz5_1
                  try clear hfz9_0
                  try clear hfz9_1
                  try clear p2
                  try clear p6
                  obtain ⟨x4_3, x6_3, x47_3, rfl, rfl, HA, HK3, HO_4, BK161, HB⟩ := hrel
                  cases gk with
                  | zero => exact absurd HA.out (by simp [impl_PictureLines.l3])
                  | succ k3 =>
                    have H := HA.out
                    clear HA
                    simp only [impl_PictureLines.l3] at H
                    by_cases c22 : x47_3 < (l0_0.length : Int)
                    · rw [if_pos c22] at H
                      have c22b0 : decide (x47_3 < (l0_0.length : Int)) = true := decide_eq_true c22
                      clear c22
                      by_cases c23 : 0 ≤ x47_3
                      · rw [if_pos c23] at H
                        have c23b0 : decide (0 ≤ x47_3) = true := decide_eq_true c23
                        clear c23
                        by_cases c24 : x47_3 < (l0_0.length : Int)
                        · rw [if_pos c24] at H
                          have c24b0 : decide (x47_3 < (l0_0.length : Int)) = true := decide_eq_true c24
                          clear c24
                          by_cases c25 : x47_3 < (x4_3.length : Int)
                          · rw [if_pos c25] at H
                            have c25b0 : decide (x47_3 < (x4_3.length : Int)) = true := decide_eq_true c25
                            clear c25
                            replace H := Option.bind_eq_some_iff.mp H
                            obtain ⟨⟨t177, t178⟩, A260, H⟩ := H
                            replace H : (if t178 = true then (if x6_3 = true then (impl_PictureLines.l3 k3 (x4_3.set (x47_3 : Int).toNat t177) true l0_0 (l0_0.length : Int) (wrap64 (x47_3 + 1)) l0_0 l0_1) else ((slices_Equal_int_int.f k3 t177 (rd_L1 x4_3 x47_3)).bind fun t183 => (impl_PictureLines.l3 k3 (x4_3.set (x47_3 : Int).toNat t177) (!t183) l0_0 (l0_0.length : Int) (wrap64 (x47_3 + 1)) l0_0 l0_1))) else (some (([] : List (List Int)), false))) = some (r1, r2) := H
                            have A26 := Aside0.mk A260
                            clear A260
                            by_cases c27 : t178 = true
                            · subst c27
                              have H1 : (if x6_3 = true then (impl_PictureLines.l3 k3 (x4_3.set (x47_3 : Int).toNat t177) true l0_0 (l0_0.length : Int) (wrap64 (x47_3 + 1)) l0_0 l0_1) else ((slices_Equal_int_int.f k3 t177 (rd_L1 x4_3 x47_3)).bind fun t183 => (impl_PictureLines.l3 k3 (x4_3.set (x47_3 : Int).toNat t177) (!t183) l0_0 (l0_0.length : Int) (wrap64 (x47_3 + 1)) l0_0 l0_1))) = some (r1, r2) := by rw [if_pos rfl] at H; exact H
                              clear H
                              have H := H1
                              clear H1
                              by_cases c28 : x6_3 = true
                              · subst c28
                                have H1 : (impl_PictureLines.l3 k3 (x4_3.set (x47_3 : Int).toNat t177) true l0_0 (l0_0.length : Int) (wrap64 (x47_3 + 1)) l0_0 l0_1) = some (r1, r2) := by rw [if_pos rfl] at H; exact H
                                clear H
                                have H := H1
                                clear H1
                                obtain ⟨y181, hy181⟩ : ∃ y_ : List (List Int), y_ = (x4_3.set (x47_3 : Int).toNat t177) := ⟨_, rfl⟩
                                replace H : (impl_PictureLines.l3 k3 y181 true l0_0 (l0_0.length : Int) (wrap64 (x47_3 + 1)) l0_0 l0_1) = some (r1, r2) := by first | (rw [hy181]; with_reducible exact H) | (have H2_ := (Option.bind_some _ _).symm.trans H; rw [hy181]; with_reducible exact H2_) | (have H2_ := (Option.bind_some _ _).symm.trans H; with_reducible exact H2_) | with_reducible exact H | (rw [hy181]; exact H) | exact H
                                have Ny181 := Aside0.mk hy181
                                clear hy181
                                have H' := Aside0.mk H
                                clear H
                                have p175 : 0 ≤ (x47_3 : Int) := of_decide_eq_true (by first | (with_reducible assumption) | assumption)
                                have q175 : x47_3 < (l0_0.length : Int) := of_decide_eq_true (by first | (with_reducible assumption) | assumption)
                                obtain ⟨ad175, A175_0, c175_0, e175, hx175_0, hl175_0, hi175_0⟩ := at_L1 HR0_0.out x47_3 p175 q175
                                cases e175
                                replace hx175_0 := (HB.out.cell (World.block_lt_of_cell? w _ hx175_0)).trans hx175_0
                                have HR175_0 := Aside0.mk hi175_0
                                have HC175_0 := Aside0.mk hl175_0
                                clear hi175_0 hl175_0
                                replace p175 := eq_true p175
                                replace q175 := eq_true q175
                                obtain ⟨Ao30, co30, eo30⟩ := Kd.S_slice HO_4.out
                                subst eo30
                                have p176 : 0 ≤ (x47_3 : Int) := of_decide_eq_true (by first | (with_reducible assumption) | assumption)
                                have q176 : x47_3 < (x4_3.length : Int) := of_decide_eq_true (by first | (with_reducible assumption) | assumption)
                                obtain ⟨ad176, A176_0, c176_0, e176, hx176_0, hl176_0, hi176_0⟩ := at_L1 (Kd.S_reads' HO_4.out).2.2 x47_3 p176 q176
                                cases e176
                                obtain ⟨ce176, hce176, hMe176, hcc176⟩ := Kd.S_get HO_4.out [] x47_3 p176 (by first | exact q176 | exact of_decide_eq_true (by first | (with_reducible assumption) | assumption) | (have e_ := (Kd.S_reads' HO_4.out).1; omega))
                                obtain ⟨ve176_0, rfl, ge176_0⟩ := hMe176
                                have hv176_0 := hcc176 0 _ rfl
                                rw [Nat.add_zero, show ((Kd.slice 3 (Kd.int .i64))).sz = 1 from rfl, Nat.mul_one] at hv176_0
                                replace hv176_0 := Option.some.inj (hv176_0.symm.trans hx176_0)
                                rw [hv176_0] at ge176_0
                                have HL176_0 := Aside0.mk (show Kd.R (Kd.int .i64) 3 _ _ _ _ (rd_L1 x4_3 x47_3) from ge176_0)
                                clear hv176_0 ge176_0
                                have HX176_0 := Aside0.mk hx176_0
                                clear hcc176 hce176
                                have HR176_0 := Aside0.mk hi176_0
                                have HC176_0 := Aside0.mk hl176_0
                                clear hi176_0 hl176_0
                                replace p176 := eq_true p176
                                replace q176 := eq_true q176
                                go_wp2_with (first | ((with_reducible refine gate_callee (f := 47) rfl ?_); refine goesL_ (some 58) rfl rfl Try.func47 (by kernel_rfl) rfl #[.slice A175_0 (rd_L1 l0_0 x47_3).length c175_0, .slice A176_0 (rd_L1 x4_3 x47_3).length c176_0] rfl (by (try simp only [List.map_toArray, List.map_cons, List.map_nil]); first | done | rfl | (simp only [List.length_drop, List.length_take]; rfl)) ?_; (with_reducible refine (impl_LineForced.calls k3 _ _ (rd_L1 l0_0 x47_3) _ _ (rd_L1 x4_3 x47_3) t177 true _ ?side1 ?side2 ?side3 ?side4 A26.out).mono ?_); (case side1 => repeat (first | exact (Kd.C_below HR175_0.out HB.out) | (with_reducible refine Kd.C_alloc ?_ _) | (with_reducible refine Kd.C_drewN ?_ _) | (with_reducible refine Kd.C_drew ?_))); (case side2 => exact HC175_0.out); (case side3 => repeat (first | exact (by repeat (first | (with_reducible exact HR176_0.out) | (with_reducible refine Kd.C_alloc ?_ _) | (with_reducible refine Kd.C_drewN ?_ _) | (with_reducible refine Kd.C_drew ?_) | exact HR176_0.out)) | (with_reducible refine Kd.C_alloc ?_ _) | (with_reducible refine Kd.C_drewN ?_ _) | (with_reducible refine Kd.C_drew ?_))); (case side4 => exact HC176_0.out); rintro e w31 ⟨v179, rfl, ho0, hb⟩; refine ⟨_, rfl, ?_⟩; have n0_ := Aside0.mk (Kd.S_elder' (by (with_reducible repeat (first | apply Kd.S_alloc | apply Kd.S_drewN | apply Kd.S_drew)); exact HO_4.out) (Kd.R_base ho0) hb); have n1_ := Aside0.mk (Kd.R_elder' (by (with_reducible repeat (first | apply Kd.R_alloc | apply Kd.R_drewN | apply Kd.R_drew)); exact HL176_0.out) (Kd.R_base ho0) hb); have n2_ := Aside0.mk (Kd.R_lower (Kd.R_new' ho0 (Kd.R_lt (by (with_reducible repeat (first | apply Kd.R_alloc | apply Kd.R_drewN | apply Kd.R_drew)); exact HL176_0.out))) (below_size (by repeat (first | (with_reducible first | exact HB.out | apply below_alloc | apply pw_below_drewN | apply below_drew1 | refine below_set ?_ GE161.out) | exact HB.out)))); have n3_ := Aside0.mk (blk_below (g := gb161) (o := .cells #[.slice (some ad175) l0_0.length c0_0, .slice A0_1 l0_1.length c0_1] 25 (0, 0)) (by (with_reducible repeat (first | refine blk_drewN ?_ _ | refine blk_drew ?_ | refine blk_alloc ?_ _)); exact BK161.out) hb); have n4_ := Aside0.mk (Kd.C_below (by repeat (first | (with_reducible exact HR176_0.out) | (with_reducible refine Kd.C_alloc ?_ _) | (with_reducible refine Kd.C_drewN ?_ _) | (with_reducible refine Kd.C_drew ?_) | exact HR176_0.out)) hb); have n5_ := Aside0.mk (pw_cell_below hb HX176_0.out); have n6_ := Aside0.mk (below_step (by repeat (first | (with_reducible first | exact HB.out | apply below_alloc | apply pw_below_drewN | apply below_drew1 | refine below_set ?_ GE161.out) | exact HB.out)) hb); clear HO_4; clear HL176_0; clear BK161; clear HR176_0; clear HX176_0; clear HB; have HO_4 := n0_; have HL176_0 := n1_; have HO180 := n2_; have BK161 := n3_; have HR176_0 := n4_; have HX176_0 := n5_; have HB := n6_; clear n0_ n1_ n2_ n3_ n4_ n5_ n6_; (try clear hb); (try clear hb2); (try clear hk); (try clear hi); (try clear ho0); have p29 : 0 ≤ (x47_3 : Int) := of_decide_eq_true (by first | (with_reducible assumption) | assumption); have q29 : (x47_3 : Int) < ((x4_3.length : Int) : Int) := of_decide_eq_true (by first | (with_reducible assumption) | assumption); obtain ⟨go29, co29, eo29, gb29, gl29, cl29, HG29⟩ := Kd.S_form HO_4.out (by omega); (first | cases eo29 | (injection eo29 with ea_ en_ ec_; (first | subst ea_ | (injection ea_ with ea_; subst ea_)); subst ec_; clear en_)); have GB29 := Aside0.mk gb29; have GG29 := Aside0.mk HG29; clear gb29 gl29 HG29; (first | simp only [add_plain] at hx176_0 | skip); obtain ⟨_, ce29, hcl29, hM29, hcc29, hfr29, _, _⟩ := Kd.S_elem HO_4.out [] (x47_3 : Int) p29 q29; obtain ⟨ve29_0, rfl, ge29_0⟩ := hM29; have hx29_0 := hcc29 0 _ rfl; have hf29_0 := hfr29 0; (try simp only [show ((Kd.slice 3 (Kd.int .i64))).sz = 1 from rfl, Nat.mul_one, Nat.add_zero] at hx29_0); (try simp only [show ((Kd.slice 3 (Kd.int .i64))).sz = 1 from rfl, Nat.mul_one, Nat.add_zero] at hf29_0); clear hcl29 hcc29 hfr29; replace p29 := eq_true p29; replace q29 := eq_true q29; have n_ := Aside0.mk (Kd.S_mono (ok' := (fun k_ => some k_ ≠ (v179 : Value).ownBlock)) HO_4.out (fun k_ hk => by first | exact hk.2 | exact hk | exact hk.1)); clear HO_4; have HO_4 := n_; clear n_; have HX32 := Aside0.mk (show Kd.S (Kd.slice 3 (Kd.int .i64)) 36 w31 w.heap.size (fun k_ => ((fun _ => True)) k_ ∧ ¬ ((fun k_ => some k_ = (v179 : Value).ownBlock)) k_) (.slice (some ⟨go29, 0, none⟩) x4_3.length co30) x4_3 from (by (with_reducible repeat (first | apply Kd.S_alloc | apply Kd.S_drewN | apply Kd.S_drew)); exact Kd.S_mono HO_4.out (fun k_ hk => ⟨trivial, fun e_ => hk e_⟩))); obtain ⟨oki32, ce32, hcl32, hM32, hcc32, hfr32, hoki32, hH32⟩ := Kd.S_elem HX32.out [] (x47_3 : Int) (of_decide_eq_true (by first | (with_reducible assumption) | assumption)) (by have h_ : (x47_3 : Int) < ((x4_3.length : Int) : Int) := of_decide_eq_true (by first | (with_reducible assumption) | assumption); first | exact h_ | (have e_ := (Kd.S_reads' HO_4.out).1; omega) | simpa using h_); obtain ⟨ve32_0, rfl, ge32_0⟩ := hM32; have HP32 := Kd.S_seg hH32 (of_decide_eq_true (by first | (with_reducible assumption) | assumption)) (by have h_ : (x47_3 : Int) < ((x4_3.length : Int) : Int) := of_decide_eq_true (by first | (with_reducible assumption) | assumption); first | exact h_ | (have e_ := (Kd.S_reads' HO_4.out).1; omega) | simpa using h_) (seg := [v179]) (j := 0) (show 1 ≤ 1 from by decide) (x' := t177) (Kd.M_row (Kd.R_mono (Kd.R_tight rfl (Kd.R_mono (ok' := fun k_ => ((fun _ => True)) k_ ∧ k_ ≠ go29) (Kd.R_apart' (HO180.out) (Kd.S_typed HO_4.out) (by decide)) (fun k_ hk => ⟨trivial, fun e_ => (hk.2) (by rw [e_]; rfl)⟩))) (fun _ h_ => Or.inr (h_)))) (fun _ hk => hk) (fun k_ hk_ => ((Kd.R_mono (ok' := fun k_ => ((fun _ => True)) k_ ∧ k_ ≠ go29) (Kd.R_apart' (HO180.out) (Kd.S_typed HO_4.out) (by decide)) (fun k_ hk => ⟨trivial, fun e_ => (hk.2) (by rw [e_]; rfl)⟩))).1 k_ hk_.symm); have hx32_0 := hcc32 0 _ rfl; (try simp only [show ((Kd.slice 3 (Kd.int .i64))).sz = 1 from rfl, Nat.mul_one, Nat.add_zero] at hx32_0); have hf32_0 := hfr32 0; (try simp only [show ((Kd.slice 3 (Kd.int .i64))).sz = 1 from rfl, Nat.mul_one, Nat.add_zero] at hf32_0); clear hcl32 hcc32 hfr32 hoki32 hH32; (try simp only [show ((Kd.slice 3 (Kd.int .i64))).sz = 1 from rfl, Nat.mul_one, Nat.add_zero] at HP32)) | ((with_reducible refine gate_store (t := 36) (p := 76) rfl ?_); refine store_event (t := 36) (p := 76) (v := ?vo_w33) (w1 := (w31.setCell ⟨go29, (x47_3 : Int).toNat, none⟩ (v179))) ?hg ?ho ?hn ?hr ?_; (case ho => rfl); (case hg => rfl); (case hn => rfl); (case hr => first | (go_simp; done) | (go_simp; rfl) | (obtain ⟨A_, c_, e_⟩ := Kd.R_slice HO180.out; rw [e_]; go_simp; done) | (obtain ⟨A_, c_, e_⟩ := Kd.R_slice HO180.out; rw [e_]; go_simp; rfl)); intro w33 hw; have hg : w31.grownBy w33 (some go29) := (by rw [hw]; exact HP32.2); have hp_ : Kd.S (Kd.slice 3 (Kd.int .i64)) 36 w33 w.heap.size (fun _ => True) (.slice (some ⟨go29, 0, none⟩) x4_3.length co30) y181 := (by rw [hw, Ny181.out]; exact HP32.1); clear HP32; have n0_ := Aside0.mk (hp_); have n1_ := Aside0.mk (blk_grown (g := gb161) (o := .cells #[.slice (some ad175) l0_0.length c0_0, .slice A0_1 l0_1.length c0_1] 25 (0, 0)) (by (with_reducible repeat (first | refine blk_drewN ?_ _ | refine blk_drew ?_ | refine blk_alloc ?_ _)); exact BK161.out) hg (Kd.S_ne HO_4.out BK161.out (by decide))); have n2_ := Aside0.mk (Kd.R_after (v := (.slice (some ⟨go29, 0, none⟩) x4_3.length co30)) (v1 := (.slice (some ⟨go29, 0, none⟩) x4_3.length co30)) (ok := (fun k_ => some k_ ≠ (v179 : Value).ownBlock)) (by (with_reducible repeat (first | apply Kd.R_alloc | apply Kd.R_drewN | apply Kd.R_drew)); exact Kd.R_mono HL176_0.out (fun _ hk => by first | exact ⟨hk.2, hk.1.2⟩ | exact ⟨hk.1, hk.2⟩ | exact ⟨hk.2, hk.1⟩ | exact ⟨hk.1.2, hk.2⟩ | exact ⟨hk.1.1, hk.2⟩ | exact ⟨hk.1, hk.2.2⟩)) hg (.inl rfl)); have n3_ := Aside0.mk ((by rw [hw]; exact below_set (HB.out) GB29.out : Below w.heap.size w w33)); clear HO_4; clear BK161; clear HL176_0; clear HB; clear HO180; have HO_4 := n0_; have BK161 := n1_; have HL176_0 := n2_; have HB := n3_; clear n0_ n1_ n2_ n3_; clear hg hw hp_))
                                go_roundg k3
                                case measure => have := HK1.out; have := HK2.out; have := HK3.out; omega
                                case rel => exact ⟨(y181), (true), (wrap64 (x47_3 + 1)), (by first | rfl | (simp; done) | (simp [*]; done)), (by first | rfl | (simp; done) | (simp [*]; done)), H', ⟨by have := HK1.out; have := HK2.out; have := HK3.out; omega⟩, ⟨by (with_reducible repeat (first | apply Kd.S_alloc | apply Kd.S_drewN | apply Kd.S_drew)); exact HO_4.out⟩, ⟨by (with_reducible repeat (first | refine blk_drewN ?_ _ | refine blk_drew ?_ | refine blk_alloc ?_ _)); exact BK161.out⟩, ⟨by repeat (first | (with_reducible first | exact HB.out | apply below_alloc | apply pw_below_drewN | apply below_drew1 | refine below_set ?_ GE161.out) | exact HB.out)⟩⟩
                              · replace c28 := Bool.eq_false_iff.mpr c28
                                subst c28
                                have H1 : ((slices_Equal_int_int.f k3 t177 (rd_L1 x4_3 x47_3)).bind fun t183 => (impl_PictureLines.l3 k3 (x4_3.set (x47_3 : Int).toNat t177) (!t183) l0_0 (l0_0.length : Int) (wrap64 (x47_3 + 1)) l0_0 l0_1)) = some (r1, r2) := by rw [if_neg (show ¬ (false = true) by decide)] at H; exact H
                                clear H
                                have H := H1
                                clear H1
                                replace H := Option.bind_eq_some_iff.mp H
                                obtain ⟨t183, A340, H⟩ := H
                                replace H : (impl_PictureLines.l3 k3 (x4_3.set (x47_3 : Int).toNat t177) (!t183) l0_0 (l0_0.length : Int) (wrap64 (x47_3 + 1)) l0_0 l0_1) = some (r1, r2) := H
                                have A34 := Aside0.mk A340
                                clear A340
                                obtain ⟨y184, hy184⟩ : ∃ y_ : List (List Int), y_ = (x4_3.set (x47_3 : Int).toNat t177) := ⟨_, rfl⟩
                                replace H : (impl_PictureLines.l3 k3 y184 (!t183) l0_0 (l0_0.length : Int) (wrap64 (x47_3 + 1)) l0_0 l0_1) = some (r1, r2) := by first | (rw [hy184]; with_reducible exact H) | (have H2_ := (Option.bind_some _ _).symm.trans H; rw [hy184]; with_reducible exact H2_) | (have H2_ := (Option.bind_some _ _).symm.trans H; with_reducible exact H2_) | with_reducible exact H | (rw [hy184]; exact H) | exact H
                                have Ny184 := Aside0.mk hy184
                                clear hy184
                                have H' := Aside0.mk H
                                clear H
                                have p175 : 0 ≤ (x47_3 : Int) := of_decide_eq_true (by first | (with_reducible assumption) | assumption)
                                have q175 : x47_3 < (l0_0.length : Int) := of_decide_eq_true (by first | (with_reducible assumption) | assumption)
                                obtain ⟨ad175, A175_0, c175_0, e175, hx175_0, hl175_0, hi175_0⟩ := at_L1 HR0_0.out x47_3 p175 q175
                                cases e175
                                replace hx175_0 := (HB.out.cell (World.block_lt_of_cell? w _ hx175_0)).trans hx175_0
                                have HR175_0 := Aside0.mk hi175_0
                                have HC175_0 := Aside0.mk hl175_0
                                clear hi175_0 hl175_0
                                replace p175 := eq_true p175
                                replace q175 := eq_true q175
                                obtain ⟨Ao36, co36, eo36⟩ := Kd.S_slice HO_4.out
                                subst eo36
                                have p176 : 0 ≤ (x47_3 : Int) := of_decide_eq_true (by first | (with_reducible assumption) | assumption)
                                have q176 : x47_3 < (x4_3.length : Int) := of_decide_eq_true (by first | (with_reducible assumption) | assumption)
                                obtain ⟨ad176, A176_0, c176_0, e176, hx176_0, hl176_0, hi176_0⟩ := at_L1 (Kd.S_reads' HO_4.out).2.2 x47_3 p176 q176
                                cases e176
                                obtain ⟨ce176, hce176, hMe176, hcc176⟩ := Kd.S_get HO_4.out [] x47_3 p176 (by first | exact q176 | exact of_decide_eq_true (by first | (with_reducible assumption) | assumption) | (have e_ := (Kd.S_reads' HO_4.out).1; omega))
                                obtain ⟨ve176_0, rfl, ge176_0⟩ := hMe176
                                have hv176_0 := hcc176 0 _ rfl
                                rw [Nat.add_zero, show ((Kd.slice 3 (Kd.int .i64))).sz = 1 from rfl, Nat.mul_one] at hv176_0
                                replace hv176_0 := Option.some.inj (hv176_0.symm.trans hx176_0)
                                rw [hv176_0] at ge176_0
                                have HL176_0 := Aside0.mk (show Kd.R (Kd.int .i64) 3 _ _ _ _ (rd_L1 x4_3 x47_3) from ge176_0)
                                clear hv176_0 ge176_0
                                have HX176_0 := Aside0.mk hx176_0
                                clear hcc176 hce176
                                have HR176_0 := Aside0.mk hi176_0
                                have HC176_0 := Aside0.mk hl176_0
                                clear hi176_0 hl176_0
                                replace p176 := eq_true p176
                                replace q176 := eq_true q176
                                go_wp2_with (first | ((with_reducible refine gate_callee (f := 47) rfl ?_); refine goesL_ (some 58) rfl rfl Try.func47 (by kernel_rfl) rfl #[.slice A175_0 (rd_L1 l0_0 x47_3).length c175_0, .slice A176_0 (rd_L1 x4_3 x47_3).length c176_0] rfl (by (try simp only [List.map_toArray, List.map_cons, List.map_nil]); first | done | rfl | (simp only [List.length_drop, List.length_take]; rfl)) ?_; (with_reducible refine (impl_LineForced.calls k3 _ _ (rd_L1 l0_0 x47_3) _ _ (rd_L1 x4_3 x47_3) t177 true _ ?side1 ?side2 ?side3 ?side4 A26.out).mono ?_); (case side1 => repeat (first | exact (Kd.C_below HR175_0.out HB.out) | (with_reducible refine Kd.C_alloc ?_ _) | (with_reducible refine Kd.C_drewN ?_ _) | (with_reducible refine Kd.C_drew ?_))); (case side2 => exact HC175_0.out); (case side3 => repeat (first | exact (by repeat (first | (with_reducible exact HR176_0.out) | (with_reducible refine Kd.C_alloc ?_ _) | (with_reducible refine Kd.C_drewN ?_ _) | (with_reducible refine Kd.C_drew ?_) | exact HR176_0.out)) | (with_reducible refine Kd.C_alloc ?_ _) | (with_reducible refine Kd.C_drewN ?_ _) | (with_reducible refine Kd.C_drew ?_))); (case side4 => exact HC176_0.out); rintro e w37 ⟨v179, rfl, ho0, hb⟩; refine ⟨_, rfl, ?_⟩; have n0_ := Aside0.mk (Kd.S_elder' (by (with_reducible repeat (first | apply Kd.S_alloc | apply Kd.S_drewN | apply Kd.S_drew)); exact HO_4.out) (Kd.R_base ho0) hb); have n1_ := Aside0.mk (Kd.R_elder' (by (with_reducible repeat (first | apply Kd.R_alloc | apply Kd.R_drewN | apply Kd.R_drew)); exact HL176_0.out) (Kd.R_base ho0) hb); have n2_ := Aside0.mk (Kd.R_lower (Kd.R_new' ho0 (Kd.R_lt (by (with_reducible repeat (first | apply Kd.R_alloc | apply Kd.R_drewN | apply Kd.R_drew)); exact HL176_0.out))) (below_size (by repeat (first | (with_reducible first | exact HB.out | apply below_alloc | apply pw_below_drewN | apply below_drew1 | refine below_set ?_ GE161.out) | exact HB.out)))); have n3_ := Aside0.mk (blk_below (g := gb161) (o := .cells #[.slice (some ad175) l0_0.length c0_0, .slice A0_1 l0_1.length c0_1] 25 (0, 0)) (by (with_reducible repeat (first | refine blk_drewN ?_ _ | refine blk_drew ?_ | refine blk_alloc ?_ _)); exact BK161.out) hb); have n4_ := Aside0.mk (Kd.C_below (by repeat (first | (with_reducible exact HR176_0.out) | (with_reducible refine Kd.C_alloc ?_ _) | (with_reducible refine Kd.C_drewN ?_ _) | (with_reducible refine Kd.C_drew ?_) | exact HR176_0.out)) hb); have n5_ := Aside0.mk (pw_cell_below hb HX176_0.out); have n6_ := Aside0.mk (below_step (by repeat (first | (with_reducible first | exact HB.out | apply below_alloc | apply pw_below_drewN | apply below_drew1 | refine below_set ?_ GE161.out) | exact HB.out)) hb); clear HO_4; clear HL176_0; clear BK161; clear HR176_0; clear HX176_0; clear HB; have HO_4 := n0_; have HL176_0 := n1_; have HO180 := n2_; have BK161 := n3_; have HR176_0 := n4_; have HX176_0 := n5_; have HB := n6_; clear n0_ n1_ n2_ n3_ n4_ n5_ n6_; (try clear hb); (try clear hb2); (try clear hk); (try clear hi); (try clear ho0); have p182 : 0 ≤ (x47_3 : Int) := of_decide_eq_true (by first | (with_reducible assumption) | assumption); have q182 : x47_3 < (x4_3.length : Int) := of_decide_eq_true (by first | (with_reducible assumption) | assumption); obtain ⟨ad182, A182_0, c182_0, e182, hx182_0, hl182_0, hi182_0⟩ := at_L1 (Kd.S_reads' HO_4.out).2.2 x47_3 p182 q182; obtain rfl : ad176 = ad182 := (by injection e182); obtain ⟨ce182, hce182, hMe182, hcc182⟩ := Kd.S_get HO_4.out [] x47_3 p182 (by first | exact q182 | exact of_decide_eq_true (by first | (with_reducible assumption) | assumption) | (have e_ := (Kd.S_reads' HO_4.out).1; omega)); obtain ⟨ve182_0, rfl, ge182_0⟩ := hMe182; have hv182_0 := hcc182 0 _ rfl; rw [Nat.add_zero, show ((Kd.slice 3 (Kd.int .i64))).sz = 1 from rfl, Nat.mul_one] at hv182_0; replace hv182_0 := Option.some.inj (hv182_0.symm.trans hx182_0); rw [hv182_0] at ge182_0; have HL182_0 := Aside0.mk (show Kd.R (Kd.int .i64) 3 _ _ _ _ (rd_L1 x4_3 x47_3) from ge182_0); clear hv182_0 ge182_0; have HX182_0 := Aside0.mk hx182_0; clear hcc182 hce182; have HR182_0 := Aside0.mk hi182_0; have HC182_0 := Aside0.mk hl182_0; clear hi182_0 hl182_0; replace p182 := eq_true p182; replace q182 := eq_true q182; obtain ⟨Ao38, co38, eo38⟩ := Kd.R_slice HO180.out; subst eo38) | (go_at_call 48; (with_reducible refine (slices_Equal_int_int.calls k3 _ _ t177 _ _ (rd_L1 x4_3 x47_3) t183 _ ?side1 ?side2 ?side3 ?side4 A34.out).mono ?_); (case side1 => repeat (first | exact (Kd.R_reads' HO180.out).2.2 | (with_reducible refine Kd.C_alloc ?_ _) | (with_reducible refine Kd.C_drewN ?_ _) | (with_reducible refine Kd.C_drew ?_))); (case side2 => exact (Kd.R_reads' HO180.out).2.1); (case side3 => repeat (first | exact (by repeat (first | (with_reducible exact HR182_0.out) | (with_reducible refine Kd.C_alloc ?_ _) | (with_reducible refine Kd.C_drewN ?_ _) | (with_reducible refine Kd.C_drew ?_) | exact HR182_0.out)) | (with_reducible refine Kd.C_alloc ?_ _) | (with_reducible refine Kd.C_drewN ?_ _) | (with_reducible refine Kd.C_drew ?_))); (case side4 => exact HC182_0.out); rintro e w' ⟨rfl, ⟨nd, rfl⟩⟩; (try (rw [drewN_self w37]; generalize hq_ : World.drewN w37 _ = w37; have n0_ : Aside0 (Kd.R (Kd.int .i64) 3 w37 w.heap.size (fun k_ => some k_ ≠ (.slice Ao38 t177.length co38 : Value).ownBlock ∧ some k_ ≠ (.slice (some ad176) x4_3.length co36 : Value).ownBlock) (.slice A176_0 (rd_L1 x4_3 x47_3).length c176_0) (rd_L1 x4_3 x47_3)) := ⟨by rw [← hq_]; exact (by (with_reducible repeat (first | apply Kd.R_alloc | apply Kd.R_drewN | apply Kd.R_drew)); first | exact Kd.R_mono HL176_0.out (fun _ hk => by first | exact ⟨hk.2, hk.1.2⟩ | exact ⟨hk.1, hk.2⟩ | exact ⟨hk.2, hk.1⟩ | exact ⟨hk.1.2, hk.2⟩ | exact ⟨hk.1.1, hk.2⟩ | exact ⟨hk.1, hk.2.2⟩) | exact Kd.R_mono (Kd.R_apart' HL176_0.out (Kd.S_typed HO_4.out) (by decide)) (fun _ hk => by first | exact ⟨hk.1, hk.2⟩ | exact ⟨hk.2, hk.1⟩ | exact ⟨hk.1.1, hk.2⟩ | exact ⟨hk.1.2, hk.2⟩ | exact ⟨hk.2, hk.1.1⟩ | exact ⟨hk.2, hk.1.2⟩ | exact hk))⟩; have n1_ : Aside0 (Kd.R (Kd.int .i64) 3 w37 w.heap.size (fun k_ => some k_ ≠ (.slice Ao38 t177.length co38 : Value).ownBlock ∧ some k_ ≠ (.slice (some ad176) x4_3.length co36 : Value).ownBlock) (.slice A182_0 (rd_L1 x4_3 x47_3).length c182_0) (rd_L1 x4_3 x47_3)) := ⟨by rw [← hq_]; exact (by (with_reducible repeat (first | apply Kd.R_alloc | apply Kd.R_drewN | apply Kd.R_drew)); first | exact Kd.R_mono HL182_0.out (fun _ hk => by first | exact ⟨hk.1.2, hk.2⟩ | exact ⟨hk.1, hk.2⟩ | exact ⟨hk.2, hk.1⟩ | exact ⟨hk.2, hk.1.2⟩ | exact ⟨hk.1.1, hk.2⟩ | exact ⟨hk.1, hk.2.2⟩) | exact Kd.R_mono (Kd.R_apart' HL182_0.out (Kd.S_typed HO_4.out) (by decide)) (fun _ hk => by first | exact ⟨hk.1, hk.2⟩ | exact ⟨hk.2, hk.1⟩ | exact ⟨hk.1.1, hk.2⟩ | exact ⟨hk.1.2, hk.2⟩ | exact ⟨hk.2, hk.1.1⟩ | exact ⟨hk.2, hk.1.2⟩ | exact hk))⟩; have n2_ : Aside0 (Kd.R (Kd.int .i64) 3 w37 w.heap.size (fun k_ => some k_ ≠ (.slice A176_0 (rd_L1 x4_3 x47_3).length c176_0 : Value).ownBlock) (.slice Ao38 t177.length co38) t177) := ⟨by rw [← hq_]; exact (by (with_reducible repeat (first | apply Kd.R_alloc | apply Kd.R_drewN | apply Kd.R_drew)); exact Kd.R_mono HO180.out (fun _ hk => by first | exact hk.2 | exact hk | exact hk.1))⟩; have n3_ : Aside0 (Kd.S (Kd.slice 3 (Kd.int .i64)) 36 w37 w.heap.size (fun k_ => some k_ ≠ (.slice Ao38 t177.length co38 : Value).ownBlock) (.slice (some ad176) x4_3.length co36) x4_3) := ⟨by rw [← hq_]; exact (by (with_reducible repeat (first | apply Kd.S_alloc | apply Kd.S_drewN | apply Kd.S_drew)); exact Kd.S_mono HO_4.out (fun _ hk => by first | exact hk.2 | exact hk | exact hk.1))⟩; have n4_ : Aside0 (w37.heap[gb161]? = some (.cells #[.slice (some ad175) l0_0.length c0_0, .slice A0_1 l0_1.length c0_1] 25 (0, 0))) := ⟨by rw [← hq_]; exact (by (with_reducible repeat (first | refine blk_drewN ?_ _ | refine blk_drew ?_ | refine blk_alloc ?_ _)); exact BK161.out)⟩; have n5_ : Aside0 (Below w.heap.size w w37) := ⟨by rw [← hq_]; exact (by repeat (first | (with_reducible first | exact HB.out | apply below_alloc | apply pw_below_drewN | apply below_drew1 | refine below_set ?_ GE161.out) | exact HB.out))⟩; have n6_ : Aside0 (Kd.C (Kd.int .i64) w37 A176_0 (rd_L1 x4_3 x47_3).length (rd_L1 x4_3 x47_3)) := ⟨by rw [← hq_]; exact (by repeat (first | (with_reducible exact HR176_0.out) | (with_reducible refine Kd.C_alloc ?_ _) | (with_reducible refine Kd.C_drewN ?_ _) | (with_reducible refine Kd.C_drew ?_) | exact HR176_0.out))⟩; have n7_ : Aside0 (Kd.C (Kd.int .i64) w37 A182_0 (rd_L1 x4_3 x47_3).length (rd_L1 x4_3 x47_3)) := ⟨by rw [← hq_]; exact (by repeat (first | (with_reducible exact HR182_0.out) | (with_reducible refine Kd.C_alloc ?_ _) | (with_reducible refine Kd.C_drewN ?_ _) | (with_reducible refine Kd.C_drew ?_) | exact HR182_0.out))⟩; clear HL176_0 HL182_0 HO180 HO_4 BK161 HB HR176_0 HR182_0 hq_; have HL176_0 := n0_; have HL182_0 := n1_; have HO180 := n2_; have HO_4 := n3_; have BK161 := n4_; have HB := n5_; have HR176_0 := n6_; have HR182_0 := n7_; clear n0_ n1_ n2_ n3_ n4_ n5_ n6_ n7_)); have p35 : 0 ≤ (x47_3 : Int) := of_decide_eq_true (by first | (with_reducible assumption) | assumption); have q35 : (x47_3 : Int) < ((x4_3.length : Int) : Int) := of_decide_eq_true (by first | (with_reducible assumption) | assumption); obtain ⟨go35, co35, eo35, gb35, gl35, cl35, HG35⟩ := Kd.S_form HO_4.out (by omega); (first | cases eo35 | (injection eo35 with ea_ en_ ec_; (first | subst ea_ | (injection ea_ with ea_; subst ea_)); subst ec_; clear en_)); have GB35 := Aside0.mk gb35; have GG35 := Aside0.mk HG35; clear gb35 gl35 HG35; (first | simp only [add_plain] at hx176_0 | skip); (first | simp only [add_plain] at hx182_0 | skip); obtain ⟨_, ce35, hcl35, hM35, hcc35, hfr35, _, _⟩ := Kd.S_elem HO_4.out [] (x47_3 : Int) p35 q35; obtain ⟨ve35_0, rfl, ge35_0⟩ := hM35; have hx35_0 := hcc35 0 _ rfl; have hf35_0 := hfr35 0; (try simp only [show ((Kd.slice 3 (Kd.int .i64))).sz = 1 from rfl, Nat.mul_one, Nat.add_zero] at hx35_0); (try simp only [show ((Kd.slice 3 (Kd.int .i64))).sz = 1 from rfl, Nat.mul_one, Nat.add_zero] at hf35_0); clear hcl35 hcc35 hfr35; replace p35 := eq_true p35; replace q35 := eq_true q35; have n_ := Aside0.mk (Kd.S_mono (ok' := (fun k_ => some k_ ≠ (.slice Ao38 t177.length co38 : Value).ownBlock)) HO_4.out (fun k_ hk => by first | exact hk.2 | exact hk | exact hk.1)); clear HO_4; have HO_4 := n_; clear n_; have HX39 := Aside0.mk (show Kd.S (Kd.slice 3 (Kd.int .i64)) 36 w37 w.heap.size (fun k_ => ((fun _ => True)) k_ ∧ ¬ ((fun k_ => some k_ = (.slice Ao38 t177.length co38 : Value).ownBlock)) k_) (.slice (some ⟨go35, 0, none⟩) x4_3.length co36) x4_3 from (by (with_reducible repeat (first | apply Kd.S_alloc | apply Kd.S_drewN | apply Kd.S_drew)); exact Kd.S_mono HO_4.out (fun k_ hk => ⟨trivial, fun e_ => hk e_⟩))); obtain ⟨oki39, ce39, hcl39, hM39, hcc39, hfr39, hoki39, hH39⟩ := Kd.S_elem HX39.out [] (x47_3 : Int) (of_decide_eq_true (by first | (with_reducible assumption) | assumption)) (by have h_ : (x47_3 : Int) < ((x4_3.length : Int) : Int) := of_decide_eq_true (by first | (with_reducible assumption) | assumption); first | exact h_ | (have e_ := (Kd.S_reads' HO_4.out).1; omega) | simpa using h_); obtain ⟨ve39_0, rfl, ge39_0⟩ := hM39; have HP39 := Kd.S_seg hH39 (of_decide_eq_true (by first | (with_reducible assumption) | assumption)) (by have h_ : (x47_3 : Int) < ((x4_3.length : Int) : Int) := of_decide_eq_true (by first | (with_reducible assumption) | assumption); first | exact h_ | (have e_ := (Kd.S_reads' HO_4.out).1; omega) | simpa using h_) (seg := [.slice Ao38 t177.length co38]) (j := 0) (show 1 ≤ 1 from by decide) (x' := t177) (Kd.M_row (Kd.R_mono (Kd.R_tight rfl (Kd.R_mono (ok' := fun k_ => ((fun _ => True)) k_ ∧ k_ ≠ go35) (Kd.R_apart' (HO180.out) (Kd.S_typed HO_4.out) (by decide)) (fun k_ hk => ⟨trivial, fun e_ => (hk.2) (by rw [e_]; rfl)⟩))) (fun _ h_ => Or.inr (h_)))) (fun _ hk => hk) (fun k_ hk_ => ((Kd.R_mono (ok' := fun k_ => ((fun _ => True)) k_ ∧ k_ ≠ go35) (Kd.R_apart' (HO180.out) (Kd.S_typed HO_4.out) (by decide)) (fun k_ hk => ⟨trivial, fun e_ => (hk.2) (by rw [e_]; rfl)⟩))).1 k_ hk_.symm); have hx39_0 := hcc39 0 _ rfl; (try simp only [show ((Kd.slice 3 (Kd.int .i64))).sz = 1 from rfl, Nat.mul_one, Nat.add_zero] at hx39_0); have hf39_0 := hfr39 0; (try simp only [show ((Kd.slice 3 (Kd.int .i64))).sz = 1 from rfl, Nat.mul_one, Nat.add_zero] at hf39_0); clear hcl39 hcc39 hfr39 hoki39 hH39; (try simp only [show ((Kd.slice 3 (Kd.int .i64))).sz = 1 from rfl, Nat.mul_one, Nat.add_zero] at HP39)) | ((with_reducible refine gate_store (t := 36) (p := 76) rfl ?_); refine store_event (t := 36) (p := 76) (v := ?vo_w40) (w1 := (w37.setCell ⟨go35, (x47_3 : Int).toNat, none⟩ (.slice Ao38 t177.length co38))) ?hg ?ho ?hn ?hr ?_; (case ho => rfl); (case hg => rfl); (case hn => rfl); (case hr => first | (go_simp; done) | (go_simp; rfl) | (obtain ⟨A_, c_, e_⟩ := Kd.R_slice HO180.out; rw [e_]; go_simp; done) | (obtain ⟨A_, c_, e_⟩ := Kd.R_slice HO180.out; rw [e_]; go_simp; rfl)); intro w40 hw; have hg : w37.grownBy w40 (some go35) := (by rw [hw]; exact HP39.2); have hp_ : Kd.S (Kd.slice 3 (Kd.int .i64)) 36 w40 w.heap.size (fun _ => True) (.slice (some ⟨go35, 0, none⟩) x4_3.length co36) y184 := (by rw [hw, Ny184.out]; exact HP39.1); clear HP39; have n0_ := Aside0.mk (hp_); have n1_ := Aside0.mk (blk_grown (g := gb161) (o := .cells #[.slice (some ad175) l0_0.length c0_0, .slice A0_1 l0_1.length c0_1] 25 (0, 0)) (by (with_reducible repeat (first | refine blk_drewN ?_ _ | refine blk_drew ?_ | refine blk_alloc ?_ _)); exact BK161.out) hg (Kd.S_ne HO_4.out BK161.out (by decide))); have n2_ := Aside0.mk (Kd.R_after (v := (.slice (some ⟨go35, 0, none⟩) x4_3.length co36)) (v1 := (.slice (some ⟨go35, 0, none⟩) x4_3.length co36)) (ok := (fun k_ => some k_ ≠ (.slice Ao38 t177.length co38 : Value).ownBlock)) (by (with_reducible repeat (first | apply Kd.R_alloc | apply Kd.R_drewN | apply Kd.R_drew)); exact Kd.R_mono HL176_0.out (fun _ hk => by first | exact ⟨hk.2, hk.1.2⟩ | exact ⟨hk.1, hk.2⟩ | exact ⟨hk.2, hk.1⟩ | exact ⟨hk.1.2, hk.2⟩ | exact ⟨hk.1.1, hk.2⟩ | exact ⟨hk.1, hk.2.2⟩)) hg (.inl rfl)); have n3_ := Aside0.mk (Kd.R_after (v := (.slice (some ⟨go35, 0, none⟩) x4_3.length co36)) (v1 := (.slice (some ⟨go35, 0, none⟩) x4_3.length co36)) (ok := (fun k_ => some k_ ≠ (.slice Ao38 t177.length co38 : Value).ownBlock)) (by (with_reducible repeat (first | apply Kd.R_alloc | apply Kd.R_drewN | apply Kd.R_drew)); exact Kd.R_mono HL182_0.out (fun _ hk => by first | exact ⟨hk.1.2, hk.2⟩ | exact ⟨hk.1, hk.2⟩ | exact ⟨hk.2, hk.1⟩ | exact ⟨hk.2, hk.1.2⟩ | exact ⟨hk.1.1, hk.2⟩ | exact ⟨hk.1, hk.2.2⟩)) hg (.inl rfl)); have n4_ := Aside0.mk ((by rw [hw]; exact below_set (HB.out) GB35.out : Below w.heap.size w w40)); clear HO_4; clear BK161; clear HL176_0; clear HL182_0; clear HB; clear HO180; have HO_4 := n0_; have BK161 := n1_; have HL176_0 := n2_; have HL182_0 := n3_; have HB := n4_; clear n0_ n1_ n2_ n3_ n4_; clear hg hw hp_))
                                go_roundg k3
                                case measure => have := HK1.out; have := HK2.out; have := HK3.out; omega
                                case rel => exact ⟨(y184), (!t183), (wrap64 (x47_3 + 1)), (by first | rfl | (simp; done) | (simp [*]; done)), (by first | rfl | (simp; done) | (simp [*]; done)), H', ⟨by have := HK1.out; have := HK2.out; have := HK3.out; omega⟩, ⟨by (with_reducible repeat (first | apply Kd.S_alloc | apply Kd.S_drewN | apply Kd.S_drew)); exact HO_4.out⟩, ⟨by (with_reducible repeat (first | refine blk_drewN ?_ _ | refine blk_drew ?_ | refine blk_alloc ?_ _)); exact BK161.out⟩, ⟨by repeat (first | (with_reducible first | exact HB.out | apply below_alloc | apply pw_below_drewN | apply below_drew1 | refine below_set ?_ GE161.out) | exact HB.out)⟩⟩
                            · replace c27 := Bool.eq_false_iff.mpr c27
                              subst c27
                              have H1 : (some (([] : List (List Int)), false)) = some (r1, r2) := by rw [if_neg (show ¬ (false = true) by decide)] at H; exact H
                              clear H
                              have H := H1
                              clear H1
                              simp only [Option.some.injEq, Prod.mk.injEq] at H
                              obtain ⟨rfl, rfl⟩ := H
                              have p175 : 0 ≤ (x47_3 : Int) := of_decide_eq_true (by first | (with_reducible assumption) | assumption)
                              have q175 : x47_3 < (l0_0.length : Int) := of_decide_eq_true (by first | (with_reducible assumption) | assumption)
                              obtain ⟨ad175, A175_0, c175_0, e175, hx175_0, hl175_0, hi175_0⟩ := at_L1 HR0_0.out x47_3 p175 q175
                              cases e175
                              replace hx175_0 := (HB.out.cell (World.block_lt_of_cell? w _ hx175_0)).trans hx175_0
                              have HR175_0 := Aside0.mk hi175_0
                              have HC175_0 := Aside0.mk hl175_0
                              clear hi175_0 hl175_0
                              replace p175 := eq_true p175
                              replace q175 := eq_true q175
                              obtain ⟨Ao41, co41, eo41⟩ := Kd.S_slice HO_4.out
                              subst eo41
                              have p176 : 0 ≤ (x47_3 : Int) := of_decide_eq_true (by first | (with_reducible assumption) | assumption)
                              have q176 : x47_3 < (x4_3.length : Int) := of_decide_eq_true (by first | (with_reducible assumption) | assumption)
                              obtain ⟨ad176, A176_0, c176_0, e176, hx176_0, hl176_0, hi176_0⟩ := at_L1 (Kd.S_reads' HO_4.out).2.2 x47_3 p176 q176
                              cases e176
                              obtain ⟨ce176, hce176, hMe176, hcc176⟩ := Kd.S_get HO_4.out [] x47_3 p176 (by first | exact q176 | exact of_decide_eq_true (by first | (with_reducible assumption) | assumption) | (have e_ := (Kd.S_reads' HO_4.out).1; omega))
                              obtain ⟨ve176_0, rfl, ge176_0⟩ := hMe176
                              have hv176_0 := hcc176 0 _ rfl
                              rw [Nat.add_zero, show ((Kd.slice 3 (Kd.int .i64))).sz = 1 from rfl, Nat.mul_one] at hv176_0
                              replace hv176_0 := Option.some.inj (hv176_0.symm.trans hx176_0)
                              rw [hv176_0] at ge176_0
                              have HL176_0 := Aside0.mk (show Kd.R (Kd.int .i64) 3 _ _ _ _ (rd_L1 x4_3 x47_3) from ge176_0)
                              clear hv176_0 ge176_0
                              have HX176_0 := Aside0.mk hx176_0
                              clear hcc176 hce176
                              have HR176_0 := Aside0.mk hi176_0
                              have HC176_0 := Aside0.mk hl176_0
                              clear hi176_0 hl176_0
                              replace p176 := eq_true p176
                              replace q176 := eq_true q176
                              go_wp2_with (first | ((with_reducible refine gate_callee (f := 47) rfl ?_); refine goesL_ (some 58) rfl rfl Try.func47 (by kernel_rfl) rfl #[.slice A175_0 (rd_L1 l0_0 x47_3).length c175_0, .slice A176_0 (rd_L1 x4_3 x47_3).length c176_0] rfl (by (try simp only [List.map_toArray, List.map_cons, List.map_nil]); first | done | rfl | (simp only [List.length_drop, List.length_take]; rfl)) ?_; (with_reducible refine (impl_LineForced.calls k3 _ _ (rd_L1 l0_0 x47_3) _ _ (rd_L1 x4_3 x47_3) t177 false _ ?side1 ?side2 ?side3 ?side4 A26.out).mono ?_); (case side1 => repeat (first | exact (Kd.C_below HR175_0.out HB.out) | (with_reducible refine Kd.C_alloc ?_ _) | (with_reducible refine Kd.C_drewN ?_ _) | (with_reducible refine Kd.C_drew ?_))); (case side2 => exact HC175_0.out); (case side3 => repeat (first | exact (by repeat (first | (with_reducible exact HR176_0.out) | (with_reducible refine Kd.C_alloc ?_ _) | (with_reducible refine Kd.C_drewN ?_ _) | (with_reducible refine Kd.C_drew ?_) | exact HR176_0.out)) | (with_reducible refine Kd.C_alloc ?_ _) | (with_reducible refine Kd.C_drewN ?_ _) | (with_reducible refine Kd.C_drew ?_))); (case side4 => exact HC176_0.out); rintro e w42 ⟨v179, rfl, ho0, hb⟩; refine ⟨_, rfl, ?_⟩; have n0_ := Aside0.mk (Kd.S_elder' (by (with_reducible repeat (first | apply Kd.S_alloc | apply Kd.S_drewN | apply Kd.S_drew)); exact HO_4.out) (Kd.R_base ho0) hb); have n1_ := Aside0.mk (Kd.R_elder' (by (with_reducible repeat (first | apply Kd.R_alloc | apply Kd.R_drewN | apply Kd.R_drew)); exact HL176_0.out) (Kd.R_base ho0) hb); have n2_ := Aside0.mk (Kd.R_lower (Kd.R_new' ho0 (Kd.R_lt (by (with_reducible repeat (first | apply Kd.R_alloc | apply Kd.R_drewN | apply Kd.R_drew)); exact HL176_0.out))) (below_size (by repeat (first | (with_reducible first | exact HB.out | apply below_alloc | apply pw_below_drewN | apply below_drew1 | refine below_set ?_ GE161.out) | exact HB.out)))); have n3_ := Aside0.mk (blk_below (g := gb161) (o := .cells #[.slice (some ad175) l0_0.length c0_0, .slice A0_1 l0_1.length c0_1] 25 (0, 0)) (by (with_reducible repeat (first | refine blk_drewN ?_ _ | refine blk_drew ?_ | refine blk_alloc ?_ _)); exact BK161.out) hb); have n4_ := Aside0.mk (Kd.C_below (by repeat (first | (with_reducible exact HR176_0.out) | (with_reducible refine Kd.C_alloc ?_ _) | (with_reducible refine Kd.C_drewN ?_ _) | (with_reducible refine Kd.C_drew ?_) | exact HR176_0.out)) hb); have n5_ := Aside0.mk (pw_cell_below hb HX176_0.out); have n6_ := Aside0.mk (below_step (by repeat (first | (with_reducible first | exact HB.out | apply below_alloc | apply pw_below_drewN | apply below_drew1 | refine below_set ?_ GE161.out) | exact HB.out)) hb); clear HO_4; clear HL176_0; clear BK161; clear HR176_0; clear HX176_0; clear HB; have HO_4 := n0_; have HL176_0 := n1_; have HO180 := n2_; have BK161 := n3_; have HR176_0 := n4_; have HX176_0 := n5_; have HB := n6_; clear n0_ n1_ n2_ n3_ n4_ n5_ n6_; (try clear hb); (try clear hb2); (try clear hk); (try clear hi); (try clear ho0)))
                              go_ret2
                              exact ⟨_, by first | rfl | (simp [errW_none, errW_some] <;> rfl) | (simp [*, errW_none, errW_some] <;> rfl), by first | exact Kd.S_nil _ _ _ _ _ | exact Kd.N_nil _ _ _ _ _ | exact Kd.V_nil _ _ _ _ _ | exact Kd.Q_nil _ _ _ _ _ | exact Kd.R_nil _ _ _ _ _, by repeat (first | (with_reducible first | exact HB.out | apply below_alloc | apply pw_below_drewN | apply below_drew1 | refine below_set ?_ GE161.out) | exact HB.out)⟩
                          · rw [if_neg c25] at H
                            exact absurd H (by simp)
                        · rw [if_neg c24] at H
                          exact absurd H (by simp)
                      · rw [if_neg c23] at H
                        exact absurd H (by simp)
                    · rw [if_neg c22] at H
                      have c22b0 : decide (x47_3 < (l0_0.length : Int)) = false := decide_eq_false c22
                      clear c22
                      have H' := Aside0.mk H
                      clear H
                      have hcz43_0 : wr.cell? ⟨gb161, 0, none⟩ = some (.slice A0_0 l0_0.length c0_0) := (blk_cell BK161.out 0).trans rfl
                      have hcz43_1 : wr.cell? ⟨gb161, 1, none⟩ = some (.slice A0_1 l0_1.length c0_1) := (blk_cell BK161.out 1).trans rfl
                      have hfz43_0 := blk_frozen BK161.out 0
                      have hfz43_1 := blk_frozen BK161.out 1
                      go_wp2
                      go_loopg [6, 81] k3 (fun kq v6 v81 w' => ∃ (x4_4 : List (List Int)) (x6_4 : Bool) (x81_4 : Int), v6 = .bool x6_4 ∧ v81 = .int .i64 x81_4 ∧ Aside0 (impl_PictureLines.l4 kq x4_4 x6_4 l0_1 (l0_1.length : Int) x81_4 l0_0 l0_1 = some (r1, r2)) ∧ Aside0 (kq ≤ k3) ∧ Aside0 (Kd.S (Kd.slice 3 (Kd.int .i64)) 36 w' w.heap.size (fun _ => True) u4 x4_4) ∧ Aside0 (w'.heap[gb161]? = some (.cells #[(.slice A0_0 l0_0.length c0_0), (.slice A0_1 l0_1.length c0_1)] 25 (0, 0))) ∧ Aside0 (Below w.heap.size w w'))
                      case atStart => exact ⟨(x4_3), (x6_3), (0), (by first | rfl | (simp; done) | (simp [*]; done)), (by first | rfl | (simp; done) | (simp [*]; done)), H', ⟨Nat.le_refl _⟩, ⟨by (with_reducible repeat (first | apply Kd.S_alloc | apply Kd.S_drewN | apply Kd.S_drew)); exact HO_4.out⟩, ⟨by (with_reducible repeat (first | refine blk_drewN ?_ _ | refine blk_drew ?_ | refine blk_alloc ?_ _)); exact BK161.out⟩, ⟨by repeat (first | (with_reducible first | exact HB.out | apply below_alloc | apply pw_below_drewN | apply below_drew1 | refine below_set ?_ GE161.out) | exact HB.out)⟩⟩
                      case round =>
                        clear H'
                        try clear c1
                        try clear p1
                        try clear q1
                        try clear hx1
                        try clear c2
                        try clear p2
                        try clear q2
                        try clear hx2
                        try clear hf2
                        try clear c3
                        try clear p3
                        try clear q3
                        try clear hx3
                        try clear hf3
                        try clear c4
                        try clear p6
                        try clear c10
                        try clear c10b0
                        try clear c14
                        try clear c14b0
                        try clear c15
                        try clear c17
                        try clear p17
                        try clear q17
                        try clear hx17
                        try clear c18
                        try clear p18
                        try clear q18
                        try clear hx18
                        try clear c20
                        try clear c22
                        try clear c22b0
                        try clear c23
                        try clear c23b0
                        try clear c24
                        try clear c24b0
                        try clear c25
                        try clear c25b0
                        try clear c27
                        try clear c28
                        try clear c29
                        try clear p29
                        try clear q29
                        try clear hx29
                        try clear hf29
                        try clear c32
                        try clear hx32
                        try clear hf32
                        try clear c35
                        try clear p35
                        try clear q35
                        try clear hx35
                        try clear hf35
                        try clear c39
                        try clear hx39
                        try clear hf39
                        try clear hcz13_0
                        try clear hcz13_1
                        try clear hcz21_0
                        try clear hcz21_1
                        try clear hcz43_0
                        try clear hcz43_1
                        try clear hcz5_0
                        try clear hcz5_1
                        try clear hcz9_0
                        try clear hcz9_1
                        try clear hfz13_0
                        try clear hfz13_1
                        try clear hfz21_0
                        try clear hfz21_1
                        try clear hfz43_0
                        try clear hfz43_1
                        try clear hfz5_0
                        try clear hfz5_1
                        try clear hfz9_0
                        try clear hfz9_1
                        try clear hx175_0
                        try clear hx176_0
                        try clear hx182_0
                        try clear hx29_0
                        try clear hx32_0
                        try clear hx35_0
                        try clear hx39_0
                        try clear p175
                        try clear p176
                        try clear p182
                        try clear p2
                        try clear p29
                        try clear p35
                        try clear p6
                        try clear q175
                        try clear q176
                        try clear q182
                        try clear q29
                        try clear q35
                        obtain ⟨x4_4, x6_4, x81_4, rfl, rfl, HA, HK4, HO_4, BK161, HB⟩ := hrel
                        cases gk with
                        | zero => exact absurd HA.out (by simp [impl_PictureLines.l4])
                        | succ k4 =>
                          have H := HA.out
                          clear HA
                          simp only [impl_PictureLines.l4] at H
                          by_cases c44 : x81_4 < (l0_1.length : Int)
                          · rw [if_pos c44] at H
                            have c44b0 : decide (x81_4 < (l0_1.length : Int)) = true := decide_eq_true c44
                            clear c44
                            by_cases c45 : 0 ≤ x81_4
                            · rw [if_pos c45] at H
                              have c45b0 : decide (0 ≤ x81_4) = true := decide_eq_true c45
                              clear c45
                              by_cases c46 : x81_4 < (l0_1.length : Int)
                              · rw [if_pos c46] at H
                                have c46b0 : decide (x81_4 < (l0_1.length : Int)) = true := decide_eq_true c46
                                clear c46
                                obtain ⟨y186, hy186⟩ : ∃ y_ : List Int, y_ = (([] : List Int)) := ⟨_, rfl⟩
                                replace H : (impl_PictureLines.l5 k4 x4_4 x6_4 x81_4 (rd_L1 l0_1 x81_4) y186 l0_1 (l0_1.length : Int) x81_4 (x4_4.length : Int) 0 l0_0 l0_1) = some (r1, r2) := by first | (rw [hy186]; with_reducible exact H) | (have H2_ := (Option.bind_some _ _).symm.trans H; rw [hy186]; with_reducible exact H2_) | (have H2_ := (Option.bind_some _ _).symm.trans H; with_reducible exact H2_) | with_reducible exact H | (rw [hy186]; exact H) | exact H
                                have Ny186 := Aside0.mk hy186
                                clear hy186
                                have H' := Aside0.mk H
                                clear H
                                have p185 : 0 ≤ (x81_4 : Int) := of_decide_eq_true (by first | (with_reducible assumption) | assumption)
                                have q185 : x81_4 < (l0_1.length : Int) := of_decide_eq_true (by first | (with_reducible assumption) | assumption)
                                obtain ⟨ad185, A185_0, c185_0, e185, hx185_0, hl185_0, hi185_0⟩ := at_L1 HR0_1.out x81_4 p185 q185
                                cases e185
                                replace hx185_0 := (HB.out.cell (World.block_lt_of_cell? w _ hx185_0)).trans hx185_0
                                have HR185_0 := Aside0.mk hi185_0
                                have HC185_0 := Aside0.mk hl185_0
                                clear hi185_0 hl185_0
                                replace p185 := eq_true p185
                                replace q185 := eq_true q185
                                go_wp2_with (first | ((with_reducible refine gate_dst (N := 86) rfl ?_); refine Kd.R_lit (Kd.int .i64) _ 3 ?hg (N := 86) ?hd (xs := ([] : List Int)) (inner := []) (ok := fun _ => True) (okp := fun _ => True) ?hr ?hp (fun _ hk => hk) trivial (Below.refl _ _) (Nat.le_refl _) (by simp) ?_; (case hd => rfl); (case hg => rfl); (case hr => first | (go_simp; done) | (go_simp; rfl)); (case hp => exact (Reps.none _ _)); intro v187 w47 ho48 hb hg_ hnew_; clear hg_ hnew_; (first | rw [← Ny186.out] at ho48 | (simp only [Int.reduceToNat] at ho48; rw [← Ny186.out] at ho48)); have n0_ := Aside0.mk (Kd.S_elder' (by (with_reducible repeat (first | apply Kd.S_alloc | apply Kd.S_drewN | apply Kd.S_drew)); exact HO_4.out) (Kd.R_base ho48) hb); have n1_ := Aside0.mk (Kd.R_lower ho48 (below_size (by repeat (first | (with_reducible first | exact HB.out | apply below_alloc | apply pw_below_drewN | apply below_drew1 | refine below_set ?_ GE161.out) | exact HB.out)))); have n2_ := Aside0.mk (blk_below (g := gb161) (o := .cells #[.slice A0_0 l0_0.length c0_0, .slice (some ad185) l0_1.length c0_1] 25 (0, 0)) (by (with_reducible repeat (first | refine blk_drewN ?_ _ | refine blk_drew ?_ | refine blk_alloc ?_ _)); exact BK161.out) hb); have n3_ := Aside0.mk (below_step (by repeat (first | (with_reducible first | exact HB.out | apply below_alloc | apply pw_below_drewN | apply below_drew1 | refine below_set ?_ GE161.out) | exact HB.out)) hb); clear HO_4; clear BK161; clear HB; have HO_4 := n0_; have HO188 := n1_; have BK161 := n2_; have HB := n3_; clear n0_ n1_ n2_ n3_; clear hb ho48; obtain ⟨Ao49, co49, eo49⟩ := Kd.S_slice HO_4.out; subst eo49))
                                go_loopg [13, 89] k4 (fun kq v13 v89 w' => ∃ (x13_5 : List Int) (x89_5 : Int), v89 = .int .i64 x89_5 ∧ Aside0 (impl_PictureLines.l5 kq x4_4 x6_4 x81_4 (rd_L1 l0_1 x81_4) x13_5 l0_1 (l0_1.length : Int) x81_4 (x4_4.length : Int) x89_5 l0_0 l0_1 = some (r1, r2)) ∧ Aside0 (kq ≤ k4) ∧ Aside0 (Kd.S (Kd.slice 3 (Kd.int .i64)) 36 w' w.heap.size (fun k_ => some k_ ≠ (v13 : Value).ownBlock) (.slice Ao49 x4_4.length co49) x4_4) ∧ Aside0 (Kd.R (Kd.int .i64) 3 w' w.heap.size (fun _ => True) v13 x13_5) ∧ Aside0 (w'.heap[gb161]? = some (.cells #[(.slice A0_0 l0_0.length c0_0), (.slice (some ad185) l0_1.length c0_1)] 25 (0, 0))) ∧ Aside0 (Below w.heap.size w w'))
                                case atStart => exact ⟨(y186), (0), (by first | rfl | (simp; done) | (simp [*]; done)), H', ⟨Nat.le_refl _⟩, ⟨by (with_reducible repeat (first | apply Kd.S_alloc | apply Kd.S_drewN | apply Kd.S_drew)); exact Kd.S_mono HO_4.out (fun _ hk => by first | exact hk.2 | exact hk | exact hk.1)⟩, ⟨by (with_reducible repeat (first | apply Kd.R_alloc | apply Kd.R_drewN | apply Kd.R_drew)); exact HO188.out⟩, ⟨by (with_reducible repeat (first | refine blk_drewN ?_ _ | refine blk_drew ?_ | refine blk_alloc ?_ _)); exact BK161.out⟩, ⟨by repeat (first | (with_reducible first | exact HB.out | apply below_alloc | apply pw_below_drewN | apply below_drew1 | refine below_set ?_ GE161.out) | exact HB.out)⟩⟩
                                case round =>
                                  clear H'
                                  try clear c1
                                  try clear p1
                                  try clear q1
                                  try clear hx1
                                  try clear c2
                                  try clear p2
                                  try clear q2
                                  try clear hx2
                                  try clear hf2
                                  try clear c3
                                  try clear p3
                                  try clear q3
                                  try clear hx3
                                  try clear hf3
                                  try clear c4
                                  try clear p6
                                  try clear c10
                                  try clear c10b0
                                  try clear c14
                                  try clear c14b0
                                  try clear c15
                                  try clear c17
                                  try clear p17
                                  try clear q17
                                  try clear hx17
                                  try clear c18
                                  try clear p18
                                  try clear q18
                                  try clear hx18
                                  try clear c20
                                  try clear c22
                                  try clear c22b0
                                  try clear c23
                                  try clear c23b0
                                  try clear c24
                                  try clear c24b0
                                  try clear c25
                                  try clear c25b0
                                  try clear c27
                                  try clear c28
                                  try clear c29
                                  try clear p29
                                  try clear q29
                                  try clear hx29
                                  try clear hf29
                                  try clear c32
                                  try clear hx32
                                  try clear hf32
                                  try clear c35
                                  try clear p35
                                  try clear q35
                                  try clear hx35
                                  try clear hf35
                                  try clear c39
                                  try clear hx39
                                  try clear hf39
                                  try clear c44
                                  try clear c44b0
                                  try clear c45
                                  try clear c45b0
                                  try clear c46
                                  try clear c46b0
                                  try clear c47
                                  try clear hcz13_0
                                  try clear hcz13_1
                                  try clear hcz21_0
                                  try clear hcz21_1
                                  try clear hcz43_0
                                  try clear hcz43_1
                                  try clear hcz5_0
                                  try clear hcz5_1
                                  try clear hcz9_0
                                  try clear hcz9_1
                                  try clear hfz13_0
                                  try clear hfz13_1
                                  try clear hfz21_0
                                  try clear hfz21_1
                                  try clear hfz43_0
                                  try clear hfz43_1
                                  try clear hfz5_0
                                  try clear hfz5_1
                                  try clear hfz9_0
                                  try clear hfz9_1
                                  try clear hx175_0
                                  try clear hx176_0
                                  try clear hx182_0
                                  try clear hx185_0
                                  try clear hx29_0
                                  try clear hx32_0
                                  try clear hx35_0
                                  try clear hx39_0
                                  try clear p1
                                  try clear p17
                                  try clear p175
                                  try clear p176
                                  try clear p18
                                  try clear p182
                                  try clear p185
                                  try clear p2
                                  try clear p29
                                  try clear p3
                                  try clear p35
                                  try clear p6
                                  try clear q1
                                  try clear q17
                                  try clear q175
                                  try clear q176
                                  try clear q18
                                  try clear q182
                                  try clear q185
                                  try clear q2
                                  try clear q29
                                  try clear q3
                                  try clear q35
                                  obtain ⟨x13_5, x89_5, rfl, HA, HK5, HO_4, HO_13, BK161, HB⟩ := hrel
                                  cases gk with
                                  | zero => exact absurd HA.out (by simp [impl_PictureLines.l5])
                                  | succ k5 =>
                                    have H := HA.out
                                    clear HA
                                    simp only [impl_PictureLines.l5] at H
                                    by_cases c50 : x89_5 < (x4_4.length : Int)
                                    · rw [if_pos c50] at H
                                      have c50b0 : decide (x89_5 < (x4_4.length : Int)) = true := decide_eq_true c50
                                      clear c50
                                      by_cases c51 : 0 ≤ x89_5
                                      · rw [if_pos c51] at H
                                        have c51b0 : decide (0 ≤ x89_5) = true := decide_eq_true c51
                                        clear c51
                                        by_cases c52 : x89_5 < (x4_4.length : Int)
                                        · rw [if_pos c52] at H
                                          have c52b0 : decide (x89_5 < (x4_4.length : Int)) = true := decide_eq_true c52
                                          clear c52
                                          by_cases c53 : 0 ≤ x81_4
                                          · rw [if_pos c53] at H
                                            have c53b0 : decide (0 ≤ x81_4) = true := decide_eq_true c53
                                            clear c53
                                            by_cases c54 : x81_4 < ((rd_L1 x4_4 x89_5).length : Int)
                                            · rw [if_pos c54] at H
                                              have c54b0 : decide (x81_4 < ((rd_L1 x4_4 x89_5).length : Int)) = true := decide_eq_true c54
                                              clear c54
                                              by_cases c55 : x13_5.length < 17592186044416
                                              · rw [if_pos c55] at H
                                                have LMc55 := Aside0.mk c55
                                                clear c55
                                                obtain ⟨y191, hy191⟩ : ∃ y_ : List Int, y_ = (x13_5 ++ [rd (rd_L1 x4_4 x89_5) x81_4]) := ⟨_, rfl⟩
                                                replace H : (impl_PictureLines.l5 k5 x4_4 x6_4 x81_4 (rd_L1 l0_1 x81_4) y191 l0_1 (l0_1.length : Int) x81_4 (x4_4.length : Int) (wrap64 (x89_5 + 1)) l0_0 l0_1) = some (r1, r2) := by first | (rw [hy191]; with_reducible exact H) | (have H2_ := (Option.bind_some _ _).symm.trans H; rw [hy191]; with_reducible exact H2_) | (have H2_ := (Option.bind_some _ _).symm.trans H; with_reducible exact H2_) | with_reducible exact H | (rw [hy191]; exact H) | exact H
                                                have Ny191 := Aside0.mk hy191
                                                clear hy191
                                                have H' := Aside0.mk H
                                                clear H
                                                have p189 : 0 ≤ (x89_5 : Int) := of_decide_eq_true (by first | (with_reducible assumption) | assumption)
                                                have q189 : x89_5 < (x4_4.length : Int) := of_decide_eq_true (by first | (with_reducible assumption) | assumption)
                                                obtain ⟨ad189, A189_0, c189_0, e189, hx189_0, hl189_0, hi189_0⟩ := at_L1 (Kd.S_reads' HO_4.out).2.2 x89_5 p189 q189
                                                cases e189
                                                obtain ⟨ce189, hce189, hMe189, hcc189⟩ := Kd.S_get HO_4.out [] x89_5 p189 (by first | exact q189 | exact of_decide_eq_true (by first | (with_reducible assumption) | assumption) | (have e_ := (Kd.S_reads' HO_4.out).1; omega))
                                                obtain ⟨ve189_0, rfl, ge189_0⟩ := hMe189
                                                have hv189_0 := hcc189 0 _ rfl
                                                rw [Nat.add_zero, show ((Kd.slice 3 (Kd.int .i64))).sz = 1 from rfl, Nat.mul_one] at hv189_0
                                                replace hv189_0 := Option.some.inj (hv189_0.symm.trans hx189_0)
                                                rw [hv189_0] at ge189_0
                                                have HL189_0 := Aside0.mk (show Kd.R (Kd.int .i64) 3 _ _ _ _ (rd_L1 x4_4 x89_5) from ge189_0)
                                                clear hv189_0 ge189_0
                                                have HX189_0 := Aside0.mk hx189_0
                                                clear hcc189 hce189
                                                have HR189_0 := Aside0.mk hi189_0
                                                have HC189_0 := Aside0.mk hl189_0
                                                clear hi189_0 hl189_0
                                                replace p189 := eq_true p189
                                                replace q189 := eq_true q189
                                                have p190 : 0 ≤ (x81_4 : Int) := of_decide_eq_true (by first | (with_reducible assumption) | assumption)
                                                have q190 : x81_4 < ((rd_L1 x4_4 x89_5).length : Int) := of_decide_eq_true (by first | (with_reducible assumption) | assumption)
                                                obtain ⟨ad190, e190, hx190_0⟩ := Kd.at_int (by repeat (first | (with_reducible exact HR189_0.out) | (with_reducible refine Kd.C_alloc ?_ _) | (with_reducible refine Kd.C_drewN ?_ _) | (with_reducible refine Kd.C_drew ?_) | exact HR189_0.out)) x81_4 p190 q190
                                                cases e190
                                                replace p190 := eq_true p190
                                                replace q190 := eq_true q190
                                                go_wp2_with (first | ((with_reducible refine gate_builtin (b := .append) (xs := #[.tmp 92, .tmp 100]) rfl ?_); at_builtin; refine Kd.R_append (Kd.int .i64) (w0 := w) w.heap.size rfl (.tmp 92) (.tmp 100) 36 3 (.int .i64 0) 8 rfl Try.underlying36 info3 rfl (by decide) (by omega) u13 x13_5 (rd (rd_L1 x4_4 x89_5) x81_4) [.int .i64 (rd (rd_L1 x4_4 x89_5) x81_4)] (fun _ => True) (fun _ => False) rfl rfl ?aP (fun _ hk => hk.elim) ?aF ?aO ?aB ?aS ?aL ?_; (case aP => exact rfl); (case aB => exact (by repeat (first | (with_reducible first | exact HB.out | apply below_alloc | apply pw_below_drewN | apply below_drew1 | refine below_set ?_ GE161.out) | exact HB.out))); (case aF => exact (fun _ _ => trivial)); (case aO => exact (by (with_reducible repeat (first | apply Kd.R_alloc | apply Kd.R_drewN | apply Kd.R_drew)); exact HO_13.out)); (case aS => exact (below_size (by repeat (first | (with_reducible first | exact HB.out | apply below_alloc | apply pw_below_drewN | apply below_drew1 | refine below_set ?_ GE161.out) | exact HB.out)))); (case aL => have := LMc55.out; omega); intro v192 w56 ho hb hg hat; rw [← Ny191.out] at ho; have n0_ := Aside0.mk (Kd.S_after (ok := (fun _ => True)) (by (with_reducible repeat (first | apply Kd.S_alloc | apply Kd.S_drewN | apply Kd.S_drew)); exact Kd.S_mono HO_4.out (fun _ hk => ⟨trivial, hk⟩)) hg hat); have n1_ := Aside0.mk (blk_grown (g := gb161) (o := .cells #[.slice A0_0 l0_0.length c0_0, .slice (some ad185) l0_1.length c0_1] 25 (0, 0)) (by (with_reducible repeat (first | refine blk_drewN ?_ _ | refine blk_drew ?_ | refine blk_alloc ?_ _)); exact BK161.out) hg (Kd.R_ne HO_13.out BK161.out (by decide))); have n2_ := Aside0.mk (Kd.R_after (ok := (fun k_ => some k_ ≠ (.slice (some ad189) x4_4.length co49 : Value).ownBlock)) (by (with_reducible repeat (first | apply Kd.R_alloc | apply Kd.R_drewN | apply Kd.R_drew)); first | exact Kd.R_mono HL189_0.out (fun _ hk => by first | exact ⟨hk.2, hk.1⟩ | exact ⟨hk.1, hk.2⟩ | exact ⟨hk.2, hk.1.2⟩ | exact ⟨hk.1.2, hk.2⟩ | exact ⟨hk.1.1, hk.2⟩ | exact ⟨hk.1, hk.2.2⟩) | exact Kd.R_mono (Kd.R_apart' HL189_0.out (Kd.S_typed HO_4.out) (by decide)) (fun _ hk => by first | exact ⟨hk.1, hk.2⟩ | exact ⟨hk.2, hk.1⟩ | exact ⟨hk.1.1, hk.2⟩ | exact ⟨hk.1.2, hk.2⟩ | exact ⟨hk.2, hk.1.1⟩ | exact ⟨hk.2, hk.1.2⟩ | exact hk)) hg hat); have n3_ := Aside0.mk (hb); have n4_ := Aside0.mk (ho); clear HO_4; clear BK161; clear HL189_0; clear HB; clear HO_13; have HO_4 := n0_; have BK161 := n1_; have HL189_0 := n2_; have HB := n3_; have HO193 := n4_; clear n0_ n1_ n2_ n3_ n4_; clear ho hb hg hat))
                                                go_roundg k5
                                                case measure => have := HK1.out; have := HK2.out; have := HK3.out; have := HK4.out; have := HK5.out; omega
                                                case rel => exact ⟨(y191), (wrap64 (x89_5 + 1)), (by first | rfl | (simp; done) | (simp [*]; done)), H', ⟨by have := HK1.out; have := HK2.out; have := HK3.out; have := HK4.out; have := HK5.out; omega⟩, ⟨by (with_reducible repeat (first | apply Kd.S_alloc | apply Kd.S_drewN | apply Kd.S_drew)); exact Kd.S_mono HO_4.out (fun _ hk => by first | exact hk.2 | exact hk | exact hk.1)⟩, ⟨by (with_reducible repeat (first | apply Kd.R_alloc | apply Kd.R_drewN | apply Kd.R_drew)); exact HO193.out⟩, ⟨by (with_reducible repeat (first | refine blk_drewN ?_ _ | refine blk_drew ?_ | refine blk_alloc ?_ _)); exact BK161.out⟩, ⟨by repeat (first | (with_reducible first | exact HB.out | apply below_alloc | apply pw_below_drewN | apply below_drew1 | refine below_set ?_ GE161.out) | exact HB.out)⟩⟩
                                              · rw [if_neg c55] at H
                                                exact absurd H (by simp)
                                            · rw [if_neg c54] at H
                                              exact absurd H (by simp)
                                          · rw [if_neg c53] at H
                                            exact absurd H (by simp)
                                        · rw [if_neg c52] at H
                                          exact absurd H (by simp)
                                      · rw [if_neg c51] at H
                                        exact absurd H (by simp)
                                    · rw [if_neg c50] at H
                                      have c50b0 : decide (x89_5 < (x4_4.length : Int)) = false := decide_eq_false c50
                                      clear c50
                                      replace H := Option.bind_eq_some_iff.mp H
                                      obtain ⟨⟨t194, t195⟩, A570, H⟩ := H
                                      replace H : (if t195 = true then (impl_PictureLines.l6 k5 x4_4 x6_4 x81_4 l0_1 (l0_1.length : Int) x81_4 t194 (t194.length : Int) 0 l0_0 l0_1) else (some (([] : List (List Int)), false))) = some (r1, r2) := H
                                      have A57 := Aside0.mk A570
                                      clear A570
                                      by_cases c58 : t195 = true
                                      · subst c58
                                        have H1 : (impl_PictureLines.l6 k5 x4_4 x6_4 x81_4 l0_1 (l0_1.length : Int) x81_4 t194 (t194.length : Int) 0 l0_0 l0_1) = some (r1, r2) := by rw [if_pos rfl] at H; exact H
                                        clear H
                                        have H := H1
                                        clear H1
                                        have H' := Aside0.mk H
                                        clear H
                                        obtain ⟨Ao59, co59, eo59⟩ := Kd.R_slice HO_13.out
                                        subst eo59
                                        go_wp2_with (first | ((with_reducible refine gate_callee (f := 47) rfl ?_); refine goesL_ (some 106) rfl rfl Try.func47 (by kernel_rfl) rfl #[.slice A185_0 (rd_L1 l0_1 x81_4).length c185_0, .slice Ao59 x13_5.length co59] rfl (by (try simp only [List.map_toArray, List.map_cons, List.map_nil]); first | done | rfl | (simp only [List.length_drop, List.length_take]; rfl)) ?_; (with_reducible refine (impl_LineForced.calls k5 _ _ (rd_L1 l0_1 x81_4) _ _ x13_5 t194 true _ ?side1 ?side2 ?side3 ?side4 A57.out).mono ?_); (case side1 => repeat (first | exact (Kd.C_below HR185_0.out HB.out) | (with_reducible refine Kd.C_alloc ?_ _) | (with_reducible refine Kd.C_drewN ?_ _) | (with_reducible refine Kd.C_drew ?_))); (case side2 => exact HC185_0.out); (case side3 => repeat (first | exact (Kd.R_reads' HO_13.out).2.2 | (with_reducible refine Kd.C_alloc ?_ _) | (with_reducible refine Kd.C_drewN ?_ _) | (with_reducible refine Kd.C_drew ?_))); (case side4 => exact (Kd.R_reads' HO_13.out).2.1); rintro e w60 ⟨v196, rfl, ho0, hb⟩; refine ⟨_, rfl, ?_⟩; have n0_ := Aside0.mk (Kd.S_elder' (by (with_reducible repeat (first | apply Kd.S_alloc | apply Kd.S_drewN | apply Kd.S_drew)); exact HO_4.out) (Kd.R_base ho0) hb); have n1_ := Aside0.mk (Kd.R_elder' (by (with_reducible repeat (first | apply Kd.R_alloc | apply Kd.R_drewN | apply Kd.R_drew)); exact HO_13.out) (Kd.R_base ho0) hb); have n2_ := Aside0.mk (Kd.R_lower (Kd.R_new' ho0 (Kd.R_lt (by (with_reducible repeat (first | apply Kd.R_alloc | apply Kd.R_drewN | apply Kd.R_drew)); exact HO_13.out))) (below_size (by repeat (first | (with_reducible first | exact HB.out | apply below_alloc | apply pw_below_drewN | apply below_drew1 | refine below_set ?_ GE161.out) | exact HB.out)))); have n3_ := Aside0.mk (blk_below (g := gb161) (o := .cells #[.slice A0_0 l0_0.length c0_0, .slice (some ad185) l0_1.length c0_1] 25 (0, 0)) (by (with_reducible repeat (first | refine blk_drewN ?_ _ | refine blk_drew ?_ | refine blk_alloc ?_ _)); exact BK161.out) hb); have n4_ := Aside0.mk (below_step (by repeat (first | (with_reducible first | exact HB.out | apply below_alloc | apply pw_below_drewN | apply below_drew1 | refine below_set ?_ GE161.out) | exact HB.out)) hb); clear HO_4; clear HO_13; clear BK161; clear HB; have HO_4 := n0_; have HO_13 := n1_; have HO197 := n2_; have BK161 := n3_; have HB := n4_; clear n0_ n1_ n2_ n3_ n4_; (try clear hb); (try clear hb2); (try clear hk); (try clear hi); (try clear ho0); obtain ⟨Ao61, co61, eo61⟩ := Kd.R_slice HO197.out; subst eo61))
                                        go_loopg [6, 113] k5 (fun kq v6 v113 w' => ∃ (x4_6 : List (List Int)) (x6_6 : Bool) (x111_6 : List Int) (x113_6 : Int), v6 = .bool x6_6 ∧ v113 = .int .i64 x113_6 ∧ Aside0 (impl_PictureLines.l6 kq x4_6 x6_6 x81_4 l0_1 (l0_1.length : Int) x81_4 x111_6 (t194.length : Int) x113_6 l0_0 l0_1 = some (r1, r2)) ∧ Aside0 (kq ≤ k5) ∧ Aside0 (Kd.S (Kd.slice 3 (Kd.int .i64)) 36 w' w.heap.size (fun k_ => some k_ ≠ ((.slice Ao61 t194.length co61) : Value).ownBlock) (.slice Ao49 x4_4.length co49) x4_6) ∧ Aside0 (Kd.R (Kd.int .i64) 3 w' w.heap.size (fun _ => True) (.slice Ao61 t194.length co61) x111_6) ∧ Aside0 (w'.heap[gb161]? = some (.cells #[(.slice A0_0 l0_0.length c0_0), (.slice (some ad185) l0_1.length c0_1)] 25 (0, 0))) ∧ Aside0 (Below w.heap.size w w'))
                                        case atStart => exact ⟨(x4_4), (x6_4), (t194), (0), (by first | rfl | (simp; done) | (simp [*]; done)), (by first | rfl | (simp; done) | (simp [*]; done)), H', ⟨Nat.le_refl _⟩, ⟨by (with_reducible repeat (first | apply Kd.S_alloc | apply Kd.S_drewN | apply Kd.S_drew)); exact Kd.S_mono HO_4.out (fun _ hk => by first | exact hk.2 | exact hk | exact hk.1)⟩, ⟨by (with_reducible repeat (first | apply Kd.R_alloc | apply Kd.R_drewN | apply Kd.R_drew)); exact Kd.R_mono HO197.out (fun _ hk => trivial)⟩, ⟨by (with_reducible repeat (first | refine blk_drewN ?_ _ | refine blk_drew ?_ | refine blk_alloc ?_ _)); exact BK161.out⟩, ⟨by repeat (first | (with_reducible first | exact HB.out | apply below_alloc | apply pw_below_drewN | apply below_drew1 | refine below_set ?_ GE161.out) | exact HB.out)⟩⟩
                                        case round =>
                                          clear H'
                                          try clear c1
                                          try clear p1
                                          try clear q1
                                          try clear hx1
                                          try clear c2
                                          try clear p2
                                          try clear q2
                                          try clear hx2
                                          try clear hf2
                                          try clear c3
                                          try clear p3
                                          try clear q3
                                          try clear hx3
                                          try clear hf3
                                          try clear c4
                                          try clear c5
                                          try clear p6
                                          try clear c10
                                          try clear c10b0
                                          try clear c14
                                          try clear c14b0
                                          try clear c15
                                          try clear c17
                                          try clear p17
                                          try clear q17
                                          try clear hx17
                                          try clear c18
                                          try clear p18
                                          try clear q18
                                          try clear hx18
                                          try clear p19
                                          try clear q19
                                          try clear hx19
                                          try clear c20
                                          try clear c22
                                          try clear c22b0
                                          try clear c23
                                          try clear c23b0
                                          try clear c24
                                          try clear c24b0
                                          try clear c25
                                          try clear c25b0
                                          try clear c27
                                          try clear c28
                                          try clear c29
                                          try clear p29
                                          try clear q29
                                          try clear hx29
                                          try clear hf29
                                          try clear c32
                                          try clear hx32
                                          try clear hf32
                                          try clear c35
                                          try clear p35
                                          try clear q35
                                          try clear hx35
                                          try clear hf35
                                          try clear c39
                                          try clear hx39
                                          try clear hf39
                                          try clear c44
                                          try clear c44b0
                                          try clear c45
                                          try clear c45b0
                                          try clear c46
                                          try clear c46b0
                                          try clear c47
                                          try clear c50
                                          try clear c50b0
                                          try clear c51
                                          try clear c51b0
                                          try clear c52
                                          try clear c52b0
                                          try clear c53
                                          try clear c53b0
                                          try clear c54
                                          try clear c54b0
                                          try clear c55
                                          try clear c58
                                          try clear hcz13_0
                                          try clear hcz13_1
                                          try clear hcz21_0
                                          try clear hcz21_1
                                          try clear hcz43_0
                                          try clear hcz43_1
                                          try clear hcz5_0
                                          try clear hcz5_1
                                          try clear hcz9_0
                                          try clear hcz9_1
                                          try clear hfz13_0
                                          try clear hfz13_1
                                          try clear hfz21_0
                                          try clear hfz21_1
                                          try clear hfz43_0
                                          try clear hfz43_1
                                          try clear hfz5_0
                                          try clear hfz5_1
                                          try clear hfz9_0
                                          try clear hfz9_1
                                          try clear hx175_0
                                          try clear hx176_0
                                          try clear hx182_0
                                          try clear hx185_0
                                          try clear hx189_0
                                          try clear hx190_0
                                          try clear hx29_0
                                          try clear hx32_0
                                          try clear hx35_0
                                          try clear hx39_0
                                          try clear p1
                                          try clear p17
                                          try clear p175
                                          try clear p176
                                          try clear p18
                                          try clear p182
                                          try clear p185
                                          try clear p189
                                          try clear p190
                                          try clear p2
                                          try clear p29
                                          try clear p3
                                          try clear p35
                                          try clear p6
                                          try clear q1
                                          try clear q17
                                          try clear q175
                                          try clear q176
                                          try clear q18
                                          try clear q182
                                          try clear q185
                                          try clear q189
                                          try clear q190
                                          try clear q2
                                          try clear q29
                                          try clear q3
                                          try clear q35
                                          obtain ⟨x4_6, x6_6, x111_6, x113_6, rfl, rfl, HA, HK6, HO_4, HO_111, BK161, HB⟩ := hrel
                                          have hl4_6 := (Kd.S_reads' HO_4.out).1
                                          rw [hl4_6] at HO_4
                                          (try simp only [hl4_6])
                                          (try simp only [hl4_6] at BK161)
                                          (try simp only [hl4_6] at HO_111)
                                          have hl111_6 := (Kd.R_reads' HO_111.out).1
                                          rw [hl111_6] at HO_111
                                          (try simp only [hl111_6])
                                          (try simp only [hl111_6] at BK161)
                                          (try simp only [hl111_6] at HO_4)
                                          cases gk with
                                          | zero => exact absurd HA.out (by simp [impl_PictureLines.l6])
                                          | succ k6 =>
                                            have H := HA.out
                                            clear HA
                                            simp only [impl_PictureLines.l6] at H
                                            by_cases c62 : x113_6 < (t194.length : Int)
                                            · rw [if_pos c62] at H
                                              have c62b0 : decide (x113_6 < (t194.length : Int)) = true := decide_eq_true c62
                                              (try (have c62b0_x111_6 : decide (x113_6 < (x111_6.length : Int)) = true := by first | (rw [← hl111_6]; exact c62b0) | (rw [hl111_6]; exact c62b0)))
                                              clear c62
                                              by_cases c63 : 0 ≤ x113_6
                                              · rw [if_pos c63] at H
                                                have c63b0 : decide (0 ≤ x113_6) = true := decide_eq_true c63
                                                clear c63
                                                by_cases c64 : x113_6 < (x111_6.length : Int)
                                                · rw [if_pos c64] at H
                                                  have c64b0 : decide (x113_6 < (x111_6.length : Int)) = true := decide_eq_true c64
                                                  clear c64
                                                  by_cases c65 : x6_6 = true
                                                  · subst c65
                                                    have H1 : (if x113_6 < (x4_6.length : Int) then (if 0 ≤ x81_4 then (if x81_4 < ((rd_L1 x4_6 x113_6).length : Int) then (impl_PictureLines.l6 k6 (x4_6.set (x113_6 : Int).toNat ((rd_L1 x4_6 x113_6).set (x81_4 : Int).toNat (rd x111_6 x113_6))) true x81_4 l0_1 (l0_1.length : Int) x81_4 x111_6 (t194.length : Int) (wrap64 (x113_6 + 1)) l0_0 l0_1) else (none)) else (none)) else (none)) = some (r1, r2) := by rw [if_pos rfl] at H; exact H
                                                    clear H
                                                    have H := H1
                                                    clear H1
                                                    by_cases c66 : x113_6 < (x4_6.length : Int)
                                                    · rw [if_pos c66] at H
                                                      have c66b0 : decide (x113_6 < (x4_6.length : Int)) = true := decide_eq_true c66
                                                      clear c66
                                                      by_cases c67 : 0 ≤ x81_4
                                                      · rw [if_pos c67] at H
                                                        have c67b0 : decide (0 ≤ x81_4) = true := decide_eq_true c67
                                                        clear c67
                                                        by_cases c68 : x81_4 < ((rd_L1 x4_6 x113_6).length : Int)
                                                        · rw [if_pos c68] at H
                                                          have c68b0 : decide (x81_4 < ((rd_L1 x4_6 x113_6).length : Int)) = true := decide_eq_true c68
                                                          clear c68
                                                          obtain ⟨y200, hy200⟩ : ∃ y_ : List Int, y_ = ((rd_L1 x4_6 x113_6).set (x81_4 : Int).toNat (rd x111_6 x113_6)) := ⟨_, rfl⟩
                                                          replace H : (impl_PictureLines.l6 k6 (x4_6.set (x113_6 : Int).toNat y200) true x81_4 l0_1 (l0_1.length : Int) x81_4 x111_6 (t194.length : Int) (wrap64 (x113_6 + 1)) l0_0 l0_1) = some (r1, r2) := by first | (rw [hy200]; with_reducible exact H) | (have H2_ := (Option.bind_some _ _).symm.trans H; rw [hy200]; with_reducible exact H2_) | (have H2_ := (Option.bind_some _ _).symm.trans H; with_reducible exact H2_) | with_reducible exact H | (rw [hy200]; exact H) | exact H
                                                          have Ny200 := Aside0.mk hy200
                                                          clear hy200
                                                          obtain ⟨y202, hy202⟩ : ∃ y_ : List (List Int), y_ = (x4_6.set (x113_6 : Int).toNat y200) := ⟨_, rfl⟩
                                                          replace H : (impl_PictureLines.l6 k6 y202 true x81_4 l0_1 (l0_1.length : Int) x81_4 x111_6 (t194.length : Int) (wrap64 (x113_6 + 1)) l0_0 l0_1) = some (r1, r2) := by first | (rw [hy202]; with_reducible exact H) | (have H2_ := (Option.bind_some _ _).symm.trans H; rw [hy202]; with_reducible exact H2_) | (have H2_ := (Option.bind_some _ _).symm.trans H; with_reducible exact H2_) | with_reducible exact H | (rw [hy202]; exact H) | exact H
                                                          have Ny202 := Aside0.mk hy202
                                                          clear hy202
                                                          have H' := Aside0.mk H
                                                          clear H
                                                          have p198 : 0 ≤ (x113_6 : Int) := of_decide_eq_true (by first | (with_reducible assumption) | assumption)
                                                          have q198 : x113_6 < (x111_6.length : Int) := of_decide_eq_true (by first | (with_reducible assumption) | assumption)
                                                          obtain ⟨ad198, e198, hx198_0⟩ := Kd.at_int (Kd.R_reads' HO_111.out).2.2 x113_6 p198 q198
                                                          cases e198
                                                          replace p198 := eq_true p198
                                                          replace q198 := eq_true q198
                                                          have p199 : 0 ≤ (x113_6 : Int) := of_decide_eq_true (by first | (with_reducible assumption) | assumption)
                                                          have q199 : x113_6 < (x4_6.length : Int) := of_decide_eq_true (by first | (with_reducible assumption) | assumption)
                                                          obtain ⟨ad199, A199_0, c199_0, e199, hx199_0, hl199_0, hi199_0⟩ := at_L1 (Kd.S_reads' HO_4.out).2.2 x113_6 p199 q199
                                                          cases e199
                                                          obtain ⟨ce199, hce199, hMe199, hcc199⟩ := Kd.S_get HO_4.out [] x113_6 p199 (by first | exact q199 | exact of_decide_eq_true (by first | (with_reducible assumption) | assumption) | (have e_ := (Kd.S_reads' HO_4.out).1; omega))
                                                          obtain ⟨ve199_0, rfl, ge199_0⟩ := hMe199
                                                          have hv199_0 := hcc199 0 _ rfl
                                                          rw [Nat.add_zero, show ((Kd.slice 3 (Kd.int .i64))).sz = 1 from rfl, Nat.mul_one] at hv199_0
                                                          replace hv199_0 := Option.some.inj (hv199_0.symm.trans hx199_0)
                                                          rw [hv199_0] at ge199_0
                                                          have HL199_0 := Aside0.mk (show Kd.R (Kd.int .i64) 3 _ _ _ _ (rd_L1 x4_6 x113_6) from ge199_0)
                                                          clear hv199_0 ge199_0
                                                          have HX199_0 := Aside0.mk hx199_0
                                                          clear hcc199 hce199
                                                          have HR199_0 := Aside0.mk hi199_0
                                                          have HC199_0 := Aside0.mk hl199_0
                                                          clear hi199_0 hl199_0
                                                          replace p199 := eq_true p199
                                                          replace q199 := eq_true q199
                                                          have p69 : 0 ≤ (x81_4 : Int) := of_decide_eq_true (by first | (with_reducible assumption) | assumption)
                                                          have q69 : (x81_4 : Int) < (((rd_L1 x4_6 x113_6).length : Int) : Int) := of_decide_eq_true (by first | (with_reducible assumption) | assumption)
                                                          obtain ⟨go69, co69, eo69, gb69, gl69, cl69, HG69⟩ := Kd.R_form HL199_0.out (by omega)
                                                          (first | cases eo69 | (injection eo69 with ea_ en_ ec_; (first | subst ea_ | (injection ea_ with ea_; subst ea_)); subst ec_; clear en_))
                                                          have GB69 := Aside0.mk gb69
                                                          have GG69 := Aside0.mk HG69
                                                          clear gb69 gl69 HG69
                                                          obtain ⟨hx69_0, hf69_0⟩ := Kd.R_celln 0 HL199_0.out (x81_4 : Int) p69 q69
                                                          replace p69 := eq_true p69
                                                          replace q69 := eq_true q69
                                                          have hq70 : (x113_6 : Int) < (x4_6.length : Int) := (by have h_ : (x113_6 : Int) < ((x4_6.length : Int) : Int) := of_decide_eq_true (by first | (with_reducible assumption) | assumption); first | exact h_ | (have e_ := (Kd.S_reads' HO_4.out).1; omega) | simpa only [List.length_set, List.length_set] using h_)
                                                          obtain ⟨oki70, ce70, hcl70, hM70, hcc70, hok70, hbk70⟩ := Kd.S_borrow HO_4.out [] (x113_6 : Int) (of_decide_eq_true (by first | (with_reducible assumption) | assumption)) hq70
                                                          obtain ⟨ve70_0, rfl, ge70_0⟩ := hM70
                                                          have hv70 := hcc70 0 _ rfl
                                                          rw [Nat.add_zero, show ((Kd.slice 3 (Kd.int .i64))).sz = 1 from rfl, Nat.mul_one] at hv70
                                                          replace hv70 := Option.some.inj (hv70.symm.trans HX199_0.out)
                                                          subst hv70
                                                          clear hcc70 hcl70
                                                          replace ge70_0 := (show Kd.R (Kd.int .i64) 3 _ _ _ _ (rd_L1 x4_6 x113_6) from ge70_0)
                                                          have HP70 := Kd.R_putg ge70_0 (x81_4 : Int) (rd x111_6 x113_6)
                                                          go_wp2_with (first | ((with_reducible refine gate_store (t := 3) (p := 136) rfl ?_); refine store_event (t := 3) (p := 136) (v := ?vo_w71) (w1 := (wr.setCell ⟨go69, (x81_4 : Int).toNat, none⟩ (.int .i64 (rd x111_6 x113_6)))) ?hg ?ho ?hn ?hr ?_; (case ho => rfl); (case hg => rfl); (case hn => rfl); (case hr => first | (go_simp; done) | (go_simp; rfl)); intro w71 hw; have hg : wr.grownBy w71 (some go69) := (by rw [hw]; exact HP70.2); have hz_ : Kd.R (Kd.int .i64) 3 w71 w.heap.size oki70 (.slice (some ⟨go69, 0, none⟩) (rd_L1 x4_6 x113_6).length c199_0) y200 := (by rw [hw, Ny200.out]; exact HP70.1); have hp_ : Kd.S (Kd.slice 3 (Kd.int .i64)) 36 w71 w.heap.size (fun k_ => some k_ ≠ (.slice (some ad198) x111_6.length co61 : Value).ownBlock) (.slice (some ad199) x4_6.length co49) y202 := (by rw [Ny202.out]; exact hbk70 hg (fun k_ e_ => by injection e_ with e_; subst e_; exact ge70_0.1 _ rfl) (Kd.M_row hz_)); have hm_ := Kd.R_mono hz_ hok70; clear HP70 hbk70; have n0_ := Aside0.mk (hp_); have n1_ := Aside0.mk (Kd.R_grown1 (by (with_reducible repeat (first | apply Kd.R_alloc | apply Kd.R_drewN | apply Kd.R_drew)); exact HO_111.out) rfl hg ((HL199_0.out.1 _ rfl).1)); have n2_ := Aside0.mk (blk_grown (g := gb161) (o := .cells #[.slice A0_0 l0_0.length c0_0, .slice (some ad185) l0_1.length c0_1] 25 (0, 0)) (by (with_reducible repeat (first | refine blk_drewN ?_ _ | refine blk_drew ?_ | refine blk_alloc ?_ _)); exact BK161.out) hg (Kd.R_ne HL199_0.out BK161.out (by decide))); have n3_ := Aside0.mk ((by rw [hw]; exact below_set (HB.out) GB69.out : Below w.heap.size w w71)); have n4_ := Aside0.mk (hm_); have n5_ := Aside0.mk ((Kd.R_reads' hm_).2.1); clear HO_4; clear HO_111; clear BK161; clear HB; clear HL199_0; have HO_4 := n0_; have HO_111 := n1_; have BK161 := n2_; have HB := n3_; have HL209 := n4_; have HC201 := n5_; clear n0_ n1_ n2_ n3_ n4_ n5_; clear hg hw hp_ hz_ hm_ hok70))
                                                          (try simp only [← hl4_6, ← hl111_6])
                                                          go_roundg k6
                                                          case measure => have := HK1.out; have := HK2.out; have := HK3.out; have := HK4.out; have := HK5.out; have := HK6.out; omega
                                                          case rel => exact ⟨(y202), (true), (x111_6), (wrap64 (x113_6 + 1)), (by first | rfl | (simp; done) | (simp [*]; done)), (by first | rfl | (simp; done) | (simp [*]; done)), H', ⟨by have := HK1.out; have := HK2.out; have := HK3.out; have := HK4.out; have := HK5.out; have := HK6.out; omega⟩, ⟨by (try simp only [hl4_6]); (try simp only [hl111_6]); (with_reducible repeat (first | apply Kd.S_alloc | apply Kd.S_drewN | apply Kd.S_drew)); exact HO_4.out⟩, ⟨by (try simp only [hl4_6]); (try simp only [hl111_6]); (with_reducible repeat (first | apply Kd.R_alloc | apply Kd.R_drewN | apply Kd.R_drew)); exact HO_111.out⟩, ⟨by (try simp only [hl4_6]); (try simp only [hl111_6]); (with_reducible repeat (first | refine blk_drewN ?_ _ | refine blk_drew ?_ | refine blk_alloc ?_ _)); exact BK161.out⟩, ⟨by repeat (first | (with_reducible first | exact HB.out | apply below_alloc | apply pw_below_drewN | apply below_drew1 | refine below_set ?_ GE161.out) | exact HB.out)⟩⟩
                                                        · rw [if_neg c68] at H
                                                          exact absurd H (by simp)
                                                      · rw [if_neg c67] at H
                                                        exact absurd H (by simp)
                                                    · rw [if_neg c66] at H
                                                      exact absurd H (by simp)
                                                  · replace c65 := Bool.eq_false_iff.mpr c65
                                                    subst c65
                                                    have H1 : (if x113_6 < (x4_6.length : Int) then (if 0 ≤ x81_4 then (if x81_4 < ((rd_L1 x4_6 x113_6).length : Int) then (impl_PictureLines.l6 k6 (x4_6.set (x113_6 : Int).toNat ((rd_L1 x4_6 x113_6).set (x81_4 : Int).toNat (rd x111_6 x113_6))) ((rd (rd_L1 x4_6 x113_6) x81_4) != (rd x111_6 x113_6)) x81_4 l0_1 (l0_1.length : Int) x81_4 x111_6 (t194.length : Int) (wrap64 (x113_6 + 1)) l0_0 l0_1) else (none)) else (none)) else (none)) = some (r1, r2) := by rw [if_neg (show ¬ (false = true) by decide)] at H; exact H
                                                    clear H
                                                    have H := H1
                                                    clear H1
                                                    by_cases c72 : x113_6 < (x4_6.length : Int)
                                                    · rw [if_pos c72] at H
                                                      have c72b0 : decide (x113_6 < (x4_6.length : Int)) = true := decide_eq_true c72
                                                      clear c72
                                                      by_cases c73 : 0 ≤ x81_4
                                                      · rw [if_pos c73] at H
                                                        have c73b0 : decide (0 ≤ x81_4) = true := decide_eq_true c73
                                                        clear c73
                                                        by_cases c74 : x81_4 < ((rd_L1 x4_6 x113_6).length : Int)
                                                        · rw [if_pos c74] at H
                                                          have c74b0 : decide (x81_4 < ((rd_L1 x4_6 x113_6).length : Int)) = true := decide_eq_true c74
                                                          clear c74
                                                          obtain ⟨y206, hy206⟩ : ∃ y_ : List Int, y_ = ((rd_L1 x4_6 x113_6).set (x81_4 : Int).toNat (rd x111_6 x113_6)) := ⟨_, rfl⟩
                                                          replace H : (impl_PictureLines.l6 k6 (x4_6.set (x113_6 : Int).toNat y206) ((rd (rd_L1 x4_6 x113_6) x81_4) != (rd x111_6 x113_6)) x81_4 l0_1 (l0_1.length : Int) x81_4 x111_6 (t194.length : Int) (wrap64 (x113_6 + 1)) l0_0 l0_1) = some (r1, r2) := by first | (rw [hy206]; with_reducible exact H) | (have H2_ := (Option.bind_some _ _).symm.trans H; rw [hy206]; with_reducible exact H2_) | (have H2_ := (Option.bind_some _ _).symm.trans H; with_reducible exact H2_) | with_reducible exact H | (rw [hy206]; exact H) | exact H
                                                          have Ny206 := Aside0.mk hy206
                                                          clear hy206
                                                          obtain ⟨y208, hy208⟩ : ∃ y_ : List (List Int), y_ = (x4_6.set (x113_6 : Int).toNat y206) := ⟨_, rfl⟩
                                                          replace H : (impl_PictureLines.l6 k6 y208 ((rd (rd_L1 x4_6 x113_6) x81_4) != (rd x111_6 x113_6)) x81_4 l0_1 (l0_1.length : Int) x81_4 x111_6 (t194.length : Int) (wrap64 (x113_6 + 1)) l0_0 l0_1) = some (r1, r2) := by first | (rw [hy208]; with_reducible exact H) | (have H2_ := (Option.bind_some _ _).symm.trans H; rw [hy208]; with_reducible exact H2_) | (have H2_ := (Option.bind_some _ _).symm.trans H; with_reducible exact H2_) | with_reducible exact H | (rw [hy208]; exact H) | exact H
                                                          have Ny208 := Aside0.mk hy208
                                                          clear hy208
                                                          have H' := Aside0.mk H
                                                          clear H
                                                          have p198 : 0 ≤ (x113_6 : Int) := of_decide_eq_true (by first | (with_reducible assumption) | assumption)
                                                          have q198 : x113_6 < (x111_6.length : Int) := of_decide_eq_true (by first | (with_reducible assumption) | assumption)
                                                          obtain ⟨ad198, e198, hx198_0⟩ := Kd.at_int (Kd.R_reads' HO_111.out).2.2 x113_6 p198 q198
                                                          cases e198
                                                          replace p198 := eq_true p198
                                                          replace q198 := eq_true q198
                                                          have p203 : 0 ≤ (x113_6 : Int) := of_decide_eq_true (by first | (with_reducible assumption) | assumption)
                                                          have q203 : x113_6 < (x4_6.length : Int) := of_decide_eq_true (by first | (with_reducible assumption) | assumption)
                                                          obtain ⟨ad203, A203_0, c203_0, e203, hx203_0, hl203_0, hi203_0⟩ := at_L1 (Kd.S_reads' HO_4.out).2.2 x113_6 p203 q203
                                                          cases e203
                                                          obtain ⟨ce203, hce203, hMe203, hcc203⟩ := Kd.S_get HO_4.out [] x113_6 p203 (by first | exact q203 | exact of_decide_eq_true (by first | (with_reducible assumption) | assumption) | (have e_ := (Kd.S_reads' HO_4.out).1; omega))
                                                          obtain ⟨ve203_0, rfl, ge203_0⟩ := hMe203
                                                          have hv203_0 := hcc203 0 _ rfl
                                                          rw [Nat.add_zero, show ((Kd.slice 3 (Kd.int .i64))).sz = 1 from rfl, Nat.mul_one] at hv203_0
                                                          replace hv203_0 := Option.some.inj (hv203_0.symm.trans hx203_0)
                                                          rw [hv203_0] at ge203_0
                                                          have HL203_0 := Aside0.mk (show Kd.R (Kd.int .i64) 3 _ _ _ _ (rd_L1 x4_6 x113_6) from ge203_0)
                                                          clear hv203_0 ge203_0
                                                          have HX203_0 := Aside0.mk hx203_0
                                                          clear hcc203 hce203
                                                          have HR203_0 := Aside0.mk hi203_0
                                                          have HC203_0 := Aside0.mk hl203_0
                                                          clear hi203_0 hl203_0
                                                          replace p203 := eq_true p203
                                                          replace q203 := eq_true q203
                                                          have p204 : 0 ≤ (x81_4 : Int) := of_decide_eq_true (by first | (with_reducible assumption) | assumption)
                                                          have q204 : x81_4 < ((rd_L1 x4_6 x113_6).length : Int) := of_decide_eq_true (by first | (with_reducible assumption) | assumption)
                                                          obtain ⟨ad204, e204, hx204_0⟩ := Kd.at_int (by repeat (first | (with_reducible exact HR203_0.out) | (with_reducible refine Kd.C_alloc ?_ _) | (with_reducible refine Kd.C_drewN ?_ _) | (with_reducible refine Kd.C_drew ?_) | exact HR203_0.out)) x81_4 p204 q204
                                                          cases e204
                                                          replace p204 := eq_true p204
                                                          replace q204 := eq_true q204
                                                          have p205 : 0 ≤ (x113_6 : Int) := of_decide_eq_true (by first | (with_reducible assumption) | assumption)
                                                          have q205 : x113_6 < (x4_6.length : Int) := of_decide_eq_true (by first | (with_reducible assumption) | assumption)
                                                          obtain ⟨ad205, A205_0, c205_0, e205, hx205_0, hl205_0, hi205_0⟩ := at_L1 (Kd.S_reads' HO_4.out).2.2 x113_6 p205 q205
                                                          obtain rfl : ad203 = ad205 := (by injection e205)
                                                          obtain ⟨ce205, hce205, hMe205, hcc205⟩ := Kd.S_get HO_4.out [] x113_6 p205 (by first | exact q205 | exact of_decide_eq_true (by first | (with_reducible assumption) | assumption) | (have e_ := (Kd.S_reads' HO_4.out).1; omega))
                                                          obtain ⟨ve205_0, rfl, ge205_0⟩ := hMe205
                                                          have hv205_0 := hcc205 0 _ rfl
                                                          rw [Nat.add_zero, show ((Kd.slice 3 (Kd.int .i64))).sz = 1 from rfl, Nat.mul_one] at hv205_0
                                                          replace hv205_0 := Option.some.inj (hv205_0.symm.trans hx205_0)
                                                          rw [hv205_0] at ge205_0
                                                          have HL205_0 := Aside0.mk (show Kd.R (Kd.int .i64) 3 _ _ _ _ (rd_L1 x4_6 x113_6) from ge205_0)
                                                          clear hv205_0 ge205_0
                                                          have HX205_0 := Aside0.mk hx205_0
                                                          clear hcc205 hce205
                                                          have HR205_0 := Aside0.mk hi205_0
                                                          have HC205_0 := Aside0.mk hl205_0
                                                          clear hi205_0 hl205_0
                                                          replace p205 := eq_true p205
                                                          replace q205 := eq_true q205
                                                          have ea_ := Option.some.inj (hx203_0.symm.trans hx205_0)
                                                          injection ea_ with ea_ en_ ec_
                                                          subst ea_
                                                          subst ec_
                                                          clear en_
                                                          have p75 : 0 ≤ (x81_4 : Int) := of_decide_eq_true (by first | (with_reducible assumption) | assumption)
                                                          have q75 : (x81_4 : Int) < (((rd_L1 x4_6 x113_6).length : Int) : Int) := of_decide_eq_true (by first | (with_reducible assumption) | assumption)
                                                          obtain ⟨go75, co75, eo75, gb75, gl75, cl75, HG75⟩ := Kd.R_form HL205_0.out (by omega)
                                                          (first | cases eo75 | (injection eo75 with ea_ en_ ec_; (first | subst ea_ | (injection ea_ with ea_; subst ea_)); subst ec_; clear en_))
                                                          have GB75 := Aside0.mk gb75
                                                          have GG75 := Aside0.mk HG75
                                                          clear gb75 gl75 HG75
                                                          (first | simp only [add_plain] at hx204_0 | skip)
                                                          obtain ⟨hx75_0, hf75_0⟩ := Kd.R_celln 0 HL205_0.out (x81_4 : Int) p75 q75
                                                          replace p75 := eq_true p75
                                                          replace q75 := eq_true q75
                                                          have hq76 : (x113_6 : Int) < (x4_6.length : Int) := (by have h_ : (x113_6 : Int) < ((x4_6.length : Int) : Int) := of_decide_eq_true (by first | (with_reducible assumption) | assumption); first | exact h_ | (have e_ := (Kd.S_reads' HO_4.out).1; omega) | simpa only [List.length_set, List.length_set] using h_)
                                                          obtain ⟨oki76, ce76, hcl76, hM76, hcc76, hok76, hbk76⟩ := Kd.S_borrow HO_4.out [] (x113_6 : Int) (of_decide_eq_true (by first | (with_reducible assumption) | assumption)) hq76
                                                          obtain ⟨ve76_0, rfl, ge76_0⟩ := hM76
                                                          have hv76 := hcc76 0 _ rfl
                                                          rw [Nat.add_zero, show ((Kd.slice 3 (Kd.int .i64))).sz = 1 from rfl, Nat.mul_one] at hv76
                                                          replace hv76 := Option.some.inj (hv76.symm.trans HX205_0.out)
                                                          subst hv76
                                                          clear hcc76 hcl76
                                                          replace ge76_0 := (show Kd.R (Kd.int .i64) 3 _ _ _ _ (rd_L1 x4_6 x113_6) from ge76_0)
                                                          have HP76 := Kd.R_putg ge76_0 (x81_4 : Int) (rd x111_6 x113_6)
                                                          go_wp2_with (first | ((with_reducible refine gate_store (t := 3) (p := 136) rfl ?_); refine store_event (t := 3) (p := 136) (v := ?vo_w77) (w1 := (wr.setCell ⟨go75, (x81_4 : Int).toNat, none⟩ (.int .i64 (rd x111_6 x113_6)))) ?hg ?ho ?hn ?hr ?_; (case ho => rfl); (case hg => rfl); (case hn => rfl); (case hr => first | (go_simp; done) | (go_simp; rfl)); intro w77 hw; have hg : wr.grownBy w77 (some go75) := (by rw [hw]; exact HP76.2); have hz_ : Kd.R (Kd.int .i64) 3 w77 w.heap.size oki76 (.slice (some ⟨go75, 0, none⟩) (rd_L1 x4_6 x113_6).length c203_0) y206 := (by rw [hw, Ny206.out]; exact HP76.1); have hp_ : Kd.S (Kd.slice 3 (Kd.int .i64)) 36 w77 w.heap.size (fun k_ => some k_ ≠ (.slice (some ad198) x111_6.length co61 : Value).ownBlock) (.slice (some ad203) x4_6.length co49) y208 := (by rw [Ny208.out]; exact hbk76 hg (fun k_ e_ => by injection e_ with e_; subst e_; exact ge76_0.1 _ rfl) (Kd.M_row hz_)); have hm_ := Kd.R_mono hz_ hok76; clear HP76 hbk76; have n0_ := Aside0.mk (hp_); have n1_ := Aside0.mk (Kd.R_grown1 (by (with_reducible repeat (first | apply Kd.R_alloc | apply Kd.R_drewN | apply Kd.R_drew)); exact HO_111.out) rfl hg ((HL205_0.out.1 _ rfl).1)); have n2_ := Aside0.mk (blk_grown (g := gb161) (o := .cells #[.slice A0_0 l0_0.length c0_0, .slice (some ad185) l0_1.length c0_1] 25 (0, 0)) (by (with_reducible repeat (first | refine blk_drewN ?_ _ | refine blk_drew ?_ | refine blk_alloc ?_ _)); exact BK161.out) hg (Kd.R_ne HL205_0.out BK161.out (by decide))); have n3_ := Aside0.mk ((by rw [hw]; exact below_set (HB.out) GB75.out : Below w.heap.size w w77)); have n4_ := Aside0.mk (hm_); have n5_ := Aside0.mk ((Kd.R_reads' hm_).2.1); clear HO_4; clear HO_111; clear BK161; clear HB; clear HL203_0; clear HL205_0; have HO_4 := n0_; have HO_111 := n1_; have BK161 := n2_; have HB := n3_; have HL210 := n4_; have HC207 := n5_; clear n0_ n1_ n2_ n3_ n4_ n5_; clear hg hw hp_ hz_ hm_ hok76))
                                                          (try simp only [← hl4_6, ← hl111_6])
                                                          go_roundg k6
                                                          case measure => have := HK1.out; have := HK2.out; have := HK3.out; have := HK4.out; have := HK5.out; have := HK6.out; omega
                                                          case rel => exact ⟨(y208), (((rd (rd_L1 x4_6 x113_6) x81_4) != (rd x111_6 x113_6))), (x111_6), (wrap64 (x113_6 + 1)), (by first | rfl | (simp; done) | (simp [*]; done)), (by first | rfl | (simp; done) | (simp [*]; done)), H', ⟨by have := HK1.out; have := HK2.out; have := HK3.out; have := HK4.out; have := HK5.out; have := HK6.out; omega⟩, ⟨by (try simp only [hl4_6]); (try simp only [hl111_6]); (with_reducible repeat (first | apply Kd.S_alloc | apply Kd.S_drewN | apply Kd.S_drew)); exact HO_4.out⟩, ⟨by (try simp only [hl4_6]); (try simp only [hl111_6]); (with_reducible repeat (first | apply Kd.R_alloc | apply Kd.R_drewN | apply Kd.R_drew)); exact HO_111.out⟩, ⟨by (try simp only [hl4_6]); (try simp only [hl111_6]); (with_reducible repeat (first | refine blk_drewN ?_ _ | refine blk_drew ?_ | refine blk_alloc ?_ _)); exact BK161.out⟩, ⟨by repeat (first | (with_reducible first | exact HB.out | apply below_alloc | apply pw_below_drewN | apply below_drew1 | refine below_set ?_ GE161.out) | exact HB.out)⟩⟩
                                                        · rw [if_neg c74] at H
                                                          exact absurd H (by simp)
                                                      · rw [if_neg c73] at H
                                                        exact absurd H (by simp)
                                                    · rw [if_neg c72] at H
                                                      exact absurd H (by simp)
                                                · rw [if_neg c64] at H
                                                  exact absurd H (by simp)
                                              · rw [if_neg c63] at H
                                                exact absurd H (by simp)
                                            · rw [if_neg c62] at H
                                              have c62b0 : decide (x113_6 < (t194.length : Int)) = false := decide_eq_false c62
                                              (try (have c62b0_x111_6 : decide (x113_6 < (x111_6.length : Int)) = false := by first | (rw [← hl111_6]; exact c62b0) | (rw [hl111_6]; exact c62b0)))
                                              clear c62
                                              have H' := Aside0.mk H
                                              clear H
                                              go_wp2
                                              (try simp only [← hl4_6, ← hl111_6])
                                              go_roundg k6
                                              case measure => have := HK1.out; have := HK2.out; have := HK3.out; have := HK4.out; have := HK5.out; have := HK6.out; omega
                                              case rel => exact ⟨(x4_6), (x6_6), (wrap64 (x81_4 + 1)), (by first | rfl | (simp; done) | (simp [*]; done)), (by first | rfl | (simp; done) | (simp [*]; done)), H', ⟨by have := HK1.out; have := HK2.out; have := HK3.out; have := HK4.out; have := HK5.out; have := HK6.out; omega⟩, ⟨by (try simp only [hl4_6]); (try simp only [hl111_6]); (with_reducible repeat (first | apply Kd.S_alloc | apply Kd.S_drewN | apply Kd.S_drew)); exact Kd.S_mono HO_4.out (fun _ hk => trivial)⟩, ⟨by (try simp only [hl4_6]); (try simp only [hl111_6]); (with_reducible repeat (first | refine blk_drewN ?_ _ | refine blk_drew ?_ | refine blk_alloc ?_ _)); exact BK161.out⟩, ⟨by repeat (first | (with_reducible first | exact HB.out | apply below_alloc | apply pw_below_drewN | apply below_drew1 | refine below_set ?_ GE161.out) | exact HB.out)⟩⟩
                                      · replace c58 := Bool.eq_false_iff.mpr c58
                                        subst c58
                                        have H1 : (some (([] : List (List Int)), false)) = some (r1, r2) := by rw [if_neg (show ¬ (false = true) by decide)] at H; exact H
                                        clear H
                                        have H := H1
                                        clear H1
                                        simp only [Option.some.injEq, Prod.mk.injEq] at H
                                        obtain ⟨rfl, rfl⟩ := H
                                        obtain ⟨Ao78, co78, eo78⟩ := Kd.R_slice HO_13.out
                                        subst eo78
                                        go_wp2_with (first | ((with_reducible refine gate_callee (f := 47) rfl ?_); refine goesL_ (some 106) rfl rfl Try.func47 (by kernel_rfl) rfl #[.slice A185_0 (rd_L1 l0_1 x81_4).length c185_0, .slice Ao78 x13_5.length co78] rfl (by (try simp only [List.map_toArray, List.map_cons, List.map_nil]); first | done | rfl | (simp only [List.length_drop, List.length_take]; rfl)) ?_; (with_reducible refine (impl_LineForced.calls k5 _ _ (rd_L1 l0_1 x81_4) _ _ x13_5 t194 false _ ?side1 ?side2 ?side3 ?side4 A57.out).mono ?_); (case side1 => repeat (first | exact (Kd.C_below HR185_0.out HB.out) | (with_reducible refine Kd.C_alloc ?_ _) | (with_reducible refine Kd.C_drewN ?_ _) | (with_reducible refine Kd.C_drew ?_))); (case side2 => exact HC185_0.out); (case side3 => repeat (first | exact (Kd.R_reads' HO_13.out).2.2 | (with_reducible refine Kd.C_alloc ?_ _) | (with_reducible refine Kd.C_drewN ?_ _) | (with_reducible refine Kd.C_drew ?_))); (case side4 => exact (Kd.R_reads' HO_13.out).2.1); rintro e w79 ⟨v196, rfl, ho0, hb⟩; refine ⟨_, rfl, ?_⟩; have n0_ := Aside0.mk (Kd.S_elder' (by (with_reducible repeat (first | apply Kd.S_alloc | apply Kd.S_drewN | apply Kd.S_drew)); exact HO_4.out) (Kd.R_base ho0) hb); have n1_ := Aside0.mk (Kd.R_elder' (by (with_reducible repeat (first | apply Kd.R_alloc | apply Kd.R_drewN | apply Kd.R_drew)); exact HO_13.out) (Kd.R_base ho0) hb); have n2_ := Aside0.mk (Kd.R_lower (Kd.R_new' ho0 (Kd.R_lt (by (with_reducible repeat (first | apply Kd.R_alloc | apply Kd.R_drewN | apply Kd.R_drew)); exact HO_13.out))) (below_size (by repeat (first | (with_reducible first | exact HB.out | apply below_alloc | apply pw_below_drewN | apply below_drew1 | refine below_set ?_ GE161.out) | exact HB.out)))); have n3_ := Aside0.mk (blk_below (g := gb161) (o := .cells #[.slice A0_0 l0_0.length c0_0, .slice (some ad185) l0_1.length c0_1] 25 (0, 0)) (by (with_reducible repeat (first | refine blk_drewN ?_ _ | refine blk_drew ?_ | refine blk_alloc ?_ _)); exact BK161.out) hb); have n4_ := Aside0.mk (below_step (by repeat (first | (with_reducible first | exact HB.out | apply below_alloc | apply pw_below_drewN | apply below_drew1 | refine below_set ?_ GE161.out) | exact HB.out)) hb); clear HO_4; clear HO_13; clear BK161; clear HB; have HO_4 := n0_; have HO_13 := n1_; have HO197 := n2_; have BK161 := n3_; have HB := n4_; clear n0_ n1_ n2_ n3_ n4_; (try clear hb); (try clear hb2); (try clear hk); (try clear hi); (try clear ho0)))
                                        go_ret2
                                        exact ⟨_, by first | rfl | (simp [errW_none, errW_some] <;> rfl) | (simp [*, errW_none, errW_some] <;> rfl), by first | exact Kd.S_nil _ _ _ _ _ | exact Kd.N_nil _ _ _ _ _ | exact Kd.V_nil _ _ _ _ _ | exact Kd.Q_nil _ _ _ _ _ | exact Kd.R_nil _ _ _ _ _, by repeat (first | (with_reducible first | exact HB.out | apply below_alloc | apply pw_below_drewN | apply below_drew1 | refine below_set ?_ GE161.out) | exact HB.out)⟩
                              · rw [if_neg c46] at H
                                exact absurd H (by simp)
                            · rw [if_neg c45] at H
                              exact absurd H (by simp)
                          · rw [if_neg c44] at H
                            have c44b0 : decide (x81_4 < (l0_1.length : Int)) = false := decide_eq_false c44
                            clear c44
                            have H' := Aside0.mk H
                            clear H
                            go_wp2
                            go_roundg k4
                            case measure => have := HK1.out; have := HK2.out; have := HK3.out; have := HK4.out; omega
                            case rel => exact ⟨(x4_4), (x6_4), (by first | rfl | (simp; done) | (simp [*]; done)), H', ⟨by have := HK1.out; have := HK2.out; have := HK3.out; have := HK4.out; omega⟩, ⟨by (with_reducible repeat (first | apply Kd.S_alloc | apply Kd.S_drewN | apply Kd.S_drew)); exact HO_4.out⟩, ⟨by (with_reducible repeat (first | refine blk_drewN ?_ _ | refine blk_drew ?_ | refine blk_alloc ?_ _)); exact BK161.out⟩, ⟨by repeat (first | (with_reducible first | exact HB.out | apply below_alloc | apply pw_below_drewN | apply below_drew1 | refine below_set ?_ GE161.out) | exact HB.out)⟩⟩
              · replace c20 := Bool.eq_false_iff.mpr c20
                subst c20
                have H1 : (some (x4_2, true)) = some (r1, r2) := by rw [if_neg (show ¬ (false = true) by decide)] at H; exact H
                clear H
                have H := H1
                clear H1
                simp only [Option.some.injEq, Prod.mk.injEq] at H
                obtain ⟨rfl, rfl⟩ := H
                go_wp2
                go_ret2
                exact ⟨_, by first | rfl | (simp [errW_none, errW_some] <;> rfl) | (simp [*, errW_none, errW_some] <;> rfl), by (with_reducible repeat (first | apply Kd.S_alloc | apply Kd.S_drewN | apply Kd.S_drew)); exact HO_4.out, by repeat (first | (with_reducible first | exact HB.out | apply below_alloc | apply pw_below_drewN | apply below_drew1 | refine below_set ?_ GE161.out) | exact HB.out)⟩
  · replace c3 := Bool.eq_false_iff.mpr c3
    subst c3
    have H1 : (some (([] : List (List Int)), false)) = some (r1, r2) := by rw [if_neg (show ¬ (false = true) by decide)] at H; exact H
    clear H
    have H := H1
    clear H1
    simp only [Option.some.injEq, Prod.mk.injEq] at H
    obtain ⟨rfl, rfl⟩ := H
    go_enter Try.func15, Try.ntmps15
    go_wp2_with (first | ((with_reducible refine gate_dst (N := 1) rfl ?_); refine box_event ?hg (N := 1) ?hd (cs := #[.slice A0_0 l0_0.length c0_0, .slice A0_1 l0_1.length c0_1]) (t := 25) ?hr ?_; (case hd => rfl); (case hg => rfl); (case hr => first | (go_simp; done) | (go_simp; rfl)); intro gb161 hg w80 hbox hb; have n0_ := Aside0.mk (below_step (by repeat (first | (with_reducible first | exact HB.out | apply below_alloc | apply pw_below_drewN | apply below_drew1) | exact HB.out)) hb); have n1_ := Aside0.mk (hbox); have n2_ := Aside0.mk ((by rw [hg]; exact (below_size (by repeat (first | (with_reducible first | exact HB.out | apply below_alloc | apply pw_below_drewN | apply below_drew1) | exact HB.out))) : w.heap.size ≤ gb161)); have n3_ := Aside0.mk ((by rw [hg]; exact (below_size (by repeat (first | (with_reducible first | exact HB.out | apply below_alloc | apply pw_below_drewN | apply below_drew1) | exact HB.out))) : w.heap.size ≤ gb161)); clear HB; have HB := n0_; have BK161 := n1_; have GW161 := n2_; have GE161 := n3_; clear n0_ n1_ n2_ n3_; clear hb hbox hg; have hcz81_0 : w80.cell? ⟨gb161, 0, none⟩ = some (.slice A0_0 l0_0.length c0_0) := (blk_cell BK161.out 0).trans rfl; have hcz81_1 : w80.cell? ⟨gb161, 1, none⟩ = some (.slice A0_1 l0_1.length c0_1) := (blk_cell BK161.out 1).trans rfl; have hfz81_0 := blk_frozen BK161.out 0; have hfz81_1 := blk_frozen BK161.out 1) | ((with_reducible refine gate_callee (f := 24) rfl ?_); refine goesL_ (some 20) rfl rfl Try.func24 (by kernel_rfl) rfl #[.agg #[.slice A0_0 l0_0.length c0_0, .slice A0_1 l0_1.length c0_1]] rfl (by (try simp only [List.map_toArray, List.map_cons, List.map_nil]); first | done | rfl | (simp only [List.length_drop, List.length_take]; rfl)) ?_; (with_reducible refine (impl_PictureValid.calls k _ _ l0_0 _ _ l0_1 false _ ?side1 ?side2 ?side3 ?side4 A2.out).mono ?_); (case side1 => repeat (first | exact (Kd.C_below HR0_0.out HB.out) | (with_reducible refine Kd.C_alloc ?_ _) | (with_reducible refine Kd.C_drewN ?_ _) | (with_reducible refine Kd.C_drew ?_))); (case side2 => exact HC0_0.out); (case side3 => repeat (first | exact (Kd.C_below HR0_1.out HB.out) | (with_reducible refine Kd.C_alloc ?_ _) | (with_reducible refine Kd.C_drewN ?_ _) | (with_reducible refine Kd.C_drew ?_))); (case side4 => exact HC0_1.out); rintro e w82 ⟨rfl, hb⟩; refine ⟨_, rfl, ?_⟩; have n0_ := Aside0.mk (blk_below (g := gb161) (o := .cells #[.slice A0_0 l0_0.length c0_0, .slice A0_1 l0_1.length c0_1] 25 (0, 0)) (by (with_reducible repeat (first | refine blk_drewN ?_ _ | refine blk_drew ?_ | refine blk_alloc ?_ _)); exact BK161.out) hb); have n1_ := Aside0.mk (below_step (by repeat (first | (with_reducible first | exact HB.out | apply below_alloc | apply pw_below_drewN | apply below_drew1 | refine below_set ?_ GE161.out) | exact HB.out)) hb); clear BK161; clear HB; have BK161 := n0_; have HB := n1_; clear n0_ n1_; (try clear hb); (try clear hb2); (try clear hk); (try clear hi)))
    go_ret2
    exact ⟨_, by first | rfl | (simp [errW_none, errW_some] <;> rfl) | (simp [*, errW_none, errW_some] <;> rfl), by first | exact Kd.S_nil _ _ _ _ _ | exact Kd.N_nil _ _ _ _ _ | exact Kd.V_nil _ _ _ _ _ | exact Kd.Q_nil _ _ _ _ _ | exact Kd.R_nil _ _ _ _ _, by repeat (first | (with_reducible first | exact HB.out | apply below_alloc | apply pw_below_drewN | apply below_drew1 | refine below_set ?_ GE161.out) | exact HB.out)⟩

end Go.Proofs.Ytapnohcfnclleaa.PFnExactPictureLines
