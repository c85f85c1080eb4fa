-- Made by a program of this session (a changed copy of the kit print): the kit print itself does not give this text
import Derived.Test.YtcghheaelgjnfaaPFnStarsFirstx0
import Derived.Deep.RegionHeld3
import Derived.StillTailTactics
import Derived.Test.YtcghheaelgjnfaaV0
namespace Go.Proofs.Ytcghheaelgjnfaa.PFnStarsFirst
open Go.RowKit Go.Proofs.YtcghheaelgjnfaaW.PrintWords Go.Proofs.YtcghheaelgjnfaaW.PrintLast Go.Proofs.YtcghheaelgjnfaaW.PrintMore
attribute [local go_sem] max2_int min2_int max_two min_two max_three min_three max_four min_four   -- for this text's walks alone
set_option linter.unusedVariables false
set_option linter.unusedSimpArgs false

/-! ### impl_AreasValid: function 27 -/
mutual
def impl_AreasValid.j0 : Nat → List Int → Int → Bool → Option (Bool)
  | 0, _, _, _ => none
  | k + 1, x0, x1, x20 => if x20 = true then (some false) else (impl_AreasValid.l0 k x1 x0 (x0.length : Int) 0)
def impl_AreasValid.l0 : Nat → Int → List Int → Int → Int → Option (Bool)
  | 0, _, _, _, _ => none
  | k + 1, x1, x21, x22, x23 => if x23 < x22 then (if 0 ≤ x23 then (if x23 < (x21.length : Int) then (if (rd x21 x23) < 0 then (some false) else (if (rd x21 x23) ≥ x1 then (some false) else (impl_AreasValid.l0 k x1 x21 x22 (wrap64 (x23 + 1))))) else (none)) else (none)) else (some true)
end
def impl_AreasValid.f (k : Nat) (l0 : List Int) (a1 : Int) : Option (Bool) := if a1 < 1 then (impl_AreasValid.j0 k l0 a1 true) else (if a1 > 6 then (impl_AreasValid.j0 k l0 a1 true) else (impl_AreasValid.j0 k l0 a1 ((l0.length : Int) != (wrap64 (a1 * a1)))))
theorem impl_AreasValid.mono_l : ∀ k, (∀ y0 y1 y2, LeO (impl_AreasValid.j0 k y0 y1 y2) (impl_AreasValid.j0 (k + 1) y0 y1 y2)) ∧ (∀ y0 y1 y2 y3, LeO (impl_AreasValid.l0 k y0 y1 y2 y3) (impl_AreasValid.l0 (k + 1) y0 y1 y2 y3))
  | 0 => ⟨fun _ _ _ r h => by simp [impl_AreasValid.j0] at h, fun _ _ _ _ r h => by simp [impl_AreasValid.l0] at h⟩
  | k + 1 => by
    obtain ⟨ih0, ih1⟩ := impl_AreasValid.mono_l k
    refine ⟨?_, ?_⟩
    · intro y0 y1 y2
      unfold impl_AreasValid.j0
      repeat' first
      | (with_reducible exact ih0 _ _ _)
      | (with_reducible exact ih1 _ _ _ _)
      | (with_reducible exact LeO.refl _)
      | (with_reducible exact LeO.none _)
      | (with_reducible refine LeO.ite ?_ ?_)
      | (with_reducible refine LeO.bind ?_ (fun _ => ?_))
      | exact ih0 _ _ _
      | exact ih1 _ _ _ _
      | exact LeO.none _
      | refine LeO.ite ?_ ?_
      | refine LeO.bind ?_ (fun _ => ?_)
    · intro y0 y1 y2 y3
      unfold impl_AreasValid.l0
      repeat' first
      | (with_reducible exact ih0 _ _ _)
      | (with_reducible exact ih1 _ _ _ _)
      | (with_reducible exact LeO.refl _)
      | (with_reducible exact LeO.none _)
      | (with_reducible refine LeO.ite ?_ ?_)
      | (with_reducible refine LeO.bind ?_ (fun _ => ?_))
      | exact ih0 _ _ _
      | exact ih1 _ _ _ _
      | exact LeO.none _
      | refine LeO.ite ?_ ?_
      | refine LeO.bind ?_ (fun _ => ?_)
theorem impl_AreasValid.mono : ∀ a0 a1 k, LeO (impl_AreasValid.f k a0 a1) (impl_AreasValid.f (k + 1) a0 a1) := by
  intro a0 a1 k
  obtain ⟨ih0, ih1⟩ := impl_AreasValid.mono_l k
  unfold impl_AreasValid.f
  repeat' first
      | (with_reducible exact ih0 _ _ _)
      | (with_reducible exact ih1 _ _ _ _)
      | (with_reducible exact LeO.refl _)
      | (with_reducible exact LeO.none _)
      | (with_reducible refine LeO.ite ?_ ?_)
      | (with_reducible refine LeO.bind ?_ (fun _ => ?_))
      | exact ih0 _ _ _
      | exact ih1 _ _ _ _
      | exact LeO.none _
      | refine LeO.ite ?_ ?_
      | refine LeO.bind ?_ (fun _ => ?_)
set_option maxHeartbeats 8000000 in
set_option maxRecDepth 100000 in
theorem impl_AreasValid.calls (k : Nat) (A0 : Option Addr) (c0 : Nat) (l0 : List Int) (a1 : Int) (r : Bool) (w : World) (hr0 : Kd.C (Kd.int .i64) w A0 l0.length l0) (hc0 : l0.length ≤ c0) (h : impl_AreasValid.f k l0 a1 = some r) :
    Calls Try.prog 27 #[.slice A0 l0.length c0, .int .i64 a1] w fun e w' => e = .returned (.bool r) ∧ Drawn0 w w' := by
  have HR0 := Aside0.mk hr0
  have HC0 := Aside0.mk hc0
  clear hr0 hc0
  have H : (if a1 < 1 then (impl_AreasValid.j0 k l0 a1 true) else (if a1 > 6 then (impl_AreasValid.j0 k l0 a1 true) else (impl_AreasValid.j0 k l0 a1 ((l0.length : Int) != (wrap64 (a1 * a1)))))) = some r := h
  clear h
  have HC3 := Aside0.mk H
  clear H
  go_enter Try.func27, Try.ntmps27
  go_upto_region 1 with (fail)
  go_cut [20] (fun v20 wc => ∃ (kq : Nat) (x20_2 : Bool), v20 = .bool x20_2 ∧ Aside0 (impl_AreasValid.j0 kq l0 a1 x20_2 = some r) ∧ Aside0 (kq ≤ k) ∧ Drawn0 w wc)
  case first =>
    have H := HC3.out
    clear HC3
    by_cases c4 : a1 < 1
    · rw [if_pos c4] at H
      have c4b0 : decide (a1 < 1) = true := decide_eq_true c4
      clear c4
      (first | rw [c4b0] | (simp only [i64_w, i32_w]; rw [c4b0]) | skip)
      have H' := Aside0.mk H
      clear H
      go_wp2
      go_meet
      case rel => exact ⟨_, (true), (by first | rfl | (simp; done) | (simp [*]; done)), H', ⟨by first | omega | exact Nat.le_refl _⟩, by repeat (first | exact Drawn0.refl _ | apply Drawn0.step)⟩
    · rw [if_neg c4] at H
      have c4b0 : decide (a1 < 1) = false := decide_eq_false c4
      clear c4
      (first | rw [c4b0] | (simp only [i64_w, i32_w]; rw [c4b0]) | skip)
      by_cases c5 : a1 > 6
      · rw [if_pos c5] at H
        have c5b0 : decide (6 < a1) = true := decide_eq_true c5
        clear c5
        have H' := Aside0.mk H
        clear H
        go_wp2
        go_meet
        case rel => exact ⟨_, (true), (by first | rfl | (simp; done) | (simp [*]; done)), H', ⟨by first | omega | exact Nat.le_refl _⟩, by repeat (first | exact Drawn0.refl _ | apply Drawn0.step)⟩
      · rw [if_neg c5] at H
        have c5b0 : decide (6 < a1) = false := decide_eq_false c5
        clear c5
        have H' := Aside0.mk H
        clear H
        go_wp2
        go_meet
        case rel => exact ⟨_, (((l0.length : Int) != (wrap64 (a1 * a1)))), (by first | rfl | (simp; done) | (simp [*]; done)), H', ⟨by first | omega | exact Nat.le_refl _⟩, by repeat (first | exact Drawn0.refl _ | apply Drawn0.step)⟩
  case rest =>
    clear HC3
    try clear c2
    try clear p2
    try clear c4
    try clear c4b0
    try clear c5
    try clear c5b0
    obtain ⟨kq, x20_2, rfl, HA, HJ2, ⟨mc2, rfl⟩⟩ := hcut
    cases kq with
    | zero => exact absurd HA.out (by simp [impl_AreasValid.j0])
    | succ kj2 =>
      have H := HA.out
      clear HA
      simp only [impl_AreasValid.j0] at H
      by_cases c6 : x20_2 = true
      · subst c6
        have H1 : (some false) = some r := by rw [if_pos rfl] at H; exact H
        clear H
        have H := H1
        clear H1
        obtain rfl := Option.some.inj H
        go_wp2
        go_ret
        exact ⟨by first | rfl | (simp; done) | (simp [*]; done), by repeat (first | exact Drawn0.refl _ | apply Drawn0.step)⟩
      · replace c6 := Bool.eq_false_iff.mpr c6
        subst c6
        have H1 : (impl_AreasValid.l0 kj2 a1 l0 (l0.length : Int) 0) = some r := by rw [if_neg (show ¬ (false = true) by decide)] at H; exact H
        clear H
        have H := H1
        clear H1
        have H' := Aside0.mk H
        clear H
        go_wp2
        go_loopg [23] kj2 (fun kq v23 w' => ∃ (x23_2 : Int), v23 = .int .i64 x23_2 ∧ Aside0 (impl_AreasValid.l0 kq a1 l0 (l0.length : Int) x23_2 = some r) ∧ Aside0 (kq ≤ kj2) ∧ Drawn0 w w')
        case atStart => exact ⟨(0), (by first | rfl | (simp; done) | (simp [*]; done)), H', ⟨Nat.le_refl _⟩, by repeat (first | exact Drawn0.refl _ | apply Drawn0.step)⟩
        case round =>
          clear H'
          try clear c2
          try clear p2
          try clear c4
          try clear c4b0
          try clear c5
          try clear c5b0
          try clear c6
          try clear p6
          try clear p2
          obtain ⟨x23_2, rfl, HA, HK2, ⟨m2, rfl⟩⟩ := hrel
          cases gk with
          | zero => exact absurd HA.out (by simp [impl_AreasValid.l0])
          | succ k2 =>
            have H := HA.out
            clear HA
            simp only [impl_AreasValid.l0] at H
            by_cases c7 : x23_2 < (l0.length : Int)
            · rw [if_pos c7] at H
              have c7b0 : decide (x23_2 < (l0.length : Int)) = true := decide_eq_true c7
              clear c7
              by_cases c8 : 0 ≤ x23_2
              · rw [if_pos c8] at H
                have c8b0 : decide (0 ≤ x23_2) = true := decide_eq_true c8
                clear c8
                by_cases c9 : x23_2 < (l0.length : Int)
                · rw [if_pos c9] at H
                  have c9b0 : decide (x23_2 < (l0.length : Int)) = true := decide_eq_true c9
                  clear c9
                  by_cases c10 : (rd l0 x23_2) < 0
                  · rw [if_pos c10] at H
                    have c10b0 : decide ((rd l0 x23_2) < 0) = true := decide_eq_true c10
                    clear c10
                    obtain rfl := Option.some.inj H
                    have p101 : 0 ≤ (x23_2 : Int) := of_decide_eq_true (by first | (with_reducible assumption) | assumption)
                    have q101 : x23_2 < (l0.length : Int) := of_decide_eq_true (by first | (with_reducible assumption) | assumption)
                    obtain ⟨ad101, e101, hx101_0⟩ := Kd.at_int HR0.out x23_2 p101 q101
                    cases e101
                    replace p101 := eq_true p101
                    replace q101 := eq_true q101
                    go_wp2
                    go_ret
                    exact ⟨by first | rfl | (simp; done) | (simp [*]; done), by repeat (first | exact Drawn0.refl _ | apply Drawn0.step)⟩
                  · rw [if_neg c10] at H
                    have c10b0 : decide ((rd l0 x23_2) < 0) = false := decide_eq_false c10
                    clear c10
                    by_cases c11 : (rd l0 x23_2) ≥ a1
                    · rw [if_pos c11] at H
                      have c11b0 : decide (a1 ≤ (rd l0 x23_2)) = true := decide_eq_true c11
                      clear c11
                      obtain rfl := Option.some.inj H
                      have p101 : 0 ≤ (x23_2 : Int) := of_decide_eq_true (by first | (with_reducible assumption) | assumption)
                      have q101 : x23_2 < (l0.length : Int) := of_decide_eq_true (by first | (with_reducible assumption) | assumption)
                      obtain ⟨ad101, e101, hx101_0⟩ := Kd.at_int HR0.out x23_2 p101 q101
                      cases e101
                      replace p101 := eq_true p101
                      replace q101 := eq_true q101
                      go_wp2
                      go_ret
                      exact ⟨by first | rfl | (simp; done) | (simp [*]; done), by repeat (first | exact Drawn0.refl _ | apply Drawn0.step)⟩
                    · rw [if_neg c11] at H
                      have c11b0 : decide (a1 ≤ (rd l0 x23_2)) = false := decide_eq_false c11
                      clear c11
                      have H' := Aside0.mk H
                      clear H
                      have p101 : 0 ≤ (x23_2 : Int) := of_decide_eq_true (by first | (with_reducible assumption) | assumption)
                      have q101 : x23_2 < (l0.length : Int) := of_decide_eq_true (by first | (with_reducible assumption) | assumption)
                      obtain ⟨ad101, e101, hx101_0⟩ := Kd.at_int HR0.out x23_2 p101 q101
                      cases e101
                      replace p101 := eq_true p101
                      replace q101 := eq_true q101
                      go_wp2
                      go_roundg k2
                      case measure => have := HJ2.out; have := HK2.out; omega
                      case rel => exact ⟨(wrap64 (x23_2 + 1)), (by first | rfl | (simp; done) | (simp [*]; done)), H', ⟨by have := HJ2.out; have := HK2.out; omega⟩, by repeat (first | exact Drawn0.refl _ | apply Drawn0.step)⟩
                · rw [if_neg c9] at H
                  exact absurd H (by simp)
              · rw [if_neg c8] at H
                exact absurd H (by simp)
            · rw [if_neg c7] at H
              have c7b0 : decide (x23_2 < (l0.length : Int)) = false := decide_eq_false c7
              clear c7
              obtain rfl := Option.some.inj H
              go_wp2
              go_ret
              exact ⟨by first | rfl | (simp; done) | (simp [*]; done), by repeat (first | exact Drawn0.refl _ | apply Drawn0.step)⟩

/-! ### impl_StarsFit: function 12 -/
--@import Derived.Test.YtcghheaelgjnfaaV0
open Go.Proofs.Ytcghheaelgjnfaa.My
--@import Derived.Deep.RegionHeld3
--@import Derived.StillTailTactics
def impl_StarsFit.l0 : Nat → List Int → Int → List Int → List Bool → List Bool → Int → Option Bool
  | 0, _, _, _, _, _, _ => none
  | k + 1, x0, x1, x2, c, u, r => if r < (x2.length : Int) then (if 0 ≤ r then (if rd x2 r < 0 then some false else (if rd x2 r ≥ x1 then some false else (if rd x2 r < 6 then (if rdOf false c (rd x2 r) = true then some false else (if 0 ≤ wrap64 (wrap64 (r * x1) + rd x2 r) then (if wrap64 (wrap64 (r * x1) + rd x2 r) < (x0.length : Int) then (if 0 ≤ rd x0 (wrap64 (wrap64 (r * x1) + rd x2 r)) then (if rd x0 (wrap64 (wrap64 (r * x1) + rd x2 r)) < 6 then (if rdOf false u (rd x0 (wrap64 (wrap64 (r * x1) + rd x2 r))) = true then some false else (if r > 0 then (if mx (wrap64 (rd x2 r - rd x2 (wrap64 (r - 1)))) (wrap64 (rd x2 (wrap64 (r - 1)) - rd x2 r)) < 2 then some false else (impl_StarsFit.l0 k x0 x1 x2 (c.set (rd x2 r).toNat true) (u.set (rd x0 (wrap64 (wrap64 (r * x1) + rd x2 r))).toNat true) (wrap64 (r + 1)))) else (impl_StarsFit.l0 k x0 x1 x2 (c.set (rd x2 r).toNat true) (u.set (rd x0 (wrap64 (wrap64 (r * x1) + rd x2 r))).toNat true) (wrap64 (r + 1))))) else none) else none) else none) else none)) else none))) else none) else some true
def impl_StarsFit.f (k : Nat) (l0 : List Int) (a1 : Int) (l2 : List Int) : Option Bool := (impl_AreasValid.f k l0 a1).bind fun b => (if b = true then (if (l2.length : Int) > a1 then some false else (impl_StarsFit.l0 k l0 a1 l2 [false, false, false, false, false, false] [false, false, false, false, false, false] 0)) else some false)
theorem impl_StarsFit.mono_l : ∀ k, (∀ y0 y1 y2 y3 y4 y5, LeO (impl_StarsFit.l0 k y0 y1 y2 y3 y4 y5) (impl_StarsFit.l0 (k + 1) y0 y1 y2 y3 y4 y5))
  | 0 => fun _ _ _ _ _ _ r h => by simp [impl_StarsFit.l0] at h
  | k + 1 => by
    have ih0 := impl_StarsFit.mono_l k
    · intro y0 y1 y2 y3 y4 y5
      unfold impl_StarsFit.l0
      repeat' first
      | (with_reducible exact ih0 _ _ _ _ _ _)
      | (with_reducible exact impl_AreasValid.mono _ _ _)
      | (with_reducible exact LeO.refl _)
      | (with_reducible exact LeO.none _)
      | (with_reducible refine LeO.ite ?_ ?_)
      | (with_reducible refine LeO.bind ?_ (fun _ => ?_))
      | exact ih0 _ _ _ _ _ _
      | exact impl_AreasValid.mono _ _ _
      | exact LeO.none _
      | refine LeO.ite ?_ ?_
      | refine LeO.bind ?_ (fun _ => ?_)
theorem impl_StarsFit.mono : ∀ a0 a1 a2 k, LeO (impl_StarsFit.f k a0 a1 a2) (impl_StarsFit.f (k + 1) a0 a1 a2) := by
  intro a0 a1 a2 k
  have ih0 := impl_StarsFit.mono_l k
  unfold impl_StarsFit.f
  repeat' first
      | (with_reducible exact ih0 _ _ _ _ _ _)
      | (with_reducible exact impl_AreasValid.mono _ _ _)
      | (with_reducible exact LeO.refl _)
      | (with_reducible exact LeO.none _)
      | (with_reducible refine LeO.ite ?_ ?_)
      | (with_reducible refine LeO.bind ?_ (fun _ => ?_))
      | exact ih0 _ _ _ _ _ _
      | exact impl_AreasValid.mono _ _ _
      | exact LeO.none _
      | refine LeO.ite ?_ ?_
      | refine LeO.bind ?_ (fun _ => ?_)
set_option maxHeartbeats 8000000 in
set_option maxRecDepth 100000 in
theorem impl_StarsFit.calls (k : Nat) (A0 : Option Addr) (c0 : Nat) (l0 : List Int) (a1 : Int) (A2 : Option Addr) (c2 : Nat) (l2 : List Int) (r : Bool) (w : World) (hr0 : Kd.C (Kd.int .i64) w A0 l0.length l0) (hc0 : l0.length ≤ c0) (hr2 : Kd.C (Kd.int .i64) w A2 l2.length l2) (hc2 : l2.length ≤ c2) (h : impl_StarsFit.f k l0 a1 l2 = some r) :
    Calls Try.prog 12 #[.slice A0 l0.length c0, .int .i64 a1, .slice A2 l2.length c2] w fun e w' => e = .returned (.bool r) ∧ Below w.heap.size w w' := by
  have hu39 := Try.underlying39
  unfold impl_StarsFit.f at h
  obtain ⟨b, hb, h⟩ := Option.bind_eq_some_iff.mp h
  have HA := Aside0.mk hb
  have HR0 := Aside0.mk hr0
  have HR2 := Aside0.mk hr2
  have HB := Aside0.mk (Below.refl w.heap.size w)
  clear hb hr0 hr2
  cases b with
  | false =>
    have e0 : false = r := Option.some.inj h
    subst e0
    clear h
    go_enter Try.func12, Try.ntmps12
    go_wp2_with (first | ((with_reducible refine gate_callee (f := 27) rfl ?_); refine goesL_ (some 13) rfl rfl Try.func27 (by kernel_rfl) rfl #[.slice A0 l0.length c0, .int .i64 a1] rfl (by (try simp only [List.map_toArray, List.map_cons, List.map_nil]); first | done | rfl) ?_; (with_reducible refine (impl_AreasValid.calls k A0 c0 l0 a1 _ _ HR0.out hc0 HA.out).mono ?_); rintro e wb ⟨rfl, hd⟩; have n1_ := Aside0.mk (drawn_below hd); clear HB; have HB := n1_; clear n1_ hd; refine ⟨_, rfl, ?_⟩))
    go_ret
    exact ⟨rfl, HB.out⟩
  | true =>
    replace h : (if (l2.length : Int) > a1 then some false else (impl_StarsFit.l0 k l0 a1 l2 [false, false, false, false, false, false] [false, false, false, false, false, false] 0)) = some r := h
    by_cases c1 : (l2.length : Int) > a1
    · rw [if_pos c1] at h
      have e0 : false = r := Option.some.inj h
      subst e0
      clear h
      have b1 : decide (a1 < (l2.length : Int)) = true := decide_eq_true c1
      clear c1
      go_enter Try.func12, Try.ntmps12
      go_wp2_with (first | ((with_reducible refine gate_callee (f := 27) rfl ?_); refine goesL_ (some 13) rfl rfl Try.func27 (by kernel_rfl) rfl #[.slice A0 l0.length c0, .int .i64 a1] rfl (by (try simp only [List.map_toArray, List.map_cons, List.map_nil]); first | done | rfl) ?_; (with_reducible refine (impl_AreasValid.calls k A0 c0 l0 a1 _ _ HR0.out hc0 HA.out).mono ?_); rintro e wb ⟨rfl, hd⟩; have n1_ := Aside0.mk (drawn_below hd); clear HB; have HB := n1_; clear n1_ hd; refine ⟨_, rfl, ?_⟩))
      go_ret
      exact ⟨rfl, HB.out⟩
    · rw [if_neg c1] at h
      have b1 : decide (a1 < (l2.length : Int)) = false := decide_eq_false c1
      clear c1
      have H' := Aside0.mk h
      clear h
      go_enter Try.func12, Try.ntmps12
      go_wp2_with (first | ((with_reducible refine gate_callee (f := 27) rfl ?_); refine goesL_ (some 13) rfl rfl Try.func27 (by kernel_rfl) rfl #[.slice A0 l0.length c0, .int .i64 a1] rfl (by (try simp only [List.map_toArray, List.map_cons, List.map_nil]); first | done | rfl) ?_; (with_reducible refine (impl_AreasValid.calls k A0 c0 l0 a1 _ _ HR0.out hc0 HA.out).mono ?_); rintro e wb ⟨rfl, hd⟩; have n1_ := Aside0.mk (drawn_below hd); clear HB; have HB := n1_; clear n1_ hd; refine ⟨_, rfl, ?_⟩))
      have HK0 : Aside0 (([false, false, false, false, false, false] : List Bool).length = 6 ∧ ([false, false, false, false, false, false] : List Bool).length = 6) := ⟨rfl, rfl⟩
      have HC := Aside0.mk (blk_alloc (blk_new wb (Obj.cells #[Value.bool false, Value.bool false, Value.bool false, Value.bool false, Value.bool false, Value.bool false] 39)) (Obj.cells #[Value.bool false, Value.bool false, Value.bool false, Value.bool false, Value.bool false, Value.bool false] 39))
      have HU : Aside0 (((wb.alloc (Obj.cells #[Value.bool false, Value.bool false, Value.bool false, Value.bool false, Value.bool false, Value.bool false] 39)).alloc (Obj.cells #[Value.bool false, Value.bool false, Value.bool false, Value.bool false, Value.bool false, Value.bool false] 39)).heap[wb.heap.size + 1]? = some (Obj.cells #[Value.bool false, Value.bool false, Value.bool false, Value.bool false, Value.bool false, Value.bool false] 39 (0, 0))) := ⟨by
        have h1 := blk_new (wb.alloc (Obj.cells #[Value.bool false, Value.bool false, Value.bool false, Value.bool false, Value.bool false, Value.bool false] 39)) (Obj.cells #[Value.bool false, Value.bool false, Value.bool false, Value.bool false, Value.bool false, Value.bool false] 39)
        simpa using h1⟩
      have HZ := Aside0.mk (below_size HB.out)
      go_loopg [25] k (fun kq v25 w' => ∃ (c u : List Bool) (i : Int), v25 = .int .i64 i ∧ Aside0 (impl_StarsFit.l0 kq l0 a1 l2 c u i = some r) ∧ Aside0 (kq ≤ k) ∧ Aside0 (c.length = 6 ∧ u.length = 6) ∧ Aside0 (w'.heap[wb.heap.size]? = some (Obj.cells (c.map Value.bool).toArray 39 (0, 0))) ∧ Aside0 (w'.heap[wb.heap.size + 1]? = some (Obj.cells (u.map Value.bool).toArray 39 (0, 0))) ∧ Aside0 (Below w.heap.size w w'))
      case atStart => exact ⟨_, _, 0, rfl, H', ⟨Nat.le_refl _⟩, HK0, HC, HU, ⟨(HB.out.alloc HB.out.size _).alloc (by have := HB.out.size; simp; omega) _⟩⟩
      case round =>
        clear H' HC HU HB HK0
        obtain ⟨c, u, i, rfl, HA, HK, HL, HC, HU, HB⟩ := hrel
        cases gk with
        | zero => exact absurd HA.out (by simp [impl_StarsFit.l0])
        | succ k1 =>
          have H := HA.out
          clear HA
          rw [impl_StarsFit.l0] at H
          by_cases c5 : i < (l2.length : Int)
          · rw [if_pos c5] at H
            have q5 := eq_true c5
            have c5b0 : decide (i < (l2.length : Int)) = true := decide_eq_true c5
            by_cases c6 : 0 ≤ i
            · rw [if_pos c6] at H
              have p5 := eq_true c6
              have p5b : decide (0 ≤ i) = true := decide_eq_true c6
              obtain ⟨ad, ead, hx0⟩ := Kd.at_int (Kd.C_below HR2.out HB.out) i c6 c5
              cases ead
              obtain ⟨v, hv⟩ : ∃ v, rd l2 i = v := ⟨_, rfl⟩
              rw [hv] at H hx0
              have Hv := Aside0.mk hv
              clear hv
              by_cases n1 : v < 0
              · rw [if_pos n1] at H
                have e0 : false = r := Option.some.inj H
                subst e0
                have d1 : decide (v < 0) = true := decide_eq_true n1
                clear H n1 c5 c6
                go_wp2
                go_quiet (fail)
                go_wp2
                go_ret
                exact ⟨rfl, by repeat (first | (with_reducible first | exact HB.out | apply below_alloc | apply pw_below_drewN | apply below_drew1) | exact HB.out)⟩
              · rw [if_neg n1] at H
                have d1 : decide (v < 0) = false := decide_eq_false n1
                by_cases n2 : v ≥ a1
                · rw [if_pos n2] at H
                  have e0 : false = r := Option.some.inj H
                  subst e0
                  have d2 : decide (a1 ≤ v) = true := decide_eq_true n2
                  clear H n1 n2 c5 c6
                  go_wp2
                  go_quiet (fail)
                  go_wp2
                  go_ret
                  exact ⟨rfl, by repeat (first | (with_reducible first | exact HB.out | apply below_alloc | apply pw_below_drewN | apply below_drew1) | exact HB.out)⟩
                · rw [if_neg n2] at H
                  have d2 : decide (a1 ≤ v) = false := decide_eq_false n2
                  by_cases n3 : v < 6
                  · rw [if_pos n3] at H
                    have p7 : (0 ≤ v) = True := eq_true (by omega)
                    have q7 : (v < 6) = True := eq_true n3
                    have hxc := bool_cell HC.out v (by omega) (by have := HL.out.1; omega)
                    by_cases n4 : rdOf false c v = true
                    · rw [if_pos n4] at H
                      have e0 : false = r := Option.some.inj H
                      subst e0
                      rw [n4] at hxc
                      clear H n1 n2 n3 n4 c5 c6
                      go_wp2
                      go_quiet (fail)
                      go_wp2
                      go_ret
                      exact ⟨rfl, by repeat (first | (with_reducible first | exact HB.out | apply below_alloc | apply pw_below_drewN | apply below_drew1) | exact HB.out)⟩
                    · rw [if_neg n4] at H
                      replace n4 := Bool.eq_false_iff.mpr n4
                      rw [n4] at hxc
                      obtain ⟨m, hm⟩ : ∃ m, wrap64 (i * a1) = m := ⟨_, rfl⟩
                      obtain ⟨j, hj⟩ : ∃ j, wrap64 (m + v) = j := ⟨_, rfl⟩
                      rw [hm, hj] at H
                      have hm' : IntKind.i64.wrap (i * a1) = m := by rw [i64_w]; exact hm
                      have hj' : IntKind.i64.wrap (m + v) = j := by rw [i64_w]; exact hj
                      by_cases n5 : 0 ≤ j
                      · rw [if_pos n5] at H
                        by_cases n6 : j < (l0.length : Int)
                        · rw [if_pos n6] at H
                          have p8 := eq_true n5
                          have q8 := eq_true n6
                          obtain ⟨ad0, ead0, hx1⟩ := Kd.at_int HR0.out j n5 n6
                          cases ead0
                          have hxs : ∀ n, ((wr.drewN n).setCell ⟨wb.heap.size, v.toNat, none⟩ (.bool true)).cell? (ad0.add j.toNat) = some (.int .i64 (rd l0 j)) := fun n => (((pw_below_drewN HB.out n).setCell HZ.out _).cell (World.block_lt_of_cell? w _ hx1)).trans hx1
                          replace hx1 := (HB.out.cell (World.block_lt_of_cell? w _ hx1)).trans hx1
                          obtain ⟨a, ha⟩ : ∃ a, rd l0 j = a := ⟨_, rfl⟩
                          rw [ha] at H hx1
                          simp only [ha] at hxs
                          have Ha := Aside0.mk ha
                          clear ha
                          by_cases n7 : 0 ≤ a
                          · rw [if_pos n7] at H
                            by_cases n8 : a < 6
                            · rw [if_pos n8] at H
                              have p9 := eq_true n7
                              have q9 := eq_true n8
                              have hxu := bool_cell HU.out a n7 (by have := HL.out.2; omega)
                              by_cases n9 : rdOf false u a = true
                              · rw [if_pos n9] at H
                                have e0 : false = r := Option.some.inj H
                                subst e0
                                rw [n9] at hxu
                                clear H n1 n2 n3 n4 n5 n6 n7 n8 n9 c5 c6
                                go_wp2
                                go_quiet (fail)
                                go_wp2
                                go_ret
                                exact ⟨rfl, by repeat (first | (with_reducible first | exact HB.out | apply below_alloc | apply pw_below_drewN | apply below_drew1) | exact HB.out)⟩
                              · rw [if_neg n9] at H
                                replace n9 := Bool.eq_false_iff.mpr n9
                                rw [n9] at hxu
                                have hfc : wr.frozen? ⟨wb.heap.size, v.toNat, none⟩ = false := blk_frozen HC.out _
                                have hfu : wr.frozen? ⟨wb.heap.size + 1, a.toNat, none⟩ = false := blk_frozen HU.out _
                                by_cases n10 : i > 0
                                · rw [if_pos n10] at H
                                  have d10 : decide (0 < i) = true := decide_eq_true n10
                                  have hi1 : wrap64 (i - 1) = i - 1 := by have := HR2.out.2.1; unfold wrap64; omega
                                  have hi1' : IntKind.i64.wrap (i - 1) = i - 1 := by rw [i64_w]; exact hi1
                                  rw [hi1] at H
                                  obtain ⟨i1, hi2⟩ : ∃ i1, i - 1 = i1 := ⟨_, rfl⟩
                                  have g1 : 0 ≤ i1 := by omega
                                  have g2 : i1 < (l2.length : Int) := by omega
                                  rw [hi2] at H hi1'
                                  have p11 := eq_true g1
                                  have q11 := eq_true g2
                                  obtain ⟨ad', ead', hx3⟩ := Kd.at_int (Kd.C_below HR2.out HB.out) i1 g1 g2
                                  obtain rfl : ad = ad' := (by injection ead')
                                  obtain ⟨v1, hv1⟩ : ∃ v, rd l2 i1 = v := ⟨_, rfl⟩
                                  rw [hv1] at H hx3
                                  obtain ⟨s1, hs1⟩ : ∃ s, wrap64 (v - v1) = s := ⟨_, rfl⟩
                                  obtain ⟨s2, hs2⟩ : ∃ s, wrap64 (v1 - v) = s := ⟨_, rfl⟩
                                  rw [hs1, hs2] at H
                                  have hs1' : IntKind.i64.wrap (v - v1) = s1 := by rw [i64_w]; exact hs1
                                  have hs2' : IntKind.i64.wrap (v1 - v) = s2 := by rw [i64_w]; exact hs2
                                  have Hv1 := Aside0.mk hv1
                                  clear hv1 hi1 ead'
                                  obtain ⟨s3, hs3⟩ : ∃ s, mx s1 s2 = s := ⟨_, rfl⟩
                                  rw [hs3] at H
                                  by_cases n12 : s1 < s2
                                  · have e3 : s3 = s2 := by rw [← hs3]; unfold mx; rw [if_pos n12]
                                    rw [e3] at H
                                    have z1 : (s2 ≤ s1) = False := eq_false (by omega)
                                    have z2 : (s1 < s2) = True := eq_true n12
                                    have z3 : decide (s1 < s2) = true := decide_eq_true n12
                                    clear hs3 e3
                                    by_cases n11 : s2 < 2
                                    · rw [if_pos n11] at H
                                      have e0 : false = r := Option.some.inj H
                                      subst e0
                                      have d11 : decide (s2 < 2) = true := decide_eq_true n11
                                      have d12 := eq_true n11
                                      clear H n1 n2 n3 n4 n5 n6 n7 n8 n9 n10 n11 n12 c5 c6 g1 g2
                                      go_wp2
                                      go_quiet (fail)
                                      go_wp2
                                      go_ret
                                      exact ⟨rfl, by repeat (first | (with_reducible first | exact HB.out | apply below_alloc | apply pw_below_drewN | apply below_drew1) | exact HB.out)⟩
                                    · rw [if_neg n11] at H
                                      have d11 : decide (s2 < 2) = false := decide_eq_false n11
                                      have d12 := eq_false n11
                                      have H' := Aside0.mk H
                                      clear H n1 n2 n3 n4 n5 n6 n7 n8 n9 n10 n11 n12 c5 c6 g1 g2
                                      go_wp2
                                      go_quiet (fail)
                                      go_wp2
                                      all_goals (go_region)
                                      go_wp2
                                      go_roundg k1
                                      case measure => have := HK.out; omega
                                      case rel => exact ⟨c.set v.toNat true, u.set a.toNat true, wrap64 (i + 1), by first | rfl | (simp; done) | (simp [*]; done), H', ⟨by have := HK.out; omega⟩, ⟨by rw [List.length_set, List.length_set]; exact HL.out⟩, ⟨by (with_reducible repeat (first | refine blk_drewN ?_ _ | refine blk_drew ?_)); refine blk_far ?_ (by simp) _; (with_reducible repeat (first | refine blk_drewN ?_ _ | refine blk_drew ?_)); exact bool_put (by (with_reducible repeat (first | refine blk_drewN ?_ _ | refine blk_drew ?_)); exact HC.out) v true⟩, ⟨by (with_reducible repeat (first | refine blk_drewN ?_ _ | refine blk_drew ?_)); refine bool_put ?_ a true; (with_reducible repeat (first | refine blk_drewN ?_ _ | refine blk_drew ?_)); exact blk_far (by (with_reducible repeat (first | refine blk_drewN ?_ _ | refine blk_drew ?_)); exact HU.out) (by simp) _⟩, ⟨by repeat (first | (with_reducible first | exact HB.out | apply below_alloc | apply pw_below_drewN | apply below_drew1 | refine below_set ?_ HZ.out | refine below_set ?_ (Nat.le_succ_of_le HZ.out)) | exact HB.out)⟩⟩
                                  · have e3 : s3 = s1 := by rw [← hs3]; unfold mx; rw [if_neg n12]
                                    rw [e3] at H
                                    have z1 : (s2 ≤ s1) = True := eq_true (by omega)
                                    have z2 : (s1 < s2) = False := eq_false n12
                                    have z3 : decide (s1 < s2) = false := decide_eq_false n12
                                    clear hs3 e3
                                    by_cases n11 : s1 < 2
                                    · rw [if_pos n11] at H
                                      have e0 : false = r := Option.some.inj H
                                      subst e0
                                      have d11 : decide (s1 < 2) = true := decide_eq_true n11
                                      have d12 := eq_true n11
                                      clear H n1 n2 n3 n4 n5 n6 n7 n8 n9 n10 n11 n12 c5 c6 g1 g2
                                      go_wp2
                                      go_quiet (fail)
                                      go_wp2
                                      go_ret
                                      exact ⟨rfl, by repeat (first | (with_reducible first | exact HB.out | apply below_alloc | apply pw_below_drewN | apply below_drew1) | exact HB.out)⟩
                                    · rw [if_neg n11] at H
                                      have d11 : decide (s1 < 2) = false := decide_eq_false n11
                                      have d12 := eq_false n11
                                      have H' := Aside0.mk H
                                      clear H n1 n2 n3 n4 n5 n6 n7 n8 n9 n10 n11 n12 c5 c6 g1 g2
                                      go_wp2
                                      go_quiet (fail)
                                      go_wp2
                                      all_goals (go_region)
                                      go_wp2
                                      go_roundg k1
                                      case measure => have := HK.out; omega
                                      case rel => exact ⟨c.set v.toNat true, u.set a.toNat true, wrap64 (i + 1), by first | rfl | (simp; done) | (simp [*]; done), H', ⟨by have := HK.out; omega⟩, ⟨by rw [List.length_set, List.length_set]; exact HL.out⟩, ⟨by (with_reducible repeat (first | refine blk_drewN ?_ _ | refine blk_drew ?_)); refine blk_far ?_ (by simp) _; (with_reducible repeat (first | refine blk_drewN ?_ _ | refine blk_drew ?_)); exact bool_put (by (with_reducible repeat (first | refine blk_drewN ?_ _ | refine blk_drew ?_)); exact HC.out) v true⟩, ⟨by (with_reducible repeat (first | refine blk_drewN ?_ _ | refine blk_drew ?_)); refine bool_put ?_ a true; (with_reducible repeat (first | refine blk_drewN ?_ _ | refine blk_drew ?_)); exact blk_far (by (with_reducible repeat (first | refine blk_drewN ?_ _ | refine blk_drew ?_)); exact HU.out) (by simp) _⟩, ⟨by repeat (first | (with_reducible first | exact HB.out | apply below_alloc | apply pw_below_drewN | apply below_drew1 | refine below_set ?_ HZ.out | refine below_set ?_ (Nat.le_succ_of_le HZ.out)) | exact HB.out)⟩⟩
                                · rw [if_neg n10] at H
                                  have d10 : decide (0 < i) = false := decide_eq_false n10
                                  have H' := Aside0.mk H
                                  clear H n1 n2 n3 n4 n5 n6 n7 n8 n9 n10 c5 c6
                                  go_wp2
                                  go_quiet (fail)
                                  go_wp2
                                  all_goals (go_region)
                                  go_wp2
                                  go_roundg k1
                                  case measure => have := HK.out; omega
                                  case rel => exact ⟨c.set v.toNat true, u.set a.toNat true, wrap64 (i + 1), by first | rfl | (simp; done) | (simp [*]; done), H', ⟨by have := HK.out; omega⟩, ⟨by rw [List.length_set, List.length_set]; exact HL.out⟩, ⟨by (with_reducible repeat (first | refine blk_drewN ?_ _ | refine blk_drew ?_)); refine blk_far ?_ (by simp) _; (with_reducible repeat (first | refine blk_drewN ?_ _ | refine blk_drew ?_)); exact bool_put (by (with_reducible repeat (first | refine blk_drewN ?_ _ | refine blk_drew ?_)); exact HC.out) v true⟩, ⟨by (with_reducible repeat (first | refine blk_drewN ?_ _ | refine blk_drew ?_)); refine bool_put ?_ a true; (with_reducible repeat (first | refine blk_drewN ?_ _ | refine blk_drew ?_)); exact blk_far (by (with_reducible repeat (first | refine blk_drewN ?_ _ | refine blk_drew ?_)); exact HU.out) (by simp) _⟩, ⟨by repeat (first | (with_reducible first | exact HB.out | apply below_alloc | apply pw_below_drewN | apply below_drew1 | refine below_set ?_ HZ.out | refine below_set ?_ (Nat.le_succ_of_le HZ.out)) | exact HB.out)⟩⟩
                            · rw [if_neg n8] at H
                              exact absurd H (by simp)
                          · rw [if_neg n7] at H
                            exact absurd H (by simp)
                        · rw [if_neg n6] at H
                          exact absurd H (by simp)
                      · rw [if_neg n5] at H
                        exact absurd H (by simp)
                  · rw [if_neg n3] at H
                    exact absurd H (by simp)
            · rw [if_neg c6] at H
              exact absurd H (by simp)
          · rw [if_neg c5] at H
            have c5b0 : decide (i < (l2.length : Int)) = false := decide_eq_false c5
            have e0 : true = r := Option.some.inj H
            subst e0
            clear H c5
            go_wp2_with fail
            go_ret
            exact ⟨rfl, HB.out⟩

/-! ### spec_l1In: function 26 -/
def spec_l1In.f (a0 : Int) (a1 : Int) (a2 : Int) : Option (Bool) := if a0 ≥ a1 then (some (decide (a0 ≤ a2))) else (some false)
set_option maxHeartbeats 8000000 in
set_option maxRecDepth 100000 in
theorem spec_l1In.calls (a0 : Int) (a1 : Int) (a2 : Int) (r : Bool) (w : World) (h : spec_l1In.f a0 a1 a2 = some r) :
    Calls Try.prog 26 #[.int .i64 a0, .int .i64 a1, .int .i64 a2] w fun e w' => e = .returned (.bool r) ∧ Drawn0 w w' := by
  have H : (if a0 ≥ a1 then (some (decide (a0 ≤ a2))) else (some false)) = some r := h
  clear h
  by_cases c4 : a0 ≥ a1
  · rw [if_pos c4] at H
    have c4b0 : decide (a1 ≤ a0) = true := decide_eq_true c4
    clear c4
    obtain rfl := Option.some.inj H
    go_enter Try.func26, Try.ntmps26
    go_wp2
    go_ret
    exact ⟨by first | rfl | (simp; done) | (simp [*]; done), by repeat (first | exact Drawn0.refl _ | apply Drawn0.step)⟩
  · rw [if_neg c4] at H
    have c4b0 : decide (a1 ≤ a0) = false := decide_eq_false c4
    clear c4
    obtain rfl := Option.some.inj H
    go_enter Try.func26, Try.ntmps26
    go_wp2
    go_ret
    exact ⟨by first | rfl | (simp; done) | (simp [*]; done), by repeat (first | exact Drawn0.refl _ | apply Drawn0.step)⟩

/-! ### spec_AreasValid: function 25 -/
def spec_AreasValid.l0 : Nat → List Int → Int → Int → Option (Bool)
  | 0, _, _, _ => none
  | k + 1, x0, x1, x5 => if x5 < (x0.length : Int) then (if 0 ≤ x5 then ((spec_l1In.f (rd x0 x5) 0 (wrap64 (x1 - 1))).bind fun t104 => (if t104 = true then (spec_AreasValid.l0 k x0 x1 (wrap64 (x5 + 1))) else (some false))) else (none)) else ((spec_l1In.f x1 1 6).bind fun t102 => (if t102 = true then (some ((x0.length : Int) == (wrap64 (x1 * x1)))) else (some false)))
def spec_AreasValid.f (k : Nat) (l0 : List Int) (a1 : Int) : Option (Bool) := spec_AreasValid.l0 k l0 a1 0
theorem spec_AreasValid.mono_l : ∀ k, (∀ y0 y1 y2, LeO (spec_AreasValid.l0 k y0 y1 y2) (spec_AreasValid.l0 (k + 1) y0 y1 y2))
  | 0 => fun _ _ _ r h => by simp [spec_AreasValid.l0] at h
  | k + 1 => by
    have ih0 := spec_AreasValid.mono_l k
    · intro y0 y1 y2
      unfold spec_AreasValid.l0
      repeat' first
      | (with_reducible exact ih0 _ _ _)
      | (with_reducible exact LeO.refl _)
      | (with_reducible exact LeO.none _)
      | (with_reducible refine LeO.ite ?_ ?_)
      | (with_reducible refine LeO.bind ?_ (fun _ => ?_))
      | exact ih0 _ _ _
      | exact LeO.none _
      | refine LeO.ite ?_ ?_
      | refine LeO.bind ?_ (fun _ => ?_)
theorem spec_AreasValid.mono : ∀ a0 a1 k, LeO (spec_AreasValid.f k a0 a1) (spec_AreasValid.f (k + 1) a0 a1) := by
  intro a0 a1 k
  have ih0 := spec_AreasValid.mono_l k
  unfold spec_AreasValid.f
  repeat' first
      | (with_reducible exact ih0 _ _ _)
      | (with_reducible exact LeO.refl _)
      | (with_reducible exact LeO.none _)
      | (with_reducible refine LeO.ite ?_ ?_)
      | (with_reducible refine LeO.bind ?_ (fun _ => ?_))
      | exact ih0 _ _ _
      | exact LeO.none _
      | refine LeO.ite ?_ ?_
      | refine LeO.bind ?_ (fun _ => ?_)
set_option maxHeartbeats 8000000 in
set_option maxRecDepth 100000 in
theorem spec_AreasValid.calls (k : Nat) (A0 : Option Addr) (c0 : Nat) (l0 : List Int) (a1 : Int) (r : Bool) (w : World) (hr0 : Kd.C (Kd.int .i64) w A0 l0.length l0) (hc0 : l0.length ≤ c0) (h : spec_AreasValid.f k l0 a1 = some r) :
    Calls Try.prog 25 #[.slice A0 l0.length c0, .int .i64 a1] w fun e w' => e = .returned (.bool r) ∧ Drawn0 w w' := by
  have HR0 := Aside0.mk hr0
  have HC0 := Aside0.mk hc0
  clear hr0 hc0
  have H : (spec_AreasValid.l0 k l0 a1 0) = some r := h
  clear h
  have H' := Aside0.mk H
  clear H
  go_enter Try.func25, Try.ntmps25
  go_wp2
  go_loopg [5] k (fun kq v5 w' => ∃ (x5_1 : Int), v5 = .int .i64 x5_1 ∧ Aside0 (spec_AreasValid.l0 kq l0 a1 x5_1 = some r) ∧ Aside0 (kq ≤ k) ∧ Drawn0 w w')
  case atStart => exact ⟨(0), (by first | rfl | (simp; done) | (simp [*]; done)), H', ⟨Nat.le_refl _⟩, by repeat (first | exact Drawn0.refl _ | apply Drawn0.step)⟩
  case round =>
    clear H'
    try clear c2
    try clear p2
    obtain ⟨x5_1, rfl, HA, HK1, ⟨m1, rfl⟩⟩ := hrel
    cases gk with
    | zero => exact absurd HA.out (by simp [spec_AreasValid.l0])
    | succ k1 =>
      have H := HA.out
      clear HA
      simp only [spec_AreasValid.l0] at H
      by_cases c3 : x5_1 < (l0.length : Int)
      · rw [if_pos c3] at H
        have c3b0 : decide (x5_1 < (l0.length : Int)) = true := decide_eq_true c3
        clear c3
        by_cases c4 : 0 ≤ x5_1
        · rw [if_pos c4] at H
          have c4b0 : decide (0 ≤ x5_1) = true := decide_eq_true c4
          clear c4
          replace H := Option.bind_eq_some_iff.mp H
          obtain ⟨t104, A50, H⟩ := H
          replace H : (if t104 = true then (spec_AreasValid.l0 k1 l0 a1 (wrap64 (x5_1 + 1))) else (some false)) = some r := H
          have A5 := Aside0.mk A50
          clear A50
          by_cases c6 : t104 = true
          · subst c6
            have H1 : (spec_AreasValid.l0 k1 l0 a1 (wrap64 (x5_1 + 1))) = some r := by rw [if_pos rfl] at H; exact H
            clear H
            have H := H1
            clear H1
            have H' := Aside0.mk H
            clear H
            have p103 : 0 ≤ (x5_1 : Int) := of_decide_eq_true (by first | (with_reducible assumption) | assumption)
            have q103 : x5_1 < (l0.length : Int) := of_decide_eq_true (by first | (with_reducible assumption) | assumption)
            obtain ⟨ad103, e103, hx103_0⟩ := Kd.at_int HR0.out x5_1 p103 q103
            cases e103
            replace p103 := eq_true p103
            replace q103 := eq_true q103
            go_wp2_with (first | ((with_reducible refine gate_callee (f := 26) rfl ?_); refine goesL_ (some 18) rfl rfl Try.func26 (by kernel_rfl) rfl #[.int .i64 (rd l0 x5_1), .int .i64 0, .int .i64 (wrap64 (a1 - 1))] rfl (by (try simp only [List.map_toArray, List.map_cons, List.map_nil]); first | done | rfl | (simp only [List.length_drop, List.length_take]; rfl)) ?_; (with_reducible refine (spec_l1In.calls (rd l0 x5_1) 0 (wrap64 (a1 - 1)) true _ A5.out).mono ?_); rintro e w' ⟨rfl, ⟨nd, rfl⟩⟩; refine ⟨_, rfl, ?_⟩))
            go_roundg k1
            case measure => have := HK1.out; omega
            case rel => exact ⟨(wrap64 (x5_1 + 1)), (by first | rfl | (simp; done) | (simp [*]; done)), H', ⟨by have := HK1.out; omega⟩, by repeat (first | exact Drawn0.refl _ | apply Drawn0.step)⟩
          · replace c6 := Bool.eq_false_iff.mpr c6
            subst c6
            have H1 : (some false) = some r := by rw [if_neg (show ¬ (false = true) by decide)] at H; exact H
            clear H
            have H := H1
            clear H1
            obtain rfl := Option.some.inj H
            have p103 : 0 ≤ (x5_1 : Int) := of_decide_eq_true (by first | (with_reducible assumption) | assumption)
            have q103 : x5_1 < (l0.length : Int) := of_decide_eq_true (by first | (with_reducible assumption) | assumption)
            obtain ⟨ad103, e103, hx103_0⟩ := Kd.at_int HR0.out x5_1 p103 q103
            cases e103
            replace p103 := eq_true p103
            replace q103 := eq_true q103
            go_wp2_with (first | ((with_reducible refine gate_callee (f := 26) rfl ?_); refine goesL_ (some 18) rfl rfl Try.func26 (by kernel_rfl) rfl #[.int .i64 (rd l0 x5_1), .int .i64 0, .int .i64 (wrap64 (a1 - 1))] rfl (by (try simp only [List.map_toArray, List.map_cons, List.map_nil]); first | done | rfl | (simp only [List.length_drop, List.length_take]; rfl)) ?_; (with_reducible refine (spec_l1In.calls (rd l0 x5_1) 0 (wrap64 (a1 - 1)) false _ A5.out).mono ?_); rintro e w' ⟨rfl, ⟨nd, rfl⟩⟩; refine ⟨_, rfl, ?_⟩))
            go_ret
            exact ⟨by first | rfl | (simp; done) | (simp [*]; done), by repeat (first | exact Drawn0.refl _ | apply Drawn0.step)⟩
        · rw [if_neg c4] at H
          exact absurd H (by simp)
      · rw [if_neg c3] at H
        have c3b0 : decide (x5_1 < (l0.length : Int)) = false := decide_eq_false c3
        clear c3
        replace H := Option.bind_eq_some_iff.mp H
        obtain ⟨t102, A70, H⟩ := H
        replace H : (if t102 = true then (some ((l0.length : Int) == (wrap64 (a1 * a1)))) else (some false)) = some r := H
        have A7 := Aside0.mk A70
        clear A70
        by_cases c8 : t102 = true
        · subst c8
          have H1 : (some ((l0.length : Int) == (wrap64 (a1 * a1)))) = some r := by rw [if_pos rfl] at H; exact H
          clear H
          have H := H1
          clear H1
          obtain rfl := Option.some.inj H
          go_wp2_with (first | ((with_reducible refine gate_callee (f := 26) rfl ?_); refine goesL_ (some 21) rfl rfl Try.func26 (by kernel_rfl) rfl #[.int .i64 a1, .int .i64 1, .int .i64 6] rfl (by (try simp only [List.map_toArray, List.map_cons, List.map_nil]); first | done | rfl | (simp only [List.length_drop, List.length_take]; rfl)) ?_; (with_reducible refine (spec_l1In.calls a1 1 6 true _ A7.out).mono ?_); rintro e w' ⟨rfl, ⟨nd, rfl⟩⟩; refine ⟨_, rfl, ?_⟩))
          go_ret
          exact ⟨by first | rfl | (simp; done) | (simp [*]; done), by repeat (first | exact Drawn0.refl _ | apply Drawn0.step)⟩
        · replace c8 := Bool.eq_false_iff.mpr c8
          subst c8
          have H1 : (some false) = some r := by rw [if_neg (show ¬ (false = true) by decide)] at H; exact H
          clear H
          have H := H1
          clear H1
          obtain rfl := Option.some.inj H
          go_wp2_with (first | ((with_reducible refine gate_callee (f := 26) rfl ?_); refine goesL_ (some 21) rfl rfl Try.func26 (by kernel_rfl) rfl #[.int .i64 a1, .int .i64 1, .int .i64 6] rfl (by (try simp only [List.map_toArray, List.map_cons, List.map_nil]); first | done | rfl | (simp only [List.length_drop, List.length_take]; rfl)) ?_; (with_reducible refine (spec_l1In.calls a1 1 6 false _ A7.out).mono ?_); rintro e w' ⟨rfl, ⟨nd, rfl⟩⟩; refine ⟨_, rfl, ?_⟩))
          go_ret
          exact ⟨by first | rfl | (simp; done) | (simp [*]; done), by repeat (first | exact Drawn0.refl _ | apply Drawn0.step)⟩

end Go.Proofs.Ytcghheaelgjnfaa.PFnStarsFirst
