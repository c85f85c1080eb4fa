-- Made by a program of this session (a changed copy of the kit print): the kit print itself does not give this text
import Derived.Test.YtcghheaelgjnfaaPFnStarsFitx0
import Derived.Test.YtcghheaelgjnfaaPFnStarsFitx1
import Derived.Test.YtcghheaelgjnfaaPFnStarsFitx2
import Derived.Deep.RegionHeld3
import Derived.StillTailTactics
import Derived.Test.YtcghheaelgjnfaaV0
namespace Go.Proofs.Ytcghheaelgjnfaa.PFnStarsFit
open Go.RowKit Go.Proofs.YtcghheaelgjnfaaW.PrintWords Go.Proofs.YtcghheaelgjnfaaW.PrintLast Go.Proofs.YtcghheaelgjnfaaW.PrintMore
attribute [local go_sem] max2_int min2_int max_two min_two max_three min_three max_four min_four   -- for this text's walks alone
set_option linter.unusedVariables false
set_option linter.unusedSimpArgs false

/-! ### impl_AreasValid: function 27 -/
mutual
def impl_AreasValid.j0 : Nat → List Int → Int → Bool → Option (Bool)
  | 0, _, _, _ => none
  | k + 1, x0, x1, x20 => if x20 = true then (some false) else (impl_AreasValid.l0 k x1 x0 (x0.length : Int) 0)
def impl_AreasValid.l0 : Nat → Int → List Int → Int → Int → Option (Bool)
  | 0, _, _, _, _ => none
  | k + 1, x1, x21, x22, x23 => if x23 < x22 then (if 0 ≤ x23 then (if x23 < (x21.length : Int) then (if (rd x21 x23) < 0 then (some false) else (if (rd x21 x23) ≥ x1 then (some false) else (impl_AreasValid.l0 k x1 x21 x22 (wrap64 (x23 + 1))))) else (none)) else (none)) else (some true)
end
def impl_AreasValid.f (k : Nat) (l0 : List Int) (a1 : Int) : Option (Bool) := if a1 < 1 then (impl_AreasValid.j0 k l0 a1 true) else (if a1 > 6 then (impl_AreasValid.j0 k l0 a1 true) else (impl_AreasValid.j0 k l0 a1 ((l0.length : Int) != (wrap64 (a1 * a1)))))
theorem impl_AreasValid.mono_l : ∀ k, (∀ y0 y1 y2, LeO (impl_AreasValid.j0 k y0 y1 y2) (impl_AreasValid.j0 (k + 1) y0 y1 y2)) ∧ (∀ y0 y1 y2 y3, LeO (impl_AreasValid.l0 k y0 y1 y2 y3) (impl_AreasValid.l0 (k + 1) y0 y1 y2 y3))
  | 0 => ⟨fun _ _ _ r h => by simp [impl_AreasValid.j0] at h, fun _ _ _ _ r h => by simp [impl_AreasValid.l0] at h⟩
  | k + 1 => by
    obtain ⟨ih0, ih1⟩ := impl_AreasValid.mono_l k
    refine ⟨?_, ?_⟩
    · intro y0 y1 y2
      unfold impl_AreasValid.j0
      repeat' first
      | (with_reducible exact ih0 _ _ _)
      | (with_reducible exact ih1 _ _ _ _)
      | (with_reducible exact LeO.refl _)
      | (with_reducible exact LeO.none _)
      | (with_reducible refine LeO.ite ?_ ?_)
      | (with_reducible refine LeO.bind ?_ (fun _ => ?_))
      | exact ih0 _ _ _
      | exact ih1 _ _ _ _
      | exact LeO.none _
      | refine LeO.ite ?_ ?_
      | refine LeO.bind ?_ (fun _ => ?_)
    · intro y0 y1 y2 y3
      unfold impl_AreasValid.l0
      repeat' first
      | (with_reducible exact ih0 _ _ _)
      | (with_reducible exact ih1 _ _ _ _)
      | (with_reducible exact LeO.refl _)
      | (with_reducible exact LeO.none _)
      | (with_reducible refine LeO.ite ?_ ?_)
      | (with_reducible refine LeO.bind ?_ (fun _ => ?_))
      | exact ih0 _ _ _
      | exact ih1 _ _ _ _
      | exact LeO.none _
      | refine LeO.ite ?_ ?_
      | refine LeO.bind ?_ (fun _ => ?_)
theorem impl_AreasValid.mono : ∀ a0 a1 k, LeO (impl_AreasValid.f k a0 a1) (impl_AreasValid.f (k + 1) a0 a1) := by
  intro a0 a1 k
  obtain ⟨ih0, ih1⟩ := impl_AreasValid.mono_l k
  unfold impl_AreasValid.f
  repeat' first
      | (with_reducible exact ih0 _ _ _)
      | (with_reducible exact ih1 _ _ _ _)
      | (with_reducible exact LeO.refl _)
      | (with_reducible exact LeO.none _)
      | (with_reducible refine LeO.ite ?_ ?_)
      | (with_reducible refine LeO.bind ?_ (fun _ => ?_))
      | exact ih0 _ _ _
      | exact ih1 _ _ _ _
      | exact LeO.none _
      | refine LeO.ite ?_ ?_
      | refine LeO.bind ?_ (fun _ => ?_)
set_option maxHeartbeats 8000000 in
set_option maxRecDepth 100000 in
theorem impl_AreasValid.calls (k : Nat) (A0 : Option Addr) (c0 : Nat) (l0 : List Int) (a1 : Int) (r : Bool) (w : World) (hr0 : Kd.C (Kd.int .i64) w A0 l0.length l0) (hc0 : l0.length ≤ c0) (h : impl_AreasValid.f k l0 a1 = some r) :
    Calls Try.prog 27 #[.slice A0 l0.length c0, .int .i64 a1] w fun e w' => e = .returned (.bool r) ∧ Drawn0 w w' := by
  have HR0 := Aside0.mk hr0
  have HC0 := Aside0.mk hc0
  clear hr0 hc0
  have H : (if a1 < 1 then (impl_AreasValid.j0 k l0 a1 true) else (if a1 > 6 then (impl_AreasValid.j0 k l0 a1 true) else (impl_AreasValid.j0 k l0 a1 ((l0.length : Int) != (wrap64 (a1 * a1)))))) = some r := h
  clear h
  have HC3 := Aside0.mk H
  clear H
  go_enter Try.func27, Try.ntmps27
  go_upto_region 1 with (fail)
  go_cut [20] (fun v20 wc => ∃ (kq : Nat) (x20_2 : Bool), v20 = .bool x20_2 ∧ Aside0 (impl_AreasValid.j0 kq l0 a1 x20_2 = some r) ∧ Aside0 (kq ≤ k) ∧ Drawn0 w wc)
  case first =>
    have H := HC3.out
    clear HC3
    by_cases c4 : a1 < 1
    · rw [if_pos c4] at H
      have c4b0 : decide (a1 < 1) = true := decide_eq_true c4
      clear c4
      (first | rw [c4b0] | (simp only [i64_w, i32_w]; rw [c4b0]) | skip)
      have H' := Aside0.mk H
      clear H
      go_wp2
      go_meet
      case rel => exact ⟨_, (true), (by first | rfl | (simp; done) | (simp [*]; done)), H', ⟨by first | omega | exact Nat.le_refl _⟩, by repeat (first | exact Drawn0.refl _ | apply Drawn0.step)⟩
    · rw [if_neg c4] at H
      have c4b0 : decide (a1 < 1) = false := decide_eq_false c4
      clear c4
      (first | rw [c4b0] | (simp only [i64_w, i32_w]; rw [c4b0]) | skip)
      by_cases c5 : a1 > 6
      · rw [if_pos c5] at H
        have c5b0 : decide (6 < a1) = true := decide_eq_true c5
        clear c5
        have H' := Aside0.mk H
        clear H
        go_wp2
        go_meet
        case rel => exact ⟨_, (true), (by first | rfl | (simp; done) | (simp [*]; done)), H', ⟨by first | omega | exact Nat.le_refl _⟩, by repeat (first | exact Drawn0.refl _ | apply Drawn0.step)⟩
      · rw [if_neg c5] at H
        have c5b0 : decide (6 < a1) = false := decide_eq_false c5
        clear c5
        have H' := Aside0.mk H
        clear H
        go_wp2
        go_meet
        case rel => exact ⟨_, (((l0.length : Int) != (wrap64 (a1 * a1)))), (by first | rfl | (simp; done) | (simp [*]; done)), H', ⟨by first | omega | exact Nat.le_refl _⟩, by repeat (first | exact Drawn0.refl _ | apply Drawn0.step)⟩
  case rest =>
    clear HC3
    try clear c2
    try clear p2
    try clear c4
    try clear c4b0
    try clear c5
    try clear c5b0
    obtain ⟨kq, x20_2, rfl, HA, HJ2, ⟨mc2, rfl⟩⟩ := hcut
    cases kq with
    | zero => exact absurd HA.out (by simp [impl_AreasValid.j0])
    | succ kj2 =>
      have H := HA.out
      clear HA
      simp only [impl_AreasValid.j0] at H
      by_cases c6 : x20_2 = true
      · subst c6
        have H1 : (some false) = some r := by rw [if_pos rfl] at H; exact H
        clear H
        have H := H1
        clear H1
        obtain rfl := Option.some.inj H
        go_wp2
        go_ret
        exact ⟨by first | rfl | (simp; done) | (simp [*]; done), by repeat (first | exact Drawn0.refl _ | apply Drawn0.step)⟩
      · replace c6 := Bool.eq_false_iff.mpr c6
        subst c6
        have H1 : (impl_AreasValid.l0 kj2 a1 l0 (l0.length : Int) 0) = some r := by rw [if_neg (show ¬ (false = true) by decide)] at H; exact H
        clear H
        have H := H1
        clear H1
        have H' := Aside0.mk H
        clear H
        go_wp2
        go_loopg [23] kj2 (fun kq v23 w' => ∃ (x23_2 : Int), v23 = .int .i64 x23_2 ∧ Aside0 (impl_AreasValid.l0 kq a1 l0 (l0.length : Int) x23_2 = some r) ∧ Aside0 (kq ≤ kj2) ∧ Drawn0 w w')
        case atStart => exact ⟨(0), (by first | rfl | (simp; done) | (simp [*]; done)), H', ⟨Nat.le_refl _⟩, by repeat (first | exact Drawn0.refl _ | apply Drawn0.step)⟩
        case round =>
          clear H'
          try clear c2
          try clear p2
          try clear c4
          try clear c4b0
          try clear c5
          try clear c5b0
          try clear c6
          try clear p6
          try clear p2
          obtain ⟨x23_2, rfl, HA, HK2, ⟨m2, rfl⟩⟩ := hrel
          cases gk with
          | zero => exact absurd HA.out (by simp [impl_AreasValid.l0])
          | succ k2 =>
            have H := HA.out
            clear HA
            simp only [impl_AreasValid.l0] at H
            by_cases c7 : x23_2 < (l0.length : Int)
            · rw [if_pos c7] at H
              have c7b0 : decide (x23_2 < (l0.length : Int)) = true := decide_eq_true c7
              clear c7
              by_cases c8 : 0 ≤ x23_2
              · rw [if_pos c8] at H
                have c8b0 : decide (0 ≤ x23_2) = true := decide_eq_true c8
                clear c8
                by_cases c9 : x23_2 < (l0.length : Int)
                · rw [if_pos c9] at H
                  have c9b0 : decide (x23_2 < (l0.length : Int)) = true := decide_eq_true c9
                  clear c9
                  by_cases c10 : (rd l0 x23_2) < 0
                  · rw [if_pos c10] at H
                    have c10b0 : decide ((rd l0 x23_2) < 0) = true := decide_eq_true c10
                    clear c10
                    obtain rfl := Option.some.inj H
                    have p116 : 0 ≤ (x23_2 : Int) := of_decide_eq_true (by first | (with_reducible assumption) | assumption)
                    have q116 : x23_2 < (l0.length : Int) := of_decide_eq_true (by first | (with_reducible assumption) | assumption)
                    obtain ⟨ad116, e116, hx116_0⟩ := Kd.at_int HR0.out x23_2 p116 q116
                    cases e116
                    replace p116 := eq_true p116
                    replace q116 := eq_true q116
                    go_wp2
                    go_ret
                    exact ⟨by first | rfl | (simp; done) | (simp [*]; done), by repeat (first | exact Drawn0.refl _ | apply Drawn0.step)⟩
                  · rw [if_neg c10] at H
                    have c10b0 : decide ((rd l0 x23_2) < 0) = false := decide_eq_false c10
                    clear c10
                    by_cases c11 : (rd l0 x23_2) ≥ a1
                    · rw [if_pos c11] at H
                      have c11b0 : decide (a1 ≤ (rd l0 x23_2)) = true := decide_eq_true c11
                      clear c11
                      obtain rfl := Option.some.inj H
                      have p116 : 0 ≤ (x23_2 : Int) := of_decide_eq_true (by first | (with_reducible assumption) | assumption)
                      have q116 : x23_2 < (l0.length : Int) := of_decide_eq_true (by first | (with_reducible assumption) | assumption)
                      obtain ⟨ad116, e116, hx116_0⟩ := Kd.at_int HR0.out x23_2 p116 q116
                      cases e116
                      replace p116 := eq_true p116
                      replace q116 := eq_true q116
                      go_wp2
                      go_ret
                      exact ⟨by first | rfl | (simp; done) | (simp [*]; done), by repeat (first | exact Drawn0.refl _ | apply Drawn0.step)⟩
                    · rw [if_neg c11] at H
                      have c11b0 : decide (a1 ≤ (rd l0 x23_2)) = false := decide_eq_false c11
                      clear c11
                      have H' := Aside0.mk H
                      clear H
                      have p116 : 0 ≤ (x23_2 : Int) := of_decide_eq_true (by first | (with_reducible assumption) | assumption)
                      have q116 : x23_2 < (l0.length : Int) := of_decide_eq_true (by first | (with_reducible assumption) | assumption)
                      obtain ⟨ad116, e116, hx116_0⟩ := Kd.at_int HR0.out x23_2 p116 q116
                      cases e116
                      replace p116 := eq_true p116
                      replace q116 := eq_true q116
                      go_wp2
                      go_roundg k2
                      case measure => have := HJ2.out; have := HK2.out; omega
                      case rel => exact ⟨(wrap64 (x23_2 + 1)), (by first | rfl | (simp; done) | (simp [*]; done)), H', ⟨by have := HJ2.out; have := HK2.out; omega⟩, by repeat (first | exact Drawn0.refl _ | apply Drawn0.step)⟩
                · rw [if_neg c9] at H
                  exact absurd H (by simp)
              · rw [if_neg c8] at H
                exact absurd H (by simp)
            · rw [if_neg c7] at H
              have c7b0 : decide (x23_2 < (l0.length : Int)) = false := decide_eq_false c7
              clear c7
              obtain rfl := Option.some.inj H
              go_wp2
              go_ret
              exact ⟨by first | rfl | (simp; done) | (simp [*]; done), by repeat (first | exact Drawn0.refl _ | apply Drawn0.step)⟩

/-! ### impl_StarsFit: function 12 -/
--@import Derived.Test.YtcghheaelgjnfaaV0
open Go.Proofs.Ytcghheaelgjnfaa.My
--@import Derived.Deep.RegionHeld3
--@import Derived.StillTailTactics
def impl_StarsFit.l0 : Nat → List Int → Int → List Int → List Bool → List Bool → Int → Option Bool
  | 0, _, _, _, _, _, _ => none
  | k + 1, x0, x1, x2, c, u, r => if r < (x2.length : Int) then (if 0 ≤ r then (if rd x2 r < 0 then some false else (if rd x2 r ≥ x1 then some false else (if rd x2 r < 6 then (if rdOf false c (rd x2 r) = true then some false else (if 0 ≤ wrap64 (wrap64 (r * x1) + rd x2 r) then (if wrap64 (wrap64 (r * x1) + rd x2 r) < (x0.length : Int) then (if 0 ≤ rd x0 (wrap64 (wrap64 (r * x1) + rd x2 r)) then (if rd x0 (wrap64 (wrap64 (r * x1) + rd x2 r)) < 6 then (if rdOf false u (rd x0 (wrap64 (wrap64 (r * x1) + rd x2 r))) = true then some false else (if r > 0 then (if mx (wrap64 (rd x2 r - rd x2 (wrap64 (r - 1)))) (wrap64 (rd x2 (wrap64 (r - 1)) - rd x2 r)) < 2 then some false else (impl_StarsFit.l0 k x0 x1 x2 (c.set (rd x2 r).toNat true) (u.set (rd x0 (wrap64 (wrap64 (r * x1) + rd x2 r))).toNat true) (wrap64 (r + 1)))) else (impl_StarsFit.l0 k x0 x1 x2 (c.set (rd x2 r).toNat true) (u.set (rd x0 (wrap64 (wrap64 (r * x1) + rd x2 r))).toNat true) (wrap64 (r + 1))))) else none) else none) else none) else none)) else none))) else none) else some true
def impl_StarsFit.f (k : Nat) (l0 : List Int) (a1 : Int) (l2 : List Int) : Option Bool := (impl_AreasValid.f k l0 a1).bind fun b => (if b = true then (if (l2.length : Int) > a1 then some false else (impl_StarsFit.l0 k l0 a1 l2 [false, false, false, false, false, false] [false, false, false, false, false, false] 0)) else some false)
theorem impl_StarsFit.mono_l : ∀ k, (∀ y0 y1 y2 y3 y4 y5, LeO (impl_StarsFit.l0 k y0 y1 y2 y3 y4 y5) (impl_StarsFit.l0 (k + 1) y0 y1 y2 y3 y4 y5))
  | 0 => fun _ _ _ _ _ _ r h => by simp [impl_StarsFit.l0] at h
  | k + 1 => by
    have ih0 := impl_StarsFit.mono_l k
    · intro y0 y1 y2 y3 y4 y5
      unfold impl_StarsFit.l0
      repeat' first
      | (with_reducible exact ih0 _ _ _ _ _ _)
      | (with_reducible exact impl_AreasValid.mono _ _ _)
      | (with_reducible exact LeO.refl _)
      | (with_reducible exact LeO.none _)
      | (with_reducible refine LeO.ite ?_ ?_)
      | (with_reducible refine LeO.bind ?_ (fun _ => ?_))
      | exact ih0 _ _ _ _ _ _
      | exact impl_AreasValid.mono _ _ _
      | exact LeO.none _
      | refine LeO.ite ?_ ?_
      | refine LeO.bind ?_ (fun _ => ?_)
theorem impl_StarsFit.mono : ∀ a0 a1 a2 k, LeO (impl_StarsFit.f k a0 a1 a2) (impl_StarsFit.f (k + 1) a0 a1 a2) := by
  intro a0 a1 a2 k
  have ih0 := impl_StarsFit.mono_l k
  unfold impl_StarsFit.f
  repeat' first
      | (with_reducible exact ih0 _ _ _ _ _ _)
      | (with_reducible exact impl_AreasValid.mono _ _ _)
      | (with_reducible exact LeO.refl _)
      | (with_reducible exact LeO.none _)
      | (with_reducible refine LeO.ite ?_ ?_)
      | (with_reducible refine LeO.bind ?_ (fun _ => ?_))
      | exact ih0 _ _ _ _ _ _
      | exact impl_AreasValid.mono _ _ _
      | exact LeO.none _
      | refine LeO.ite ?_ ?_
      | refine LeO.bind ?_ (fun _ => ?_)
set_option maxHeartbeats 8000000 in
set_option maxRecDepth 100000 in
theorem impl_StarsFit.calls (k : Nat) (A0 : Option Addr) (c0 : Nat) (l0 : List Int) (a1 : Int) (A2 : Option Addr) (c2 : Nat) (l2 : List Int) (r : Bool) (w : World) (hr0 : Kd.C (Kd.int .i64) w A0 l0.length l0) (hc0 : l0.length ≤ c0) (hr2 : Kd.C (Kd.int .i64) w A2 l2.length l2) (hc2 : l2.length ≤ c2) (h : impl_StarsFit.f k l0 a1 l2 = some r) :
    Calls Try.prog 12 #[.slice A0 l0.length c0, .int .i64 a1, .slice A2 l2.length c2] w fun e w' => e = .returned (.bool r) ∧ Below w.heap.size w w' := by
  have hu39 := Try.underlying39
  unfold impl_StarsFit.f at h
  obtain ⟨b, hb, h⟩ := Option.bind_eq_some_iff.mp h
  have HA := Aside0.mk hb
  have HR0 := Aside0.mk hr0
  have HR2 := Aside0.mk hr2
  have HB := Aside0.mk (Below.refl w.heap.size w)
  clear hb hr0 hr2
  cases b with
  | false =>
    have e0 : false = r := Option.some.inj h
    subst e0
    clear h
    go_enter Try.func12, Try.ntmps12
    go_wp2_with (first | ((with_reducible refine gate_callee (f := 27) rfl ?_); refine goesL_ (some 13) rfl rfl Try.func27 (by kernel_rfl) rfl #[.slice A0 l0.length c0, .int .i64 a1] rfl (by (try simp only [List.map_toArray, List.map_cons, List.map_nil]); first | done | rfl) ?_; (with_reducible refine (impl_AreasValid.calls k A0 c0 l0 a1 _ _ HR0.out hc0 HA.out).mono ?_); rintro e wb ⟨rfl, hd⟩; have n1_ := Aside0.mk (drawn_below hd); clear HB; have HB := n1_; clear n1_ hd; refine ⟨_, rfl, ?_⟩))
    go_ret
    exact ⟨rfl, HB.out⟩
  | true =>
    replace h : (if (l2.length : Int) > a1 then some false else (impl_StarsFit.l0 k l0 a1 l2 [false, false, false, false, false, false] [false, false, false, false, false, false] 0)) = some r := h
    by_cases c1 : (l2.length : Int) > a1
    · rw [if_pos c1] at h
      have e0 : false = r := Option.some.inj h
      subst e0
      clear h
      have b1 : decide (a1 < (l2.length : Int)) = true := decide_eq_true c1
      clear c1
      go_enter Try.func12, Try.ntmps12
      go_wp2_with (first | ((with_reducible refine gate_callee (f := 27) rfl ?_); refine goesL_ (some 13) rfl rfl Try.func27 (by kernel_rfl) rfl #[.slice A0 l0.length c0, .int .i64 a1] rfl (by (try simp only [List.map_toArray, List.map_cons, List.map_nil]); first | done | rfl) ?_; (with_reducible refine (impl_AreasValid.calls k A0 c0 l0 a1 _ _ HR0.out hc0 HA.out).mono ?_); rintro e wb ⟨rfl, hd⟩; have n1_ := Aside0.mk (drawn_below hd); clear HB; have HB := n1_; clear n1_ hd; refine ⟨_, rfl, ?_⟩))
      go_ret
      exact ⟨rfl, HB.out⟩
    · rw [if_neg c1] at h
      have b1 : decide (a1 < (l2.length : Int)) = false := decide_eq_false c1
      clear c1
      have H' := Aside0.mk h
      clear h
      go_enter Try.func12, Try.ntmps12
      go_wp2_with (first | ((with_reducible refine gate_callee (f := 27) rfl ?_); refine goesL_ (some 13) rfl rfl Try.func27 (by kernel_rfl) rfl #[.slice A0 l0.length c0, .int .i64 a1] rfl (by (try simp only [List.map_toArray, List.map_cons, List.map_nil]); first | done | rfl) ?_; (with_reducible refine (impl_AreasValid.calls k A0 c0 l0 a1 _ _ HR0.out hc0 HA.out).mono ?_); rintro e wb ⟨rfl, hd⟩; have n1_ := Aside0.mk (drawn_below hd); clear HB; have HB := n1_; clear n1_ hd; refine ⟨_, rfl, ?_⟩))
      have HK0 : Aside0 (([false, false, false, false, false, false] : List Bool).length = 6 ∧ ([false, false, false, false, false, false] : List Bool).length = 6) := ⟨rfl, rfl⟩
      have HC := Aside0.mk (blk_alloc (blk_new wb (Obj.cells #[Value.bool false, Value.bool false, Value.bool false, Value.bool false, Value.bool false, Value.bool false] 39)) (Obj.cells #[Value.bool false, Value.bool false, Value.bool false, Value.bool false, Value.bool false, Value.bool false] 39))
      have HU : Aside0 (((wb.alloc (Obj.cells #[Value.bool false, Value.bool false, Value.bool false, Value.bool false, Value.bool false, Value.bool false] 39)).alloc (Obj.cells #[Value.bool false, Value.bool false, Value.bool false, Value.bool false, Value.bool false, Value.bool false] 39)).heap[wb.heap.size + 1]? = some (Obj.cells #[Value.bool false, Value.bool false, Value.bool false, Value.bool false, Value.bool false, Value.bool false] 39 (0, 0))) := ⟨by
        have h1 := blk_new (wb.alloc (Obj.cells #[Value.bool false, Value.bool false, Value.bool false, Value.bool false, Value.bool false, Value.bool false] 39)) (Obj.cells #[Value.bool false, Value.bool false, Value.bool false, Value.bool false, Value.bool false, Value.bool false] 39)
        simpa using h1⟩
      have HZ := Aside0.mk (below_size HB.out)
      go_loopg [25] k (fun kq v25 w' => ∃ (c u : List Bool) (i : Int), v25 = .int .i64 i ∧ Aside0 (impl_StarsFit.l0 kq l0 a1 l2 c u i = some r) ∧ Aside0 (kq ≤ k) ∧ Aside0 (c.length = 6 ∧ u.length = 6) ∧ Aside0 (w'.heap[wb.heap.size]? = some (Obj.cells (c.map Value.bool).toArray 39 (0, 0))) ∧ Aside0 (w'.heap[wb.heap.size + 1]? = some (Obj.cells (u.map Value.bool).toArray 39 (0, 0))) ∧ Aside0 (Below w.heap.size w w'))
      case atStart => exact ⟨_, _, 0, rfl, H', ⟨Nat.le_refl _⟩, HK0, HC, HU, ⟨(HB.out.alloc HB.out.size _).alloc (by have := HB.out.size; simp; omega) _⟩⟩
      case round =>
        clear H' HC HU HB HK0
        obtain ⟨c, u, i, rfl, HA, HK, HL, HC, HU, HB⟩ := hrel
        cases gk with
        | zero => exact absurd HA.out (by simp [impl_StarsFit.l0])
        | succ k1 =>
          have H := HA.out
          clear HA
          rw [impl_StarsFit.l0] at H
          by_cases c5 : i < (l2.length : Int)
          · rw [if_pos c5] at H
            have q5 := eq_true c5
            have c5b0 : decide (i < (l2.length : Int)) = true := decide_eq_true c5
            by_cases c6 : 0 ≤ i
            · rw [if_pos c6] at H
              have p5 := eq_true c6
              have p5b : decide (0 ≤ i) = true := decide_eq_true c6
              obtain ⟨ad, ead, hx0⟩ := Kd.at_int (Kd.C_below HR2.out HB.out) i c6 c5
              cases ead
              obtain ⟨v, hv⟩ : ∃ v, rd l2 i = v := ⟨_, rfl⟩
              rw [hv] at H hx0
              have Hv := Aside0.mk hv
              clear hv
              by_cases n1 : v < 0
              · rw [if_pos n1] at H
                have e0 : false = r := Option.some.inj H
                subst e0
                have d1 : decide (v < 0) = true := decide_eq_true n1
                clear H n1 c5 c6
                go_wp2
                go_quiet (fail)
                go_wp2
                go_ret
                exact ⟨rfl, by repeat (first | (with_reducible first | exact HB.out | apply below_alloc | apply pw_below_drewN | apply below_drew1) | exact HB.out)⟩
              · rw [if_neg n1] at H
                have d1 : decide (v < 0) = false := decide_eq_false n1
                by_cases n2 : v ≥ a1
                · rw [if_pos n2] at H
                  have e0 : false = r := Option.some.inj H
                  subst e0
                  have d2 : decide (a1 ≤ v) = true := decide_eq_true n2
                  clear H n1 n2 c5 c6
                  go_wp2
                  go_quiet (fail)
                  go_wp2
                  go_ret
                  exact ⟨rfl, by repeat (first | (with_reducible first | exact HB.out | apply below_alloc | apply pw_below_drewN | apply below_drew1) | exact HB.out)⟩
                · rw [if_neg n2] at H
                  have d2 : decide (a1 ≤ v) = false := decide_eq_false n2
                  by_cases n3 : v < 6
                  · rw [if_pos n3] at H
                    have p7 : (0 ≤ v) = True := eq_true (by omega)
                    have q7 : (v < 6) = True := eq_true n3
                    have hxc := bool_cell HC.out v (by omega) (by have := HL.out.1; omega)
                    by_cases n4 : rdOf false c v = true
                    · rw [if_pos n4] at H
                      have e0 : false = r := Option.some.inj H
                      subst e0
                      rw [n4] at hxc
                      clear H n1 n2 n3 n4 c5 c6
                      go_wp2
                      go_quiet (fail)
                      go_wp2
                      go_ret
                      exact ⟨rfl, by repeat (first | (with_reducible first | exact HB.out | apply below_alloc | apply pw_below_drewN | apply below_drew1) | exact HB.out)⟩
                    · rw [if_neg n4] at H
                      replace n4 := Bool.eq_false_iff.mpr n4
                      rw [n4] at hxc
                      obtain ⟨m, hm⟩ : ∃ m, wrap64 (i * a1) = m := ⟨_, rfl⟩
                      obtain ⟨j, hj⟩ : ∃ j, wrap64 (m + v) = j := ⟨_, rfl⟩
                      rw [hm, hj] at H
                      have hm' : IntKind.i64.wrap (i * a1) = m := by rw [i64_w]; exact hm
                      have hj' : IntKind.i64.wrap (m + v) = j := by rw [i64_w]; exact hj
                      by_cases n5 : 0 ≤ j
                      · rw [if_pos n5] at H
                        by_cases n6 : j < (l0.length : Int)
                        · rw [if_pos n6] at H
                          have p8 := eq_true n5
                          have q8 := eq_true n6
                          obtain ⟨ad0, ead0, hx1⟩ := Kd.at_int HR0.out j n5 n6
                          cases ead0
                          have hxs : ∀ n, ((wr.drewN n).setCell ⟨wb.heap.size, v.toNat, none⟩ (.bool true)).cell? (ad0.add j.toNat) = some (.int .i64 (rd l0 j)) := fun n => (((pw_below_drewN HB.out n).setCell HZ.out _).cell (World.block_lt_of_cell? w _ hx1)).trans hx1
                          replace hx1 := (HB.out.cell (World.block_lt_of_cell? w _ hx1)).trans hx1
                          obtain ⟨a, ha⟩ : ∃ a, rd l0 j = a := ⟨_, rfl⟩
                          rw [ha] at H hx1
                          simp only [ha] at hxs
                          have Ha := Aside0.mk ha
                          clear ha
                          by_cases n7 : 0 ≤ a
                          · rw [if_pos n7] at H
                            by_cases n8 : a < 6
                            · rw [if_pos n8] at H
                              have p9 := eq_true n7
                              have q9 := eq_true n8
                              have hxu := bool_cell HU.out a n7 (by have := HL.out.2; omega)
                              by_cases n9 : rdOf false u a = true
                              · rw [if_pos n9] at H
                                have e0 : false = r := Option.some.inj H
                                subst e0
                                rw [n9] at hxu
                                clear H n1 n2 n3 n4 n5 n6 n7 n8 n9 c5 c6
                                go_wp2
                                go_quiet (fail)
                                go_wp2
                                go_ret
                                exact ⟨rfl, by repeat (first | (with_reducible first | exact HB.out | apply below_alloc | apply pw_below_drewN | apply below_drew1) | exact HB.out)⟩
                              · rw [if_neg n9] at H
                                replace n9 := Bool.eq_false_iff.mpr n9
                                rw [n9] at hxu
                                have hfc : wr.frozen? ⟨wb.heap.size, v.toNat, none⟩ = false := blk_frozen HC.out _
                                have hfu : wr.frozen? ⟨wb.heap.size + 1, a.toNat, none⟩ = false := blk_frozen HU.out _
                                by_cases n10 : i > 0
                                · rw [if_pos n10] at H
                                  have d10 : decide (0 < i) = true := decide_eq_true n10
                                  have hi1 : wrap64 (i - 1) = i - 1 := by have := HR2.out.2.1; unfold wrap64; omega
                                  have hi1' : IntKind.i64.wrap (i - 1) = i - 1 := by rw [i64_w]; exact hi1
                                  rw [hi1] at H
                                  obtain ⟨i1, hi2⟩ : ∃ i1, i - 1 = i1 := ⟨_, rfl⟩
                                  have g1 : 0 ≤ i1 := by omega
                                  have g2 : i1 < (l2.length : Int) := by omega
                                  rw [hi2] at H hi1'
                                  have p11 := eq_true g1
                                  have q11 := eq_true g2
                                  obtain ⟨ad', ead', hx3⟩ := Kd.at_int (Kd.C_below HR2.out HB.out) i1 g1 g2
                                  obtain rfl : ad = ad' := (by injection ead')
                                  obtain ⟨v1, hv1⟩ : ∃ v, rd l2 i1 = v := ⟨_, rfl⟩
                                  rw [hv1] at H hx3
                                  obtain ⟨s1, hs1⟩ : ∃ s, wrap64 (v - v1) = s := ⟨_, rfl⟩
                                  obtain ⟨s2, hs2⟩ : ∃ s, wrap64 (v1 - v) = s := ⟨_, rfl⟩
                                  rw [hs1, hs2] at H
                                  have hs1' : IntKind.i64.wrap (v - v1) = s1 := by rw [i64_w]; exact hs1
                                  have hs2' : IntKind.i64.wrap (v1 - v) = s2 := by rw [i64_w]; exact hs2
                                  have Hv1 := Aside0.mk hv1
                                  clear hv1 hi1 ead'
                                  obtain ⟨s3, hs3⟩ : ∃ s, mx s1 s2 = s := ⟨_, rfl⟩
                                  rw [hs3] at H
                                  by_cases n12 : s1 < s2
                                  · have e3 : s3 = s2 := by rw [← hs3]; unfold mx; rw [if_pos n12]
                                    rw [e3] at H
                                    have z1 : (s2 ≤ s1) = False := eq_false (by omega)
                                    have z2 : (s1 < s2) = True := eq_true n12
                                    have z3 : decide (s1 < s2) = true := decide_eq_true n12
                                    clear hs3 e3
                                    by_cases n11 : s2 < 2
                                    · rw [if_pos n11] at H
                                      have e0 : false = r := Option.some.inj H
                                      subst e0
                                      have d11 : decide (s2 < 2) = true := decide_eq_true n11
                                      have d12 := eq_true n11
                                      clear H n1 n2 n3 n4 n5 n6 n7 n8 n9 n10 n11 n12 c5 c6 g1 g2
                                      go_wp2
                                      go_quiet (fail)
                                      go_wp2
                                      go_ret
                                      exact ⟨rfl, by repeat (first | (with_reducible first | exact HB.out | apply below_alloc | apply pw_below_drewN | apply below_drew1) | exact HB.out)⟩
                                    · rw [if_neg n11] at H
                                      have d11 : decide (s2 < 2) = false := decide_eq_false n11
                                      have d12 := eq_false n11
                                      have H' := Aside0.mk H
                                      clear H n1 n2 n3 n4 n5 n6 n7 n8 n9 n10 n11 n12 c5 c6 g1 g2
                                      go_wp2
                                      go_quiet (fail)
                                      go_wp2
                                      all_goals (go_region)
                                      go_wp2
                                      go_roundg k1
                                      case measure => have := HK.out; omega
                                      case rel => exact ⟨c.set v.toNat true, u.set a.toNat true, wrap64 (i + 1), by first | rfl | (simp; done) | (simp [*]; done), H', ⟨by have := HK.out; omega⟩, ⟨by rw [List.length_set, List.length_set]; exact HL.out⟩, ⟨by (with_reducible repeat (first | refine blk_drewN ?_ _ | refine blk_drew ?_)); refine blk_far ?_ (by simp) _; (with_reducible repeat (first | refine blk_drewN ?_ _ | refine blk_drew ?_)); exact bool_put (by (with_reducible repeat (first | refine blk_drewN ?_ _ | refine blk_drew ?_)); exact HC.out) v true⟩, ⟨by (with_reducible repeat (first | refine blk_drewN ?_ _ | refine blk_drew ?_)); refine bool_put ?_ a true; (with_reducible repeat (first | refine blk_drewN ?_ _ | refine blk_drew ?_)); exact blk_far (by (with_reducible repeat (first | refine blk_drewN ?_ _ | refine blk_drew ?_)); exact HU.out) (by simp) _⟩, ⟨by repeat (first | (with_reducible first | exact HB.out | apply below_alloc | apply pw_below_drewN | apply below_drew1 | refine below_set ?_ HZ.out | refine below_set ?_ (Nat.le_succ_of_le HZ.out)) | exact HB.out)⟩⟩
                                  · have e3 : s3 = s1 := by rw [← hs3]; unfold mx; rw [if_neg n12]
                                    rw [e3] at H
                                    have z1 : (s2 ≤ s1) = True := eq_true (by omega)
                                    have z2 : (s1 < s2) = False := eq_false n12
                                    have z3 : decide (s1 < s2) = false := decide_eq_false n12
                                    clear hs3 e3
                                    by_cases n11 : s1 < 2
                                    · rw [if_pos n11] at H
                                      have e0 : false = r := Option.some.inj H
                                      subst e0
                                      have d11 : decide (s1 < 2) = true := decide_eq_true n11
                                      have d12 := eq_true n11
                                      clear H n1 n2 n3 n4 n5 n6 n7 n8 n9 n10 n11 n12 c5 c6 g1 g2
                                      go_wp2
                                      go_quiet (fail)
                                      go_wp2
                                      go_ret
                                      exact ⟨rfl, by repeat (first | (with_reducible first | exact HB.out | apply below_alloc | apply pw_below_drewN | apply below_drew1) | exact HB.out)⟩
                                    · rw [if_neg n11] at H
                                      have d11 : decide (s1 < 2) = false := decide_eq_false n11
                                      have d12 := eq_false n11
                                      have H' := Aside0.mk H
                                      clear H n1 n2 n3 n4 n5 n6 n7 n8 n9 n10 n11 n12 c5 c6 g1 g2
                                      go_wp2
                                      go_quiet (fail)
                                      go_wp2
                                      all_goals (go_region)
                                      go_wp2
                                      go_roundg k1
                                      case measure => have := HK.out; omega
                                      case rel => exact ⟨c.set v.toNat true, u.set a.toNat true, wrap64 (i + 1), by first | rfl | (simp; done) | (simp [*]; done), H', ⟨by have := HK.out; omega⟩, ⟨by rw [List.length_set, List.length_set]; exact HL.out⟩, ⟨by (with_reducible repeat (first | refine blk_drewN ?_ _ | refine blk_drew ?_)); refine blk_far ?_ (by simp) _; (with_reducible repeat (first | refine blk_drewN ?_ _ | refine blk_drew ?_)); exact bool_put (by (with_reducible repeat (first | refine blk_drewN ?_ _ | refine blk_drew ?_)); exact HC.out) v true⟩, ⟨by (with_reducible repeat (first | refine blk_drewN ?_ _ | refine blk_drew ?_)); refine bool_put ?_ a true; (with_reducible repeat (first | refine blk_drewN ?_ _ | refine blk_drew ?_)); exact blk_far (by (with_reducible repeat (first | refine blk_drewN ?_ _ | refine blk_drew ?_)); exact HU.out) (by simp) _⟩, ⟨by repeat (first | (with_reducible first | exact HB.out | apply below_alloc | apply pw_below_drewN | apply below_drew1 | refine below_set ?_ HZ.out | refine below_set ?_ (Nat.le_succ_of_le HZ.out)) | exact HB.out)⟩⟩
                                · rw [if_neg n10] at H
                                  have d10 : decide (0 < i) = false := decide_eq_false n10
                                  have H' := Aside0.mk H
                                  clear H n1 n2 n3 n4 n5 n6 n7 n8 n9 n10 c5 c6
                                  go_wp2
                                  go_quiet (fail)
                                  go_wp2
                                  all_goals (go_region)
                                  go_wp2
                                  go_roundg k1
                                  case measure => have := HK.out; omega
                                  case rel => exact ⟨c.set v.toNat true, u.set a.toNat true, wrap64 (i + 1), by first | rfl | (simp; done) | (simp [*]; done), H', ⟨by have := HK.out; omega⟩, ⟨by rw [List.length_set, List.length_set]; exact HL.out⟩, ⟨by (with_reducible repeat (first | refine blk_drewN ?_ _ | refine blk_drew ?_)); refine blk_far ?_ (by simp) _; (with_reducible repeat (first | refine blk_drewN ?_ _ | refine blk_drew ?_)); exact bool_put (by (with_reducible repeat (first | refine blk_drewN ?_ _ | refine blk_drew ?_)); exact HC.out) v true⟩, ⟨by (with_reducible repeat (first | refine blk_drewN ?_ _ | refine blk_drew ?_)); refine bool_put ?_ a true; (with_reducible repeat (first | refine blk_drewN ?_ _ | refine blk_drew ?_)); exact blk_far (by (with_reducible repeat (first | refine blk_drewN ?_ _ | refine blk_drew ?_)); exact HU.out) (by simp) _⟩, ⟨by repeat (first | (with_reducible first | exact HB.out | apply below_alloc | apply pw_below_drewN | apply below_drew1 | refine below_set ?_ HZ.out | refine below_set ?_ (Nat.le_succ_of_le HZ.out)) | exact HB.out)⟩⟩
                            · rw [if_neg n8] at H
                              exact absurd H (by simp)
                          · rw [if_neg n7] at H
                            exact absurd H (by simp)
                        · rw [if_neg n6] at H
                          exact absurd H (by simp)
                      · rw [if_neg n5] at H
                        exact absurd H (by simp)
                  · rw [if_neg n3] at H
                    exact absurd H (by simp)
            · rw [if_neg c6] at H
              exact absurd H (by simp)
          · rw [if_neg c5] at H
            have c5b0 : decide (i < (l2.length : Int)) = false := decide_eq_false c5
            have e0 : true = r := Option.some.inj H
            subst e0
            clear H c5
            go_wp2_with fail
            go_ret
            exact ⟨rfl, HB.out⟩

-- NOT PRINTED: function 34 (spec_l15Search)

/-! ### spec_l15All: function 28 -/
--@import Derived.Test.YtcghheaelgjnfaaV0
open Go.Proofs.Ytcghheaelgjnfaa.My
mutual
def spec_l15Search.f : Nat → List Int → Int → List Int → List (List Int) → Option (List (List Int))
  | 0, _, _, _, _ => none
  | k + 1, x0, x1, x2, x3 => if (x2.length : Int) = x1 then (if x3.length < 4398046511104 then (some (x3 ++ [x2])) else none) else (spec_l15Search.l0 k x0 x1 x2 x3 0)
def spec_l15Search.l0 : Nat → List Int → Int → List Int → List (List Int) → Int → Option (List (List Int))
  | 0, _, _, _, _, _ => none
  | k + 1, x0, x1, x2, x3, x8 => if x8 < x1 then (if x2.length < 4398046511104 then ((spec_StarsFit.f k x0 x1 (x2 ++ [x8])).bind fun b => (if b = true then ((spec_l15Search.f k x0 x1 (x2 ++ [x8]) x3).bind fun z => (spec_l15Search.l0 k x0 x1 x2 z (wrap64 (x8 + 1)))) else (spec_l15Search.l0 k x0 x1 x2 x3 (wrap64 (x8 + 1))))) else none) else (some x3)
end
theorem spec_l15Search.mono_l : ∀ k, (∀ y0 y1 y2 y3, LeO (spec_l15Search.f k y0 y1 y2 y3) (spec_l15Search.f (k + 1) y0 y1 y2 y3)) ∧ (∀ y0 y1 y2 y3 y4, LeO (spec_l15Search.l0 k y0 y1 y2 y3 y4) (spec_l15Search.l0 (k + 1) y0 y1 y2 y3 y4))
  | 0 => ⟨fun _ _ _ _ r h => by simp [spec_l15Search.f] at h, fun _ _ _ _ _ r h => by simp [spec_l15Search.l0] at h⟩
  | k + 1 => by
    obtain ⟨ih0, ih1⟩ := spec_l15Search.mono_l k
    refine ⟨?_, ?_⟩
    · intro y0 y1 y2 y3
      unfold spec_l15Search.f
      repeat' first
      | (with_reducible exact ih0 _ _ _ _)
      | (with_reducible exact ih1 _ _ _ _ _)
      | (with_reducible exact spec_StarsFit.mono _ _ _ _)
      | (with_reducible exact LeO.refl _)
      | (with_reducible exact LeO.none _)
      | (with_reducible refine LeO.ite ?_ ?_)
      | (with_reducible refine LeO.bind ?_ (fun _ => ?_))
      | exact ih0 _ _ _ _
      | exact ih1 _ _ _ _ _
      | exact spec_StarsFit.mono _ _ _ _
      | exact LeO.none _
      | refine LeO.ite ?_ ?_
      | refine LeO.bind ?_ (fun _ => ?_)
    · intro y0 y1 y2 y3 y4
      unfold spec_l15Search.l0
      repeat' first
      | (with_reducible exact ih0 _ _ _ _)
      | (with_reducible exact ih1 _ _ _ _ _)
      | (with_reducible exact spec_StarsFit.mono _ _ _ _)
      | (with_reducible exact LeO.refl _)
      | (with_reducible exact LeO.none _)
      | (with_reducible refine LeO.ite ?_ ?_)
      | (with_reducible refine LeO.bind ?_ (fun _ => ?_))
      | exact ih0 _ _ _ _
      | exact ih1 _ _ _ _ _
      | exact spec_StarsFit.mono _ _ _ _
      | exact LeO.none _
      | refine LeO.ite ?_ ?_
      | refine LeO.bind ?_ (fun _ => ?_)
theorem spec_l15Search.mono : ∀ a0 a1 a2 a3 k, LeO (spec_l15Search.f k a0 a1 a2 a3) (spec_l15Search.f (k + 1) a0 a1 a2 a3) := by
  intro a0 a1 a2 a3 k
  obtain ⟨ih0, ih1⟩ := spec_l15Search.mono_l k
  exact ih0 a0 a1 a2 a3
/-- What a call of l15Search leaves. -/
def SearchPost (W0 : World) (g : Nat) (w : World) (r : List (List Int)) (e : Ending) (w' : World) : Prop :=
  e = .returned (.tuple #[]) ∧ Below W0.heap.size W0 w' ∧ Var (Kd.slice 3 (Kd.int .i64)) 22 40 g W0.heap.size w' r ∧ Keep [3] w w'
set_option maxHeartbeats 8000000 in
set_option maxRecDepth 100000 in
theorem spec_l15Search.calls (W0 : World) (g : Nat) (hg0 : W0.heap.size ≤ g) (A0 : Option Addr) (c0 : Nat) (l0 : List Int) (a1 : Int) (hr0 : Kd.C (Kd.int .i64) W0 A0 l0.length l0) (hc0 : l0.length ≤ c0) (k : Nat) : ∀ (A2 : Option Addr) (c2 : Nat) (l2 : List Int) (l3 r : List (List Int)) (w : World) (hb : Below W0.heap.size W0 w)
    (hr2 : Kd.R (Kd.int .i64) 3 w W0.heap.size (fun _ => True) (.slice A2 l2.length c2) l2) (hv : Var (Kd.slice 3 (Kd.int .i64)) 22 40 g W0.heap.size w l3) (h : spec_l15Search.f k l0 a1 l2 l3 = some r),
    Calls Try.prog 34 #[.slice A0 l0.length c0, .int .i64 a1, .slice A2 l2.length c2, .pointer (some ⟨g, 0, none⟩)] w (SearchPost W0 g w r) := by
  induction k using Nat.strongRecOn with
  | _ k ih =>
  cases k with
  | zero => intro A2 c2 l2 l3 r w hb hr2 hv h; exact absurd h (by simp [spec_l15Search.f])
  | succ k =>
    intro A2 c2 l2 l3 r w hb hr2 hv h
    simp only [spec_l15Search.f] at h
    have HB := Aside0.mk hb
    have HR := Aside0.mk hr2
    have hi22 : (Try.prog.info? 22).map (fun i => (i.zero, i.size, i.bytes)) = some (some (.slice none 0 0), 1, 24) := by kernel_rfl
    by_cases c1 : (l2.length : Int) = a1
    · rw [if_pos c1] at h
      by_cases c2' : l3.length < 4398046511104
      · rw [if_pos c2'] at h
        have LM := Aside0.mk c2'
        obtain rfl := Option.some.inj h
        have b1 : ((l2.length : Int) == a1) = true := beq_iff_eq.mpr c1
        obtain ⟨v, hg, hr⟩ := hv
        obtain ⟨Ad, cd, ev⟩ := Kd.R_slice hr
        subst ev
        have hcell : w.cell? ⟨g, 0, none⟩ = some (.slice Ad l3.length cd) := blk_cell hg 0
        have hfz : w.frozen? ⟨g, 0, none⟩ = false := blk_frozen hg 0
        have HG := Aside0.mk hg
        have HV := Aside0.mk hr
        clear hb hr2 hg hr h c1 c2'
        have HIH := Aside0.mk ih
        clear ih
        go_enter Try.func34, Try.ntmps34
        go_wp2_with ((with_reducible refine gate_builtin (b := .append) (xs := #[.tmp 17, .tmp 19]) rfl ?_); at_builtin; refine Kd.R_append (Kd.slice 3 (Kd.int .i64)) (w0 := W0) W0.heap.size rfl (.tmp 17) (.tmp 19) 40 22 (.slice none 0 0) 24 rfl Try.underlying40 hi22 rfl (by decide) (by omega) (.slice Ad l3.length cd) l3 l2 [.slice A2 l2.length c2] (fun _ => True) (fun k => True ∧ some k ≠ (Value.slice Ad l3.length cd).ownBlock) rfl rfl ?aP (fun _ hk => hk) ?aF ?aO ?aB ?aS ?aL ?_; (case aP => exact ⟨_, rfl, R_apart HR.out HV.out (by simp [Kd.int, Kd.scalar])⟩); (case aF => exact fun _ _ => trivial); (case aO => exact HV.out); (case aB => exact HB.out); (case aS => exact HB.out.size); (case aL => have := LM.out; omega); intro v1 w1 ho hb hgr hat; obtain ⟨Ad1, cd1, ev1⟩ := Kd.R_slice ho; subst ev1; have HO := Aside0.mk ho; have HB1 := Aside0.mk hb; have HG1 := Aside0.mk hgr; have hg1 := blk_grown HG.out hgr (Kd.R_ne HV.out HG.out (by decide)); have HGG := Aside0.mk hg1; have hfz1 := blk_frozen hg1 0; have hcell1 := blk_cell hg1 0; clear hg1 ho hb hgr hat)
        go_end0
        refine ⟨rfl, ?_, ⟨_, blk_put HGG.out 0 _ rfl, ?_⟩, ?_⟩
        · exact HB1.out.setCell hg0 _
        · have h1 := Kd.R_set HO.out HGG.out (by simp [Kd.int, Kd.scalar, Kd.slice]) 0 (.slice Ad1 (l3.length + 1) cd1)
          rw [List.length_append, List.length_singleton] at h1
          exact h1
        · exact ((Keep.refl [3] w).grown HV.out (by decide) HG1.out).set HGG.out (by decide) 0 _
      · rw [if_neg c2'] at h
        exact absurd h (by simp)
    · rw [if_neg c1] at h
      have b1 : ((l2.length : Int) == a1) = false := beq_eq_false_iff_ne.mpr c1
      have HH := Aside0.mk h
      have HV := Aside0.mk hv
      have HIH := Aside0.mk ih
      clear hb hr2 hv h c1 ih
      go_enter Try.func34, Try.ntmps34
      go_wp2_with fail
      go_loopg [8] k (fun kq v8 w' => ∃ (z : List (List Int)) (i : Int), v8 = .int .i64 i ∧ Aside0 (spec_l15Search.l0 kq l0 a1 l2 z i = some r) ∧ Aside0 (kq ≤ k) ∧ Aside0 (Below W0.heap.size W0 w') ∧ Aside0 (Var (Kd.slice 3 (Kd.int .i64)) 22 40 g W0.heap.size w' z) ∧ Aside0 (Keep [3] w w'))
      case atStart => exact ⟨l3, 0, rfl, HH, ⟨Nat.le_refl _⟩, HB, HV, ⟨Keep.refl _ _⟩⟩
      case round =>
        clear HH HB HV
        obtain ⟨z, i, rfl, HA, HK, HB, HV, HKp⟩ := hrel
        cases gk with
        | zero => exact absurd HA.out (by simp [spec_l15Search.l0])
        | succ k1 =>
          have H := HA.out
          clear HA
          simp only [spec_l15Search.l0] at H
          by_cases c5 : i < a1
          · rw [if_pos c5] at H
            have c5b0 : decide (i < a1) = true := decide_eq_true c5
            clear c5
            by_cases c6 : l2.length < 4398046511104
            · rw [if_pos c6] at H
              have LM := Aside0.mk c6
              clear c6
              obtain ⟨b, Hb, H⟩ := Option.bind_eq_some_iff.mp H
              have HR1 := Aside0.mk (HKp.out.R (by simp [Kd.int, Kd.scalar]) HR.out)
              obtain ⟨y, hy⟩ : ∃ y_ : List Int, y_ = l2 ++ [i] := ⟨_, rfl⟩
              rw [← hy] at Hb H
              have Ny := Aside0.mk hy
              have HS := Aside0.mk Hb
              have HB0 := Aside0.mk (Below.refl wr.heap.size wr)
              have hi3 : (Try.prog.info? 3).map (fun i => (i.zero, i.size, i.bytes)) = some (some (.int .i64 0), 1, 8) := by kernel_rfl
              clear Hb hy
              cases b with
              | false =>
                replace H : spec_l15Search.l0 k1 l0 a1 l2 z (wrap64 (i + 1)) = some r := H
                have HH := Aside0.mk H
                clear H
                go_wp2_with (first | ((with_reducible refine gate_dst (N := 27) rfl ?_); refine Kd.R_lit (Kd.int .i64) (w0 := wr) wr.heap.size 3 ?hg (N := 27) ?hd (xs := ([] : List Int)) (inner := []) (ok := fun _ => True) (okp := fun _ => True) ?hr ?hp (fun _ hk => hk) trivial HB0.out (Nat.le_refl _) (by simp) ?_; (case hd => rfl); (case hg => rfl); (case hr => first | (go_simp; done) | (go_simp; rfl)); (case hp => exact Reps.none _ _); intro v27 w1 ho hb hg_ hnew_; have HO27 := Aside0.mk ho; have n1_ := Aside0.mk hb; clear HB0; have HB0 := n1_; clear n1_ ho hb hg_ hnew_) | ((with_reducible refine gate_builtin (b := .append) (xs := #[.tmp 27, .tmp 28]) rfl ?_); at_builtin; refine Kd.R_append_rows (Kd.int .i64) (w0 := wr) wr.heap.size rfl (.tmp 27) (.tmp 28) 22 3 (.int .i64 0) 8 rfl Try.underlying22 hi3 rfl (by decide) (by omega) v27 [] l2 _ _ _ (fun _ => True) (fun _ => False) rfl rfl ?aO ?aR (fun _ _ h => h) (fun _ h => h.elim) ?aF ?aB ?aS ?aL ?_; (case aR => exact Kd.C_below (Kd.R_reads' HR1.out).2.2 HB0.out); (case aB => exact HB0.out); (case aF => exact fun _ _ => trivial); (case aO => exact HO27.out); (case aS => exact HB0.out.size); (case aL => have := LM.out; simp; omega); intro v29 w2 ho hb hg hat; rw [List.nil_append] at ho; have HO29 := Aside0.mk ho; have n1_ := Aside0.mk hb; clear HB0; have HB0 := n1_; clear n1_ ho hb hg hat) | ((with_reducible refine gate_builtin (b := .append) (xs := #[.tmp 29, .tmp 31]) rfl ?_); at_builtin; refine Kd.R_append (Kd.int .i64) (w0 := wr) wr.heap.size rfl (.tmp 29) (.tmp 31) 22 3 (.int .i64 0) 8 rfl Try.underlying22 hi3 rfl (by decide) (by omega) v29 l2 i [.int .i64 i] (fun _ => True) (fun _ => False) rfl rfl ?aP (fun _ hk => hk.elim) ?aF ?aO ?aB ?aS ?aL ?_; (case aP => exact rfl); (case aB => exact HB0.out); (case aF => exact fun _ _ => trivial); (case aO => exact HO29.out); (case aS => exact HB0.out.size); (case aL => have := LM.out; omega); intro v32 w3 ho hb hg hat; rw [← Ny.out] at ho; obtain ⟨An, cn, en⟩ := Kd.R_slice ho; subst en; have HO32 := Aside0.mk ho; have n1_ := Aside0.mk hb; clear HB0; have HB0 := n1_; clear n1_ ho hb hg hat) | ((with_reducible refine gate_callee (f := 10) rfl ?_); refine goesL_ (some 36) rfl rfl Try.func10 (by kernel_rfl) rfl #[.slice A0 l0.length c0, .int .i64 a1, .slice An y.length cn] rfl (by (try simp only [List.map_toArray, List.map_cons, List.map_nil]); first | done | rfl) ?_; (with_reducible refine (spec_StarsFit.calls k1 A0 c0 l0 a1 An cn y _ _ (Kd.C_below hr0 (below_step HB.out HB0.out)) hc0 (Kd.R_reads' HO32.out).2.2 (Kd.R_reads' HO32.out).2.1 HS.out).mono ?_); rintro e wb ⟨rfl, hd⟩; have n1_ := Aside0.mk (below_step HB0.out hd); have n2_ := Aside0.mk (Kd.R_below HO32.out hd); clear HB0 HO32; have HB0 := n1_; have HO32 := n2_; clear n1_ n2_ hd; refine ⟨_, rfl, ?_⟩))
                go_roundg k1
                case measure => have := HK.out; omega
                case rel => exact ⟨z, wrap64 (i + 1), rfl, HH, ⟨by have := HK.out; omega⟩, ⟨below_step HB.out HB0.out⟩, ⟨HV.out.below HB0.out⟩, ⟨HKp.out.of_below HB0.out⟩⟩
              | true =>
                obtain ⟨z2, Hz, H⟩ := Option.bind_eq_some_iff.mp H
                have HZ := Aside0.mk Hz
                have HH := Aside0.mk H
                clear H Hz
                go_wp2_with (first | ((with_reducible refine gate_dst (N := 27) rfl ?_); refine Kd.R_lit (Kd.int .i64) (w0 := wr) wr.heap.size 3 ?hg (N := 27) ?hd (xs := ([] : List Int)) (inner := []) (ok := fun _ => True) (okp := fun _ => True) ?hr ?hp (fun _ hk => hk) trivial HB0.out (Nat.le_refl _) (by simp) ?_; (case hd => rfl); (case hg => rfl); (case hr => first | (go_simp; done) | (go_simp; rfl)); (case hp => exact Reps.none _ _); intro v27 w1 ho hb hg_ hnew_; have HO27 := Aside0.mk ho; have n1_ := Aside0.mk hb; clear HB0; have HB0 := n1_; clear n1_ ho hb hg_ hnew_) | ((with_reducible refine gate_builtin (b := .append) (xs := #[.tmp 27, .tmp 28]) rfl ?_); at_builtin; refine Kd.R_append_rows (Kd.int .i64) (w0 := wr) wr.heap.size rfl (.tmp 27) (.tmp 28) 22 3 (.int .i64 0) 8 rfl Try.underlying22 hi3 rfl (by decide) (by omega) v27 [] l2 _ _ _ (fun _ => True) (fun _ => False) rfl rfl ?aO ?aR (fun _ _ h => h) (fun _ h => h.elim) ?aF ?aB ?aS ?aL ?_; (case aR => exact Kd.C_below (Kd.R_reads' HR1.out).2.2 HB0.out); (case aB => exact HB0.out); (case aF => exact fun _ _ => trivial); (case aO => exact HO27.out); (case aS => exact HB0.out.size); (case aL => have := LM.out; simp; omega); intro v29 w2 ho hb hg hat; rw [List.nil_append] at ho; have HO29 := Aside0.mk ho; have n1_ := Aside0.mk hb; clear HB0; have HB0 := n1_; clear n1_ ho hb hg hat) | ((with_reducible refine gate_builtin (b := .append) (xs := #[.tmp 29, .tmp 31]) rfl ?_); at_builtin; refine Kd.R_append (Kd.int .i64) (w0 := wr) wr.heap.size rfl (.tmp 29) (.tmp 31) 22 3 (.int .i64 0) 8 rfl Try.underlying22 hi3 rfl (by decide) (by omega) v29 l2 i [.int .i64 i] (fun _ => True) (fun _ => False) rfl rfl ?aP (fun _ hk => hk.elim) ?aF ?aO ?aB ?aS ?aL ?_; (case aP => exact rfl); (case aB => exact HB0.out); (case aF => exact fun _ _ => trivial); (case aO => exact HO29.out); (case aS => exact HB0.out.size); (case aL => have := LM.out; omega); intro v32 w3 ho hb hg hat; rw [← Ny.out] at ho; obtain ⟨An, cn, en⟩ := Kd.R_slice ho; subst en; have HO32 := Aside0.mk ho; have n1_ := Aside0.mk hb; clear HB0; have HB0 := n1_; clear n1_ ho hb hg hat) | ((with_reducible refine gate_callee (f := 10) rfl ?_); refine goesL_ (some 36) rfl rfl Try.func10 (by kernel_rfl) rfl #[.slice A0 l0.length c0, .int .i64 a1, .slice An y.length cn] rfl (by (try simp only [List.map_toArray, List.map_cons, List.map_nil]); first | done | rfl) ?_; (with_reducible refine (spec_StarsFit.calls k1 A0 c0 l0 a1 An cn y _ _ (Kd.C_below hr0 (below_step HB.out HB0.out)) hc0 (Kd.R_reads' HO32.out).2.2 (Kd.R_reads' HO32.out).2.1 HS.out).mono ?_); rintro e wb ⟨rfl, hd⟩; have n1_ := Aside0.mk (below_step HB0.out hd); have n2_ := Aside0.mk (Kd.R_below HO32.out hd); clear HB0 HO32; have HB0 := n1_; have HO32 := n2_; clear n1_ n2_ hd; refine ⟨_, rfl, ?_⟩) | ((with_reducible refine gate_callee (f := 34) rfl ?_); refine goesL_ (some 41) rfl rfl Try.func34 (by kernel_rfl) rfl #[.slice A0 l0.length c0, .int .i64 a1, .slice An y.length cn, .pointer (some ⟨g, 0, none⟩)] rfl (by (try simp only [List.map_toArray, List.map_cons, List.map_nil]); first | done | rfl) ?_; (with_reducible refine (HIH.out k1 (by have := HK.out; omega) An cn y z z2 _ (below_step HB.out HB0.out) (Kd.R_lower HO32.out HB.out.size) (HV.out.below HB0.out) HZ.out).mono ?_); rintro e wb ⟨rfl, hd1, hd2, hd3⟩; have HB2 := Aside0.mk hd1; have HV2 := Aside0.mk hd2; have HKp2 := Aside0.mk ((HKp.out.of_below HB0.out).trans hd3); clear hd1 hd2 hd3; refine ⟨_, rfl, ?_⟩))
                go_roundg k1
                case measure => have := HK.out; omega
                case rel => exact ⟨z2, wrap64 (i + 1), rfl, HH, ⟨by have := HK.out; omega⟩, ⟨HB2.out⟩, ⟨HV2.out⟩, ⟨HKp2.out⟩⟩
            · rw [if_neg c6] at H
              exact absurd H (by simp)
          · rw [if_neg c5] at H
            have c5b0 : decide (i < a1) = false := decide_eq_false c5
            clear c5
            obtain rfl := Option.some.inj H
            go_wp2_with fail
            go_end0
            exact ⟨rfl, HB.out, HV.out, HKp.out⟩
def spec_l15All.f (k : Nat) (l0 : List Int) (a1 : Int) : Option (List (List Int)) := (spec_AreasValid.f k l0 a1).bind fun b => (if b = true then (spec_l15Search.f k l0 a1 [] []) else some [])
theorem spec_l15All.mono : ∀ a0 a1 k, LeO (spec_l15All.f k a0 a1) (spec_l15All.f (k + 1) a0 a1) := by
  intro a0 a1 k
  unfold spec_l15All.f
  repeat' first
      | (with_reducible exact spec_AreasValid.mono _ _ _)
      | (with_reducible exact spec_l15Search.mono _ _ _ _ _)
      | (with_reducible exact LeO.refl _)
      | (with_reducible exact LeO.none _)
      | (with_reducible refine LeO.ite ?_ ?_)
      | (with_reducible refine LeO.bind ?_ (fun _ => ?_))
      | exact spec_AreasValid.mono _ _ _
      | exact spec_l15Search.mono _ _ _ _ _
      | exact LeO.none _
      | refine LeO.ite ?_ ?_
      | refine LeO.bind ?_ (fun _ => ?_)
set_option maxHeartbeats 8000000 in
set_option maxRecDepth 100000 in
theorem spec_l15All.calls (k : Nat) (A0 : Option Addr) (c0 : Nat) (l0 : List Int) (a1 : Int) (r : List (List Int)) (w : World) (hr0 : Kd.C (Kd.int .i64) w A0 l0.length l0) (hc0 : l0.length ≤ c0) (h : spec_l15All.f k l0 a1 = some r) :
    Calls Try.prog 28 #[.slice A0 l0.length c0, .int .i64 a1] w fun e w' => ∃ v0_ : Value, e = .returned (v0_) ∧ Kd.R (Kd.slice 3 (Kd.int .i64)) 22 w' w.heap.size (fun _ => True) v0_ r ∧ Below w.heap.size w w' := by
  unfold spec_l15All.f at h
  obtain ⟨b, hb, h⟩ := Option.bind_eq_some_iff.mp h
  have HA := Aside0.mk hb
  have H := Aside0.mk h
  have HB0 := Aside0.mk (Below.refl w.heap.size w)
  clear hb h
  cases b with
  | true =>
    have HZ : Aside0 (spec_l15Search.f k l0 a1 [] [] = some r) := ⟨H.out⟩
    clear H
    go_enter Try.func28, Try.ntmps28
    go_wp2_with (first | ((with_reducible refine gate_dst (N := 6) rfl ?_); refine Kd.R_lit (Kd.slice 3 (Kd.int .i64)) (w0 := w) w.heap.size 22 ?hg (N := 6) ?hd (xs := ([] : List (List Int))) (inner := []) (ok := fun _ => True) (okp := fun _ => True) ?hr ?hp (fun _ hk => hk) trivial HB0.out (Nat.le_refl _) (by simp) ?_; (case hd => rfl); (case hg => rfl); (case hr => first | (go_simp; done) | (go_simp; rfl)); (case hp => exact Reps.none _ _); intro v6 w1 ho hb hg_ hnew_; obtain ⟨Ad6, cd6, ev6⟩ := Kd.R_slice ho; subst ev6; have HV6 : Aside0 (Var (Kd.slice 3 (Kd.int .i64)) 22 40 w1.heap.size w.heap.size (w1.alloc (Obj.cells #[Value.slice Ad6 0 cd6] 40)) []) := ⟨_, blk_new _ _, Kd.R_alloc ho _⟩; have n1_ := Aside0.mk (hb.alloc hb.size (Obj.cells #[Value.slice Ad6 0 cd6] 40)); have GE := Aside0.mk hb.size; clear HB0; have HB0 := n1_; clear n1_ ho hb hg_ hnew_) | ((with_reducible refine gate_callee (f := 25) rfl ?_); refine goesL_ (some 9) rfl rfl Try.func25 (by kernel_rfl) rfl #[.slice A0 l0.length c0, .int .i64 a1] rfl (by (try simp only [List.map_toArray, List.map_cons, List.map_nil]); first | done | rfl) ?_; (with_reducible refine (spec_AreasValid.calls k A0 c0 l0 a1 _ _ (Kd.C_below hr0 HB0.out) hc0 HA.out).mono ?_); rintro e wb ⟨rfl, hd'⟩; have hd := drawn_below hd'; clear hd'; have n1_ := Aside0.mk (below_step HB0.out hd); have n2_ := Aside0.mk (HV6.out.below hd); clear HB0 HV6; have HB0 := n1_; have HV6 := n2_; clear n1_ n2_ hd; refine ⟨_, rfl, ?_⟩) | ((with_reducible refine gate_dst (N := 12) rfl ?_); refine Kd.R_lit (Kd.int .i64) (w0 := w) w.heap.size 3 ?hg (N := 12) ?hd (xs := ([] : List Int)) (inner := []) (ok := fun _ => True) (okp := fun _ => True) ?hr ?hp (fun _ hk => hk) trivial HB0.out HB0.out.size (by simp) ?_; (case hd => rfl); (case hg => rfl); (case hr => first | (go_simp; done) | (go_simp; rfl)); (case hp => exact Reps.none _ _); intro v12 w2 ho hb hg_ hnew_; obtain ⟨Ad12, cd12, ev12⟩ := Kd.R_slice ho; subst ev12; have HO12 := Aside0.mk ho; have n2_ := Aside0.mk (HV6.out.grown0 hg_); have n1_ := Aside0.mk hb; clear HB0 HV6; have HB0 := n1_; have HV6 := n2_; clear n1_ n2_ ho hb hg_ hnew_) | ((with_reducible refine gate_callee (f := 34) rfl ?_); refine goesL_ (some 13) rfl rfl Try.func34 (by kernel_rfl) rfl #[.slice A0 l0.length c0, .int .i64 a1, .slice Ad12 0 cd12, .pointer (some ⟨w1.heap.size, 0, none⟩)] rfl (by (try simp only [List.map_toArray, List.map_cons, List.map_nil]); first | done | rfl) ?_; (refine (spec_l15Search.calls w w1.heap.size GE.out A0 c0 l0 a1 hr0 hc0 k Ad12 cd12 [] [] r _ HB0.out HO12.out HV6.out HZ.out).mono ?_); rintro e wb ⟨rfl, hd1, ⟨vz, hz, hrz⟩, _⟩; have hcz : wb.cell? ⟨w1.heap.size, 0, none⟩ = some vz := blk_cell hz 0; have HB1 := Aside0.mk hd1; have HVz := Aside0.mk hrz; clear hd1 hz hrz; refine ⟨_, rfl, ?_⟩))
    go_ret
    exact ⟨_, rfl, HVz.out, HB1.out⟩
  | false =>
    have e0 : [] = r := Option.some.inj H.out
    subst e0
    clear H
    go_enter Try.func28, Try.ntmps28
    go_wp2_with (first | ((with_reducible refine gate_dst (N := 6) rfl ?_); refine Kd.R_lit (Kd.slice 3 (Kd.int .i64)) (w0 := w) w.heap.size 22 ?hg (N := 6) ?hd (xs := ([] : List (List Int))) (inner := []) (ok := fun _ => True) (okp := fun _ => True) ?hr ?hp (fun _ hk => hk) trivial HB0.out (Nat.le_refl _) (by simp) ?_; (case hd => rfl); (case hg => rfl); (case hr => first | (go_simp; done) | (go_simp; rfl)); (case hp => exact Reps.none _ _); intro v6 w1 ho hb hg_ hnew_; obtain ⟨Ad6, cd6, ev6⟩ := Kd.R_slice ho; subst ev6; have HV6 : Aside0 (Var (Kd.slice 3 (Kd.int .i64)) 22 40 w1.heap.size w.heap.size (w1.alloc (Obj.cells #[Value.slice Ad6 0 cd6] 40)) []) := ⟨_, blk_new _ _, Kd.R_alloc ho _⟩; have n1_ := Aside0.mk (hb.alloc hb.size (Obj.cells #[Value.slice Ad6 0 cd6] 40)); have GE := Aside0.mk hb.size; clear HB0; have HB0 := n1_; clear n1_ ho hb hg_ hnew_) | ((with_reducible refine gate_callee (f := 25) rfl ?_); refine goesL_ (some 9) rfl rfl Try.func25 (by kernel_rfl) rfl #[.slice A0 l0.length c0, .int .i64 a1] rfl (by (try simp only [List.map_toArray, List.map_cons, List.map_nil]); first | done | rfl) ?_; (with_reducible refine (spec_AreasValid.calls k A0 c0 l0 a1 _ _ (Kd.C_below hr0 HB0.out) hc0 HA.out).mono ?_); rintro e wb ⟨rfl, hd'⟩; have hd := drawn_below hd'; clear hd'; have n1_ := Aside0.mk (below_step HB0.out hd); have n2_ := Aside0.mk (HV6.out.below hd); clear HB0 HV6; have HB0 := n1_; have HV6 := n2_; clear n1_ n2_ hd; obtain ⟨vz, hz, hrz⟩ := HV6.out; have hcz : wb.cell? ⟨w1.heap.size, 0, none⟩ = some vz := blk_cell hz 0; have HVz := Aside0.mk hrz; clear hz hrz; refine ⟨_, rfl, ?_⟩))
    go_ret
    exact ⟨_, rfl, HVz.out, HB0.out⟩

/-! ### spec_StarsFirst: function 16 -/
def spec_StarsFirst.f (k : Nat) (l0 : List Int) (a1 : Int) : Option (List Int × Bool) := (spec_l15All.f k l0 a1).bind fun t117 => (if (t117.length : Int) = 0 then (some ((([] : List Int)), false)) else (if 0 < (t117.length : Int) then (some (rd_L1 t117 0, true)) else (none)))
theorem spec_StarsFirst.mono : ∀ a0 a1 k, LeO (spec_StarsFirst.f k a0 a1) (spec_StarsFirst.f (k + 1) a0 a1) := by
  intro a0 a1 k
  unfold spec_StarsFirst.f
  repeat' first
      | (with_reducible exact spec_l15All.mono _ _ _)
      | (with_reducible exact LeO.refl _)
      | (with_reducible exact LeO.none _)
      | (with_reducible refine LeO.ite ?_ ?_)
      | (with_reducible refine LeO.bind ?_ (fun _ => ?_))
      | exact spec_l15All.mono _ _ _
      | exact LeO.none _
      | refine LeO.ite ?_ ?_
      | refine LeO.bind ?_ (fun _ => ?_)
set_option maxHeartbeats 8000000 in
set_option maxRecDepth 100000 in
theorem spec_StarsFirst.calls (k : Nat) (A0 : Option Addr) (c0 : Nat) (l0 : List Int) (a1 : Int) (r1 : List Int) (r2 : Bool) (w : World) (hr0 : Kd.C (Kd.int .i64) w A0 l0.length l0) (hc0 : l0.length ≤ c0) (h : spec_StarsFirst.f k l0 a1 = some (r1, r2)) :
    Calls Try.prog 16 #[.slice A0 l0.length c0, .int .i64 a1] w fun e w' => ∃ v0_ : Value, e = .returned (.tuple #[v0_, .bool r2]) ∧ Kd.R (Kd.int .i64) 3 w' w.heap.size (fun _ => True) v0_ r1 ∧ Below w.heap.size w w' := by
  have HR0 := Aside0.mk hr0
  have HC0 := Aside0.mk hc0
  clear hr0 hc0
  have HB := Aside0.mk (Below.refl w.heap.size w)
  have H : ((spec_l15All.f k l0 a1).bind fun t117 => (if (t117.length : Int) = 0 then (some ((([] : List Int)), false)) else (if 0 < (t117.length : Int) then (some (rd_L1 t117 0, true)) else (none)))) = some (r1, r2) := h
  clear h
  replace H := Option.bind_eq_some_iff.mp H
  obtain ⟨t117, A30, H⟩ := H
  replace H : (if (t117.length : Int) = 0 then (some ((([] : List Int)), false)) else (if 0 < (t117.length : Int) then (some (rd_L1 t117 0, true)) else (none))) = some (r1, r2) := H
  have A3 := Aside0.mk A30
  clear A30
  by_cases c4 : (t117.length : Int) = 0
  · rw [if_pos c4] at H
    have c4b0 : ((t117.length : Int) == 0) = true := beq_iff_eq.mpr c4
    have c4b1 : ((t117.length : Int) != 0) = false := bne_eq_false_iff_eq.mpr c4
    clear c4
    obtain ⟨y120, hy120⟩ : ∃ y_ : List Int, y_ = (([] : List Int)) := ⟨_, rfl⟩
    replace H : (some (y120, false)) = some (r1, r2) := by first | (rw [hy120]; with_reducible exact H) | (have H2_ := (Option.bind_some _ _).symm.trans H; rw [hy120]; with_reducible exact H2_) | (have H2_ := (Option.bind_some _ _).symm.trans H; with_reducible exact H2_) | with_reducible exact H | (rw [hy120]; exact H) | exact H
    have Ny120 := Aside0.mk hy120
    clear hy120
    simp only [Option.some.injEq, Prod.mk.injEq] at H
    obtain ⟨rfl, rfl⟩ := H
    go_enter Try.func16, Try.ntmps16
    go_wp2_with (first | ((with_reducible refine gate_callee (f := 28) rfl ?_); refine goesL_ (some 9) rfl rfl Try.func28 (by kernel_rfl) rfl #[.slice A0 l0.length c0, .int .i64 a1] rfl (by (try simp only [List.map_toArray, List.map_cons, List.map_nil]); first | done | rfl | (simp only [List.length_drop, List.length_take]; rfl)) ?_; (with_reducible refine (spec_l15All.calls k _ _ l0 a1 t117 _ ?side1 ?side2 A3.out).mono ?_); (case side1 => repeat (first | exact HR0.out | (with_reducible refine Kd.C_alloc ?_ _) | (with_reducible refine Kd.C_drewN ?_ _) | (with_reducible refine Kd.C_drew ?_))); (case side2 => exact HC0.out); rintro e w5 ⟨v118, rfl, ho0, hb⟩; refine ⟨_, rfl, ?_⟩; have n0_ := Aside0.mk (Kd.R_lower ho0 (below_size (by repeat (first | (with_reducible first | exact HB.out | apply below_alloc | apply pw_below_drewN | apply below_drew1) | exact HB.out)))); have n1_ := Aside0.mk (below_step (by repeat (first | (with_reducible first | exact HB.out | apply below_alloc | apply pw_below_drewN | apply below_drew1) | exact HB.out)) hb); clear HB; have HO119 := n0_; have HB := n1_; clear n0_ n1_; (try clear hb); (try clear hb2); (try clear hk); (try clear hi); (try clear ho0); obtain ⟨Ao6, co6, eo6⟩ := Kd.R_slice HO119.out; subst eo6) | ((with_reducible refine gate_dst (N := 13) rfl ?_); refine Kd.R_lit (Kd.int .i64) _ 3 ?hg (N := 13) ?hd (xs := ([] : List Int)) (inner := []) (ok := fun _ => True) (okp := fun _ => True) ?hr ?hp (fun _ hk => hk) trivial (Below.refl _ _) (Nat.le_refl _) (by simp) ?_; (case hd => rfl); (case hg => rfl); (case hr => first | (go_simp; done) | (go_simp; rfl)); (case hp => exact (Reps.none _ _)); intro v121 w7 ho8 hb hg_ hnew_; clear hg_ hnew_; (first | rw [← Ny120.out] at ho8 | (simp only [Int.reduceToNat] at ho8; rw [← Ny120.out] at ho8)); have n0_ := Aside0.mk (Kd.R_elder' (by (with_reducible repeat (first | apply Kd.R_alloc | apply Kd.R_drewN | apply Kd.R_drew)); exact HO119.out) (Kd.R_base ho8) hb); have n1_ := Aside0.mk (Kd.R_lower ho8 (below_size (by repeat (first | (with_reducible first | exact HB.out | apply below_alloc | apply pw_below_drewN | apply below_drew1) | exact HB.out)))); have n2_ := Aside0.mk (below_step (by repeat (first | (with_reducible first | exact HB.out | apply below_alloc | apply pw_below_drewN | apply below_drew1) | exact HB.out)) hb); clear HO119; clear HB; have HO119 := n0_; have HO122 := n1_; have HB := n2_; clear n0_ n1_ n2_; clear hb ho8))
    go_ret2
    exact ⟨_, by first | rfl | (simp [errW_none, errW_some] <;> rfl) | (simp [*, errW_none, errW_some] <;> rfl), by (with_reducible repeat (first | apply Kd.R_alloc | apply Kd.R_drewN | apply Kd.R_drew)); exact HO122.out, by repeat (first | (with_reducible first | exact HB.out | apply below_alloc | apply pw_below_drewN | apply below_drew1) | exact HB.out)⟩
  · rw [if_neg c4] at H
    have c4b0 : ((t117.length : Int) == 0) = false := beq_eq_false_iff_ne.mpr c4
    have c4b1 : ((t117.length : Int) != 0) = true := bne_iff_ne.mpr c4
    have c4b2 : ¬ (t117 = []) := fun h_ => c4 (by rw [h_]; rfl)
    by_cases c9 : 0 < (t117.length : Int)
    · rw [if_pos c9] at H
      have c9b0 : decide (0 < (t117.length : Int)) = true := decide_eq_true c9
      have c9b1 : decide (0 < t117.length) = true := decide_eq_true (by omega)
      clear c9
      simp only [Option.some.injEq, Prod.mk.injEq] at H
      obtain ⟨rfl, rfl⟩ := H
      go_enter Try.func16, Try.ntmps16
      go_wp2_with (first | ((with_reducible refine gate_callee (f := 28) rfl ?_); refine goesL_ (some 9) rfl rfl Try.func28 (by kernel_rfl) rfl #[.slice A0 l0.length c0, .int .i64 a1] rfl (by (try simp only [List.map_toArray, List.map_cons, List.map_nil]); first | done | rfl | (simp only [List.length_drop, List.length_take]; rfl)) ?_; (with_reducible refine (spec_l15All.calls k _ _ l0 a1 t117 _ ?side1 ?side2 A3.out).mono ?_); (case side1 => repeat (first | exact HR0.out | (with_reducible refine Kd.C_alloc ?_ _) | (with_reducible refine Kd.C_drewN ?_ _) | (with_reducible refine Kd.C_drew ?_))); (case side2 => exact HC0.out); rintro e w10 ⟨v118, rfl, ho0, hb⟩; refine ⟨_, rfl, ?_⟩; have n0_ := Aside0.mk (Kd.R_lower ho0 (below_size (by repeat (first | (with_reducible first | exact HB.out | apply below_alloc | apply pw_below_drewN | apply below_drew1) | exact HB.out)))); have n1_ := Aside0.mk (below_step (by repeat (first | (with_reducible first | exact HB.out | apply below_alloc | apply pw_below_drewN | apply below_drew1) | exact HB.out)) hb); clear HB; have HO119 := n0_; have HB := n1_; clear n0_ n1_; (try clear hb); (try clear hb2); (try clear hk); (try clear hi); (try clear ho0); obtain ⟨Ao11, co11, eo11⟩ := Kd.R_slice HO119.out; subst eo11; have p123 : 0 ≤ (0 : Int) := (by omega); have q123 : 0 < (t117.length : Int) := of_decide_eq_true (by first | (with_reducible assumption) | assumption); obtain ⟨ad123, A123_0, c123_0, e123, hx123_0, hl123_0, hi123_0⟩ := at_L1 (Kd.R_reads' HO119.out).2.2 0 p123 q123; cases e123; obtain ⟨ce123, hce123, hMe123, hcc123⟩ := Kd.R_get HO119.out [] 0 p123 (by first | exact q123 | exact of_decide_eq_true (by first | (with_reducible assumption) | assumption) | (have e_ := (Kd.R_reads' HO119.out).1; omega)); obtain ⟨ve123_0, rfl, ge123_0⟩ := hMe123; have hv123_0 := hcc123 0 _ rfl; rw [Nat.add_zero, show ((Kd.slice 3 (Kd.int .i64))).sz = 1 from rfl, Nat.mul_one] at hv123_0; replace hv123_0 := Option.some.inj (hv123_0.symm.trans hx123_0); rw [hv123_0] at ge123_0; have HL123_0 := Aside0.mk (show Kd.R (Kd.int .i64) 3 _ _ _ _ (rd_L1 t117 0) from ge123_0); clear hv123_0 ge123_0; clear hcc123 hce123; have qi123 : (0 < t117.length) = True := eq_true (by omega); (try rw [show ((0 : Int)).toNat = 0 from rfl] at hx123_0); (try rw [Addr.add_zero'] at hx123_0); have HR123_0 := Aside0.mk hi123_0; have HC123_0 := Aside0.mk hl123_0; clear hi123_0 hl123_0; replace p123 := eq_true p123; replace q123 := eq_true q123))
      go_ret2
      exact ⟨_, by first | rfl | (simp [errW_none, errW_some] <;> rfl) | (simp [*, errW_none, errW_some] <;> rfl), by (with_reducible repeat (first | apply Kd.R_alloc | apply Kd.R_drewN | apply Kd.R_drew)); exact Kd.R_mono HL123_0.out (fun _ hk => trivial), by repeat (first | (with_reducible first | exact HB.out | apply below_alloc | apply pw_below_drewN | apply below_drew1) | exact HB.out)⟩
    · rw [if_neg c9] at H
      exact absurd H (by simp)

end Go.Proofs.Ytcghheaelgjnfaa.PFnStarsFit
