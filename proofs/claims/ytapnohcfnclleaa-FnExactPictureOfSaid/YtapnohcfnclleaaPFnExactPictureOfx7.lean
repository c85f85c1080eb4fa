-- Made by a program of this session (a changed copy of the kit print): the kit print itself does not give this text
import Derived.Test.YtapnohcfnclleaaPFnExactPictureOfx0
import Derived.Test.YtapnohcfnclleaaPFnExactPictureOfx1
import Derived.Test.YtapnohcfnclleaaPFnExactPictureOfx3
import Derived.Test.YtapnohcfnclleaaPFnExactPictureOfx4
import Derived.Test.YtapnohcfnclleaaPFnExactPictureOfx5
import Derived.Test.YtapnohcfnclleaaPFnExactPictureOfx6
import Derived.Test.YtapnohcfnclleaaV2
namespace Go.Proofs.Ytapnohcfnclleaa.PFnExactPictureOf
open Go.RowKit Go.Proofs.YtapnohcfnclleaaW.PrintWords Go.Proofs.YtapnohcfnclleaaW.PrintLast Go.Proofs.YtapnohcfnclleaaW.PrintMore
attribute [local go_sem] max2_int min2_int max_two min_two max_three min_three max_four min_four   -- for this text's walks alone
set_option linter.unusedVariables false
set_option linter.unusedSimpArgs false

/-! ### laws_heldIntS: function 73 -/
def laws_heldIntS.l0 : Nat → List Int → Int → Int → Option (Int)
  | 0, _, _, _ => none
  | k + 1, x0, x1, x5 => if x5 < (x0.length : Int) then (if 0 ≤ x5 then (if (rd x0 x5) = x1 then (laws_heldIntS.l0 k x0 (wrap64 (x1 + 1)) (wrap64 (x5 + 1))) else (some (-1))) else (none)) else (some x1)
def laws_heldIntS.f (k : Nat) (l0 : List Int) (a1 : Int) : Option (Int) := laws_heldIntS.l0 k l0 a1 0
theorem laws_heldIntS.mono_l : ∀ k, (∀ y0 y1 y2, LeO (laws_heldIntS.l0 k y0 y1 y2) (laws_heldIntS.l0 (k + 1) y0 y1 y2))
  | 0 => fun _ _ _ r h => by simp [laws_heldIntS.l0] at h
  | k + 1 => by
    have ih0 := laws_heldIntS.mono_l k
    · intro y0 y1 y2
      unfold laws_heldIntS.l0
      repeat' first
      | (with_reducible exact ih0 _ _ _)
      | (with_reducible exact LeO.refl _)
      | (with_reducible exact LeO.none _)
      | (with_reducible refine LeO.ite ?_ ?_)
      | (with_reducible refine LeO.bind ?_ (fun _ => ?_))
      | exact ih0 _ _ _
      | exact LeO.none _
      | refine LeO.ite ?_ ?_
      | refine LeO.bind ?_ (fun _ => ?_)
theorem laws_heldIntS.mono : ∀ a0 a1 k, LeO (laws_heldIntS.f k a0 a1) (laws_heldIntS.f (k + 1) a0 a1) := by
  intro a0 a1 k
  have ih0 := laws_heldIntS.mono_l k
  unfold laws_heldIntS.f
  repeat' first
      | (with_reducible exact ih0 _ _ _)
      | (with_reducible exact LeO.refl _)
      | (with_reducible exact LeO.none _)
      | (with_reducible refine LeO.ite ?_ ?_)
      | (with_reducible refine LeO.bind ?_ (fun _ => ?_))
      | exact ih0 _ _ _
      | exact LeO.none _
      | refine LeO.ite ?_ ?_
      | refine LeO.bind ?_ (fun _ => ?_)
set_option maxHeartbeats 8000000 in
set_option maxRecDepth 100000 in
theorem laws_heldIntS.calls (k : Nat) (A0 : Option Addr) (c0 : Nat) (l0 : List Int) (a1 : Int) (r : Int) (w : World) (hr0 : Kd.C (Kd.int .i64) w A0 l0.length l0) (hc0 : l0.length ≤ c0) (h : laws_heldIntS.f k l0 a1 = some r) :
    Calls Try.prog 73 #[.slice A0 l0.length c0, .int .i64 a1] w fun e w' => e = .returned (.int .i64 r) ∧ Drawn0 w w' := by
  have HR0 := Aside0.mk hr0
  have HC0 := Aside0.mk hc0
  clear hr0 hc0
  have H : (laws_heldIntS.l0 k l0 a1 0) = some r := h
  clear h
  have H' := Aside0.mk H
  clear H
  go_enter Try.func73, Try.ntmps73
  go_wp2
  go_loopg [1, 5] k (fun kq v1 v5 w' => ∃ (x1_1 : Int) (x5_1 : Int), v1 = .int .i64 x1_1 ∧ v5 = .int .i64 x5_1 ∧ Aside0 (laws_heldIntS.l0 kq l0 x1_1 x5_1 = some r) ∧ Aside0 (kq ≤ k) ∧ Drawn0 w w')
  case atStart => exact ⟨(a1), (0), (by first | rfl | (simp; done) | (simp [*]; done)), (by first | rfl | (simp; done) | (simp [*]; done)), H', ⟨Nat.le_refl _⟩, by repeat (first | exact Drawn0.refl _ | apply Drawn0.step)⟩
  case round =>
    clear H'
    try clear p2
    obtain ⟨x1_1, x5_1, rfl, rfl, HA, HK1, ⟨m1, rfl⟩⟩ := hrel
    cases gk with
    | zero => exact absurd HA.out (by simp [laws_heldIntS.l0])
    | succ k1 =>
      have H := HA.out
      clear HA
      simp only [laws_heldIntS.l0] at H
      by_cases c3 : x5_1 < (l0.length : Int)
      · rw [if_pos c3] at H
        have c3b0 : decide (x5_1 < (l0.length : Int)) = true := decide_eq_true c3
        clear c3
        by_cases c4 : 0 ≤ x5_1
        · rw [if_pos c4] at H
          have c4b0 : decide (0 ≤ x5_1) = true := decide_eq_true c4
          clear c4
          by_cases c5 : (rd l0 x5_1) = x1_1
          · rw [if_pos c5] at H
            have c5b0 : ((rd l0 x5_1) == x1_1) = true := beq_iff_eq.mpr c5
            have c5b1 : ((rd l0 x5_1) != x1_1) = false := bne_eq_false_iff_eq.mpr c5
            clear c5
            have H' := Aside0.mk H
            clear H
            have p227 : 0 ≤ (x5_1 : Int) := of_decide_eq_true (by first | (with_reducible assumption) | assumption)
            have q227 : x5_1 < (l0.length : Int) := of_decide_eq_true (by first | (with_reducible assumption) | assumption)
            obtain ⟨ad227, e227, hx227_0⟩ := Kd.at_int HR0.out x5_1 p227 q227
            cases e227
            replace p227 := eq_true p227
            replace q227 := eq_true q227
            go_wp2
            go_roundg k1
            case measure => have := HK1.out; omega
            case rel => exact ⟨(wrap64 (x1_1 + 1)), (wrap64 (x5_1 + 1)), (by first | rfl | (simp; done) | (simp [*]; done)), (by first | rfl | (simp; done) | (simp [*]; done)), H', ⟨by have := HK1.out; omega⟩, by repeat (first | exact Drawn0.refl _ | apply Drawn0.step)⟩
          · rw [if_neg c5] at H
            have c5b0 : ((rd l0 x5_1) == x1_1) = false := beq_eq_false_iff_ne.mpr c5
            have c5b1 : ((rd l0 x5_1) != x1_1) = true := bne_iff_ne.mpr c5
            obtain rfl := Option.some.inj H
            have p227 : 0 ≤ (x5_1 : Int) := of_decide_eq_true (by first | (with_reducible assumption) | assumption)
            have q227 : x5_1 < (l0.length : Int) := of_decide_eq_true (by first | (with_reducible assumption) | assumption)
            obtain ⟨ad227, e227, hx227_0⟩ := Kd.at_int HR0.out x5_1 p227 q227
            cases e227
            replace p227 := eq_true p227
            replace q227 := eq_true q227
            go_wp2
            go_ret
            exact ⟨by first | rfl | (simp; done) | (simp [*]; done), by repeat (first | exact Drawn0.refl _ | apply Drawn0.step)⟩
        · rw [if_neg c4] at H
          exact absurd H (by simp)
      · rw [if_neg c3] at H
        have c3b0 : decide (x5_1 < (l0.length : Int)) = false := decide_eq_false c3
        clear c3
        obtain rfl := Option.some.inj H
        go_wp2
        go_ret
        exact ⟨by first | rfl | (simp; done) | (simp [*]; done), by repeat (first | exact Drawn0.refl _ | apply Drawn0.step)⟩

/-! ### laws_heldIntSS: function 40 -/
def laws_heldIntSS.l0 : Nat → List (List Int) → Int → Int → Option (Int)
  | 0, _, _, _ => none
  | k + 1, x0, x1, x5 => if x5 < (x0.length : Int) then (if 0 ≤ x5 then ((laws_heldIntS.f k (rd_L1 x0 x5) x1).bind fun t229 => (if t229 < 0 then (some (-1)) else (laws_heldIntSS.l0 k x0 t229 (wrap64 (x5 + 1))))) else (none)) else (some x1)
def laws_heldIntSS.f (k : Nat) (l0 : List (List Int)) (a1 : Int) : Option (Int) := laws_heldIntSS.l0 k l0 a1 0
theorem laws_heldIntSS.mono_l : ∀ k, (∀ y0 y1 y2, LeO (laws_heldIntSS.l0 k y0 y1 y2) (laws_heldIntSS.l0 (k + 1) y0 y1 y2))
  | 0 => fun _ _ _ r h => by simp [laws_heldIntSS.l0] at h
  | k + 1 => by
    have ih0 := laws_heldIntSS.mono_l k
    · intro y0 y1 y2
      unfold laws_heldIntSS.l0
      repeat' first
      | (with_reducible exact ih0 _ _ _)
      | (with_reducible exact laws_heldIntS.mono _ _ _)
      | (with_reducible exact LeO.refl _)
      | (with_reducible exact LeO.none _)
      | (with_reducible refine LeO.ite ?_ ?_)
      | (with_reducible refine LeO.bind ?_ (fun _ => ?_))
      | exact ih0 _ _ _
      | exact laws_heldIntS.mono _ _ _
      | exact LeO.none _
      | refine LeO.ite ?_ ?_
      | refine LeO.bind ?_ (fun _ => ?_)
theorem laws_heldIntSS.mono : ∀ a0 a1 k, LeO (laws_heldIntSS.f k a0 a1) (laws_heldIntSS.f (k + 1) a0 a1) := by
  intro a0 a1 k
  have ih0 := laws_heldIntSS.mono_l k
  unfold laws_heldIntSS.f
  repeat' first
      | (with_reducible exact ih0 _ _ _)
      | (with_reducible exact laws_heldIntS.mono _ _ _)
      | (with_reducible exact LeO.refl _)
      | (with_reducible exact LeO.none _)
      | (with_reducible refine LeO.ite ?_ ?_)
      | (with_reducible refine LeO.bind ?_ (fun _ => ?_))
      | exact ih0 _ _ _
      | exact laws_heldIntS.mono _ _ _
      | exact LeO.none _
      | refine LeO.ite ?_ ?_
      | refine LeO.bind ?_ (fun _ => ?_)
set_option maxHeartbeats 8000000 in
set_option maxRecDepth 100000 in
theorem laws_heldIntSS.calls (k : Nat) (A0 : Option Addr) (c0 : Nat) (l0 : List (List Int)) (a1 : Int) (r : Int) (w : World) (hr0 : Kd.C (Kd.slice 3 (Kd.int .i64)) w A0 l0.length l0) (hc0 : l0.length ≤ c0) (h : laws_heldIntSS.f k l0 a1 = some r) :
    Calls Try.prog 40 #[.slice A0 l0.length c0, .int .i64 a1] w fun e w' => e = .returned (.int .i64 r) ∧ Drawn0 w w' := by
  have HR0 := Aside0.mk hr0
  have HC0 := Aside0.mk hc0
  clear hr0 hc0
  have H : (laws_heldIntSS.l0 k l0 a1 0) = some r := h
  clear h
  have H' := Aside0.mk H
  clear H
  go_enter Try.func40, Try.ntmps40
  go_wp2
  go_loopg [1, 5] k (fun kq v1 v5 w' => ∃ (x1_1 : Int) (x5_1 : Int), v1 = .int .i64 x1_1 ∧ v5 = .int .i64 x5_1 ∧ Aside0 (laws_heldIntSS.l0 kq l0 x1_1 x5_1 = some r) ∧ Aside0 (kq ≤ k) ∧ Drawn0 w w')
  case atStart => exact ⟨(a1), (0), (by first | rfl | (simp; done) | (simp [*]; done)), (by first | rfl | (simp; done) | (simp [*]; done)), H', ⟨Nat.le_refl _⟩, by repeat (first | exact Drawn0.refl _ | apply Drawn0.step)⟩
  case round =>
    clear H'
    try clear p2
    obtain ⟨x1_1, x5_1, rfl, rfl, HA, HK1, ⟨m1, rfl⟩⟩ := hrel
    cases gk with
    | zero => exact absurd HA.out (by simp [laws_heldIntSS.l0])
    | succ k1 =>
      have H := HA.out
      clear HA
      simp only [laws_heldIntSS.l0] at H
      by_cases c3 : x5_1 < (l0.length : Int)
      · rw [if_pos c3] at H
        have c3b0 : decide (x5_1 < (l0.length : Int)) = true := decide_eq_true c3
        clear c3
        by_cases c4 : 0 ≤ x5_1
        · rw [if_pos c4] at H
          have c4b0 : decide (0 ≤ x5_1) = true := decide_eq_true c4
          clear c4
          replace H := Option.bind_eq_some_iff.mp H
          obtain ⟨t229, A50, H⟩ := H
          replace H : (if t229 < 0 then (some (-1)) else (laws_heldIntSS.l0 k1 l0 t229 (wrap64 (x5_1 + 1)))) = some r := H
          have A5 := Aside0.mk A50
          clear A50
          by_cases c6 : t229 < 0
          · rw [if_pos c6] at H
            have c6b0 : decide (t229 < 0) = true := decide_eq_true c6
            clear c6
            obtain rfl := Option.some.inj H
            have p228 : 0 ≤ (x5_1 : Int) := of_decide_eq_true (by first | (with_reducible assumption) | assumption)
            have q228 : x5_1 < (l0.length : Int) := of_decide_eq_true (by first | (with_reducible assumption) | assumption)
            obtain ⟨ad228, A228_0, c228_0, e228, hx228_0, hl228_0, hi228_0⟩ := at_L1 HR0.out x5_1 p228 q228
            cases e228
            have HR228_0 := Aside0.mk hi228_0
            have HC228_0 := Aside0.mk hl228_0
            clear hi228_0 hl228_0
            replace p228 := eq_true p228
            replace q228 := eq_true q228
            go_wp2_with (first | ((with_reducible refine gate_callee (f := 73) rfl ?_); refine goesL_ (some 17) rfl rfl Try.func73 (by kernel_rfl) rfl #[.slice A228_0 (rd_L1 l0 x5_1).length c228_0, .int .i64 x1_1] rfl (by (try simp only [List.map_toArray, List.map_cons, List.map_nil]); first | done | rfl | (simp only [List.length_drop, List.length_take]; rfl)) ?_; (with_reducible refine (laws_heldIntS.calls k1 _ _ (rd_L1 l0 x5_1) x1_1 t229 _ ?side1 ?side2 A5.out).mono ?_); (case side1 => repeat (first | exact HR228_0.out | (with_reducible refine Kd.C_alloc ?_ _) | (with_reducible refine Kd.C_drewN ?_ _) | (with_reducible refine Kd.C_drew ?_))); (case side2 => exact HC228_0.out); rintro e w' ⟨rfl, ⟨nd, rfl⟩⟩; refine ⟨_, rfl, ?_⟩))
            go_ret
            exact ⟨by first | rfl | (simp; done) | (simp [*]; done), by repeat (first | exact Drawn0.refl _ | apply Drawn0.step)⟩
          · rw [if_neg c6] at H
            have c6b0 : decide (t229 < 0) = false := decide_eq_false c6
            clear c6
            have H' := Aside0.mk H
            clear H
            have p228 : 0 ≤ (x5_1 : Int) := of_decide_eq_true (by first | (with_reducible assumption) | assumption)
            have q228 : x5_1 < (l0.length : Int) := of_decide_eq_true (by first | (with_reducible assumption) | assumption)
            obtain ⟨ad228, A228_0, c228_0, e228, hx228_0, hl228_0, hi228_0⟩ := at_L1 HR0.out x5_1 p228 q228
            cases e228
            have HR228_0 := Aside0.mk hi228_0
            have HC228_0 := Aside0.mk hl228_0
            clear hi228_0 hl228_0
            replace p228 := eq_true p228
            replace q228 := eq_true q228
            go_wp2_with (first | ((with_reducible refine gate_callee (f := 73) rfl ?_); refine goesL_ (some 17) rfl rfl Try.func73 (by kernel_rfl) rfl #[.slice A228_0 (rd_L1 l0 x5_1).length c228_0, .int .i64 x1_1] rfl (by (try simp only [List.map_toArray, List.map_cons, List.map_nil]); first | done | rfl | (simp only [List.length_drop, List.length_take]; rfl)) ?_; (with_reducible refine (laws_heldIntS.calls k1 _ _ (rd_L1 l0 x5_1) x1_1 t229 _ ?side1 ?side2 A5.out).mono ?_); (case side1 => repeat (first | exact HR228_0.out | (with_reducible refine Kd.C_alloc ?_ _) | (with_reducible refine Kd.C_drewN ?_ _) | (with_reducible refine Kd.C_drew ?_))); (case side2 => exact HC228_0.out); rintro e w' ⟨rfl, ⟨nd, rfl⟩⟩; refine ⟨_, rfl, ?_⟩))
            go_roundg k1
            case measure => have := HK1.out; omega
            case rel => exact ⟨(t229), (wrap64 (x5_1 + 1)), (by first | rfl | (simp; done) | (simp [*]; done)), (by first | rfl | (simp; done) | (simp [*]; done)), H', ⟨by have := HK1.out; omega⟩, by repeat (first | exact Drawn0.refl _ | apply Drawn0.step)⟩
        · rw [if_neg c4] at H
          exact absurd H (by simp)
      · rw [if_neg c3] at H
        have c3b0 : decide (x5_1 < (l0.length : Int)) = false := decide_eq_false c3
        clear c3
        obtain rfl := Option.some.inj H
        go_wp2
        go_ret
        exact ⟨by first | rfl | (simp; done) | (simp [*]; done), by repeat (first | exact Drawn0.refl _ | apply Drawn0.step)⟩

/-! ### laws_heldPicture: function 34 -/
def laws_heldPicture.f (k : Nat) (l0_0 : List (List Int)) (l0_1 : List (List Int)) (a1 : Int) : Option (Int) := (laws_heldIntSS.f k l0_0 a1).bind fun t231 => (if t231 < 0 then (some (-1)) else ((laws_heldIntSS.f k l0_1 t231).bind fun t232 => (if t232 < 0 then (some (-1)) else (some t232))))
theorem laws_heldPicture.mono : ∀ a0 a1 a2 k, LeO (laws_heldPicture.f k a0 a1 a2) (laws_heldPicture.f (k + 1) a0 a1 a2) := by
  intro a0 a1 a2 k
  unfold laws_heldPicture.f
  repeat' first
      | (with_reducible exact laws_heldIntSS.mono _ _ _)
      | (with_reducible exact LeO.refl _)
      | (with_reducible exact LeO.none _)
      | (with_reducible refine LeO.ite ?_ ?_)
      | (with_reducible refine LeO.bind ?_ (fun _ => ?_))
      | exact laws_heldIntSS.mono _ _ _
      | exact LeO.none _
      | refine LeO.ite ?_ ?_
      | refine LeO.bind ?_ (fun _ => ?_)
set_option maxHeartbeats 8000000 in
set_option maxRecDepth 100000 in
theorem laws_heldPicture.calls (k : Nat) (A0_0 : Option Addr) (c0_0 : Nat) (l0_0 : List (List Int)) (A0_1 : Option Addr) (c0_1 : Nat) (l0_1 : List (List Int)) (a1 : Int) (r : Int) (w : World) (hr0_0 : Kd.C (Kd.slice 3 (Kd.int .i64)) w A0_0 l0_0.length l0_0) (hc0_0 : l0_0.length ≤ c0_0) (hr0_1 : Kd.C (Kd.slice 3 (Kd.int .i64)) w A0_1 l0_1.length l0_1) (hc0_1 : l0_1.length ≤ c0_1) (h : laws_heldPicture.f k l0_0 l0_1 a1 = some r) :
    Calls Try.prog 34 #[.agg #[.slice A0_0 l0_0.length c0_0, .slice A0_1 l0_1.length c0_1], .int .i64 a1] w fun e w' => e = .returned (.int .i64 r) ∧ Below w.heap.size w w' := by
  have hu25 := Try.underlying25
  have HR0_0 := Aside0.mk hr0_0
  have HC0_0 := Aside0.mk hc0_0
  clear hr0_0 hc0_0
  have HR0_1 := Aside0.mk hr0_1
  have HC0_1 := Aside0.mk hc0_1
  clear hr0_1 hc0_1
  have HB := Aside0.mk (Below.refl w.heap.size w)
  have H : ((laws_heldIntSS.f k l0_0 a1).bind fun t231 => (if t231 < 0 then (some (-1)) else ((laws_heldIntSS.f k l0_1 t231).bind fun t232 => (if t232 < 0 then (some (-1)) else (some t232))))) = some r := h
  clear h
  replace H := Option.bind_eq_some_iff.mp H
  obtain ⟨t231, A30, H⟩ := H
  replace H : (if t231 < 0 then (some (-1)) else ((laws_heldIntSS.f k l0_1 t231).bind fun t232 => (if t232 < 0 then (some (-1)) else (some t232)))) = some r := H
  have A3 := Aside0.mk A30
  clear A30
  by_cases c4 : t231 < 0
  · rw [if_pos c4] at H
    have c4b0 : decide (t231 < 0) = true := decide_eq_true c4
    clear c4
    obtain rfl := Option.some.inj H
    go_enter Try.func34, Try.ntmps34
    go_wp2_with (first | ((with_reducible refine gate_dst (N := 2) rfl ?_); refine box_event ?hg (N := 2) ?hd (cs := #[.slice A0_0 l0_0.length c0_0, .slice A0_1 l0_1.length c0_1]) (t := 25) ?hr ?_; (case hd => rfl); (case hg => rfl); (case hr => first | (go_simp; done) | (go_simp; rfl)); intro gb230 hg w5 hbox hb; have n0_ := Aside0.mk (below_step (by repeat (first | (with_reducible first | exact HB.out | apply below_alloc | apply pw_below_drewN | apply below_drew1) | exact HB.out)) hb); have n1_ := Aside0.mk (hbox); have n2_ := Aside0.mk ((by rw [hg]; exact (below_size (by repeat (first | (with_reducible first | exact HB.out | apply below_alloc | apply pw_below_drewN | apply below_drew1) | exact HB.out))) : w.heap.size ≤ gb230)); have n3_ := Aside0.mk ((by rw [hg]; exact (below_size (by repeat (first | (with_reducible first | exact HB.out | apply below_alloc | apply pw_below_drewN | apply below_drew1) | exact HB.out))) : w.heap.size ≤ gb230)); clear HB; have HB := n0_; have BK230 := n1_; have GW230 := n2_; have GE230 := n3_; clear n0_ n1_ n2_ n3_; clear hb hbox hg; have hcz6_0 : w5.cell? ⟨gb230, 0, none⟩ = some (.slice A0_0 l0_0.length c0_0) := (blk_cell BK230.out 0).trans rfl; have hcz6_1 : w5.cell? ⟨gb230, 1, none⟩ = some (.slice A0_1 l0_1.length c0_1) := (blk_cell BK230.out 1).trans rfl; have hfz6_0 := blk_frozen BK230.out 0; have hfz6_1 := blk_frozen BK230.out 1) | ((with_reducible refine gate_callee (f := 40) rfl ?_); refine goesL_ (some 8) rfl rfl Try.func40 (by kernel_rfl) rfl #[.slice A0_0 l0_0.length c0_0, .int .i64 a1] rfl (by (try simp only [List.map_toArray, List.map_cons, List.map_nil]); first | done | rfl | (simp only [List.length_drop, List.length_take]; rfl)) ?_; (with_reducible refine (laws_heldIntSS.calls k _ _ l0_0 a1 t231 _ ?side1 ?side2 A3.out).mono ?_); (case side1 => repeat (first | exact (Kd.C_below HR0_0.out HB.out) | (with_reducible refine Kd.C_alloc ?_ _) | (with_reducible refine Kd.C_drewN ?_ _) | (with_reducible refine Kd.C_drew ?_))); (case side2 => exact HC0_0.out); rintro e w' ⟨rfl, ⟨nd, rfl⟩⟩; refine ⟨_, rfl, ?_⟩))
    go_ret
    exact ⟨by first | rfl | (simp [errW_none, errW_some] <;> rfl) | (simp [*, errW_none, errW_some] <;> rfl), by repeat (first | (with_reducible first | exact HB.out | apply below_alloc | apply pw_below_drewN | apply below_drew1 | refine below_set ?_ GE230.out) | exact HB.out)⟩
  · rw [if_neg c4] at H
    have c4b0 : decide (t231 < 0) = false := decide_eq_false c4
    clear c4
    replace H := Option.bind_eq_some_iff.mp H
    obtain ⟨t232, A70, H⟩ := H
    replace H : (if t232 < 0 then (some (-1)) else (some t232)) = some r := H
    have A7 := Aside0.mk A70
    clear A70
    by_cases c8 : t232 < 0
    · rw [if_pos c8] at H
      have c8b0 : decide (t232 < 0) = true := decide_eq_true c8
      clear c8
      obtain rfl := Option.some.inj H
      go_enter Try.func34, Try.ntmps34
      go_wp2_with (first | ((with_reducible refine gate_dst (N := 2) rfl ?_); refine box_event ?hg (N := 2) ?hd (cs := #[.slice A0_0 l0_0.length c0_0, .slice A0_1 l0_1.length c0_1]) (t := 25) ?hr ?_; (case hd => rfl); (case hg => rfl); (case hr => first | (go_simp; done) | (go_simp; rfl)); intro gb230 hg w9 hbox hb; have n0_ := Aside0.mk (below_step (by repeat (first | (with_reducible first | exact HB.out | apply below_alloc | apply pw_below_drewN | apply below_drew1) | exact HB.out)) hb); have n1_ := Aside0.mk (hbox); have n2_ := Aside0.mk ((by rw [hg]; exact (below_size (by repeat (first | (with_reducible first | exact HB.out | apply below_alloc | apply pw_below_drewN | apply below_drew1) | exact HB.out))) : w.heap.size ≤ gb230)); have n3_ := Aside0.mk ((by rw [hg]; exact (below_size (by repeat (first | (with_reducible first | exact HB.out | apply below_alloc | apply pw_below_drewN | apply below_drew1) | exact HB.out))) : w.heap.size ≤ gb230)); clear HB; have HB := n0_; have BK230 := n1_; have GW230 := n2_; have GE230 := n3_; clear n0_ n1_ n2_ n3_; clear hb hbox hg; have hcz10_0 : w9.cell? ⟨gb230, 0, none⟩ = some (.slice A0_0 l0_0.length c0_0) := (blk_cell BK230.out 0).trans rfl; have hcz10_1 : w9.cell? ⟨gb230, 1, none⟩ = some (.slice A0_1 l0_1.length c0_1) := (blk_cell BK230.out 1).trans rfl; have hfz10_0 := blk_frozen BK230.out 0; have hfz10_1 := blk_frozen BK230.out 1) | ((with_reducible refine gate_callee (f := 40) rfl ?_); refine goesL_ (some 8) rfl rfl Try.func40 (by kernel_rfl) rfl #[.slice A0_0 l0_0.length c0_0, .int .i64 a1] rfl (by (try simp only [List.map_toArray, List.map_cons, List.map_nil]); first | done | rfl | (simp only [List.length_drop, List.length_take]; rfl)) ?_; (with_reducible refine (laws_heldIntSS.calls k _ _ l0_0 a1 t231 _ ?side1 ?side2 A3.out).mono ?_); (case side1 => repeat (first | exact (Kd.C_below HR0_0.out HB.out) | (with_reducible refine Kd.C_alloc ?_ _) | (with_reducible refine Kd.C_drewN ?_ _) | (with_reducible refine Kd.C_drew ?_))); (case side2 => exact HC0_0.out); rintro e w' ⟨rfl, ⟨nd, rfl⟩⟩; refine ⟨_, rfl, ?_⟩) | ((with_reducible refine gate_callee (f := 40) rfl ?_); refine goesL_ (some 14) rfl rfl Try.func40 (by kernel_rfl) rfl #[.slice A0_1 l0_1.length c0_1, .int .i64 t231] rfl (by (try simp only [List.map_toArray, List.map_cons, List.map_nil]); first | done | rfl | (simp only [List.length_drop, List.length_take]; rfl)) ?_; (with_reducible refine (laws_heldIntSS.calls k _ _ l0_1 t231 t232 _ ?side1 ?side2 A7.out).mono ?_); (case side1 => repeat (first | exact (Kd.C_below HR0_1.out (by repeat (first | (with_reducible first | exact HB.out | apply below_alloc | apply pw_below_drewN | apply below_drew1 | refine below_set ?_ GE230.out) | exact HB.out))) | (with_reducible refine Kd.C_alloc ?_ _) | (with_reducible refine Kd.C_drewN ?_ _) | (with_reducible refine Kd.C_drew ?_))); (case side2 => exact HC0_1.out); rintro e w' ⟨rfl, ⟨nd, rfl⟩⟩; refine ⟨_, rfl, ?_⟩))
      go_ret
      exact ⟨by first | rfl | (simp [errW_none, errW_some] <;> rfl) | (simp [*, errW_none, errW_some] <;> rfl), by repeat (first | (with_reducible first | exact HB.out | apply below_alloc | apply pw_below_drewN | apply below_drew1 | refine below_set ?_ GE230.out) | exact HB.out)⟩
    · rw [if_neg c8] at H
      have c8b0 : decide (t232 < 0) = false := decide_eq_false c8
      clear c8
      obtain rfl := Option.some.inj H
      go_enter Try.func34, Try.ntmps34
      go_wp2_with (first | ((with_reducible refine gate_dst (N := 2) rfl ?_); refine box_event ?hg (N := 2) ?hd (cs := #[.slice A0_0 l0_0.length c0_0, .slice A0_1 l0_1.length c0_1]) (t := 25) ?hr ?_; (case hd => rfl); (case hg => rfl); (case hr => first | (go_simp; done) | (go_simp; rfl)); intro gb230 hg w11 hbox hb; have n0_ := Aside0.mk (below_step (by repeat (first | (with_reducible first | exact HB.out | apply below_alloc | apply pw_below_drewN | apply below_drew1) | exact HB.out)) hb); have n1_ := Aside0.mk (hbox); have n2_ := Aside0.mk ((by rw [hg]; exact (below_size (by repeat (first | (with_reducible first | exact HB.out | apply below_alloc | apply pw_below_drewN | apply below_drew1) | exact HB.out))) : w.heap.size ≤ gb230)); have n3_ := Aside0.mk ((by rw [hg]; exact (below_size (by repeat (first | (with_reducible first | exact HB.out | apply below_alloc | apply pw_below_drewN | apply below_drew1) | exact HB.out))) : w.heap.size ≤ gb230)); clear HB; have HB := n0_; have BK230 := n1_; have GW230 := n2_; have GE230 := n3_; clear n0_ n1_ n2_ n3_; clear hb hbox hg; have hcz12_0 : w11.cell? ⟨gb230, 0, none⟩ = some (.slice A0_0 l0_0.length c0_0) := (blk_cell BK230.out 0).trans rfl; have hcz12_1 : w11.cell? ⟨gb230, 1, none⟩ = some (.slice A0_1 l0_1.length c0_1) := (blk_cell BK230.out 1).trans rfl; have hfz12_0 := blk_frozen BK230.out 0; have hfz12_1 := blk_frozen BK230.out 1) | ((with_reducible refine gate_callee (f := 40) rfl ?_); refine goesL_ (some 8) rfl rfl Try.func40 (by kernel_rfl) rfl #[.slice A0_0 l0_0.length c0_0, .int .i64 a1] rfl (by (try simp only [List.map_toArray, List.map_cons, List.map_nil]); first | done | rfl | (simp only [List.length_drop, List.length_take]; rfl)) ?_; (with_reducible refine (laws_heldIntSS.calls k _ _ l0_0 a1 t231 _ ?side1 ?side2 A3.out).mono ?_); (case side1 => repeat (first | exact (Kd.C_below HR0_0.out HB.out) | (with_reducible refine Kd.C_alloc ?_ _) | (with_reducible refine Kd.C_drewN ?_ _) | (with_reducible refine Kd.C_drew ?_))); (case side2 => exact HC0_0.out); rintro e w' ⟨rfl, ⟨nd, rfl⟩⟩; refine ⟨_, rfl, ?_⟩) | ((with_reducible refine gate_callee (f := 40) rfl ?_); refine goesL_ (some 14) rfl rfl Try.func40 (by kernel_rfl) rfl #[.slice A0_1 l0_1.length c0_1, .int .i64 t231] rfl (by (try simp only [List.map_toArray, List.map_cons, List.map_nil]); first | done | rfl | (simp only [List.length_drop, List.length_take]; rfl)) ?_; (with_reducible refine (laws_heldIntSS.calls k _ _ l0_1 t231 t232 _ ?side1 ?side2 A7.out).mono ?_); (case side1 => repeat (first | exact (Kd.C_below HR0_1.out (by repeat (first | (with_reducible first | exact HB.out | apply below_alloc | apply pw_below_drewN | apply below_drew1 | refine below_set ?_ GE230.out) | exact HB.out))) | (with_reducible refine Kd.C_alloc ?_ _) | (with_reducible refine Kd.C_drewN ?_ _) | (with_reducible refine Kd.C_drew ?_))); (case side2 => exact HC0_1.out); rintro e w' ⟨rfl, ⟨nd, rfl⟩⟩; refine ⟨_, rfl, ?_⟩))
      go_ret
      exact ⟨by first | rfl | (simp [errW_none, errW_some] <;> rfl) | (simp [*, errW_none, errW_some] <;> rfl), by repeat (first | (with_reducible first | exact HB.out | apply below_alloc | apply pw_below_drewN | apply below_drew1 | refine below_set ?_ GE230.out) | exact HB.out)⟩

/-! ### laws_FnExactPictureOf: function 6 -/
--@import Derived.Test.YtapnohcfnclleaaV2
open Go.Proofs.Ytapnohcfnclleaa.My
theorem S_set {α : Type} {d : Kd α} {e b : Nat} {P : Nat → Prop} {w : World} {v : Value} {xs : List α} (h : Kd.S d e w b P v xs) (p : Addr) (u : Value) (hp : ∀ k, P k → k ≠ p.block) : Kd.S d e (w.setCell p u) b P v xs :=
  Kd.S_kept h (show Kept w (w.setCell p u) (fun k => k = p.block) from ⟨by rw [World.size_setCell]; exact Nat.le_refl _, fun k _ hn => Below.heap_setCell w p u k hn⟩) hp
theorem own_set {α : Type} {d : Kd α} {e b lo hi : Nat} {w : World} {v : Value} {xs : List α} (h : Own d e w b lo hi v xs) (p : Addr) (u : Value) (hp : ∀ k, lo ≤ k ∧ k < hi → k ≠ p.block) : Own d e (w.setCell p u) b lo hi v xs :=
  h.kept (P := fun k => k = p.block) ⟨by rw [World.size_setCell]; exact Nat.le_refl _, fun k _ hn => Below.heap_setCell w p u k hn⟩ hp
theorem ownR_set {α : Type} {d : Kd α} {e b lo hi : Nat} {w : World} {v : Value} {xs : List α} (h : OwnR d e w b lo hi v xs) (p : Addr) (u : Value) (hp : ∀ k, lo ≤ k ∧ k < hi → k ≠ p.block) : OwnR d e (w.setCell p u) b lo hi v xs :=
  h.kept (P := fun k => k = p.block) ⟨by rw [World.size_setCell]; exact Nat.le_refl _, fun k _ hn => Below.heap_setCell w p u k hn⟩ hp
def laws_FnExactPictureOf.f (k : Nat) (l0 : List (List Bool)) : Option Bool := (laws_szBoolSS.f k l0 1048576).bind fun left => (if left < 0 then some true else ((laws_toBoolSS.f k l0).bind fun x => ((spec_PictureOf.f k x).bind fun wf => ((impl_PictureOf.f k x).bind fun g => ((laws_eqPicture.f k g.1 g.2.1 wf.1 wf.2.1).bind fun e1 => (if e1 = true then (if g.2.2 = wf.2.2 then ((laws_eqBoolSS.f k x x).bind fun e2 => (if e2 = true then ((laws_markBoolSS.f k x 1).bind fun kx => (if 0 ≤ kx.1 then ((laws_markPicture.f k g.1 g.2.1 1).bind fun kg => (if 0 ≤ kg.1 then ((laws_heldPicture.f k kg.2.1 kg.2.2 1).bind fun q => (if q = kg.1 then some true else none)) else none)) else none)) else none)) else none) else none))))))
theorem laws_FnExactPictureOf.mono : ∀ a0 k, LeO (laws_FnExactPictureOf.f k a0) (laws_FnExactPictureOf.f (k + 1) a0) := by
  intro a0 k
  unfold laws_FnExactPictureOf.f
  repeat' first
      | (with_reducible exact laws_szBoolSS.mono _ _ _)
      | (with_reducible exact laws_toBoolSS.mono _ _)
      | (with_reducible exact spec_PictureOf.mono _ _)
      | (with_reducible exact impl_PictureOf.mono _ _)
      | (with_reducible exact laws_eqBoolSS.mono _ _ _)
      | (with_reducible exact laws_eqPicture.mono _ _ _ _ _)
      | (with_reducible exact laws_markPicture.mono _ _ _ _)
      | (with_reducible exact laws_markBoolSS.mono _ _ _)
      | (with_reducible exact laws_heldPicture.mono _ _ _ _)
      | (with_reducible exact LeO.refl _)
      | (with_reducible exact LeO.none _)
      | (with_reducible refine LeO.ite ?_ ?_)
      | (with_reducible refine LeO.bind ?_ (fun _ => ?_))
      | exact laws_szBoolSS.mono _ _ _
      | exact laws_toBoolSS.mono _ _
      | exact spec_PictureOf.mono _ _
      | exact impl_PictureOf.mono _ _
      | exact laws_eqBoolSS.mono _ _ _
      | exact laws_eqPicture.mono _ _ _ _ _
      | exact laws_markPicture.mono _ _ _ _
      | exact laws_markBoolSS.mono _ _ _
      | exact laws_heldPicture.mono _ _ _ _
      | exact LeO.none _
      | refine LeO.ite ?_ ?_
      | refine LeO.bind ?_ (fun _ => ?_)
set_option maxHeartbeats 8000000 in
set_option maxRecDepth 100000 in
theorem laws_FnExactPictureOf.calls (k : Nat) (A0 : Option Addr) (c0 : Nat) (l0 : List (List Bool)) (r : Bool) (w : World) (hr0 : Kd.C (Kd.slice 4 Kd.bool) w A0 l0.length l0) (hc0 : l0.length ≤ c0) (h : laws_FnExactPictureOf.f k l0 = some r) :
    Calls Try.prog 6 #[.slice A0 l0.length c0] w fun e w' => e = .returned (.bool r) ∧ Below w.heap.size w w' := by
  have hu25 := Try.underlying25
  have HR0 := Aside0.mk hr0
  have HB := Aside0.mk (Below.refl w.heap.size w)
  clear hr0
  unfold laws_FnExactPictureOf.f at h
  obtain ⟨left, hleft, h⟩ := Option.bind_eq_some_iff.mp h
  have HZ := Aside0.mk hleft
  clear hleft
  by_cases c1 : left < 0
  · rw [if_pos c1] at h
    obtain rfl := Option.some.inj h
    have b1 : decide (left < 0) = true := decide_eq_true c1
    clear h c1
    go_enter Try.func6, Try.ntmps6
    go_wp2_with (first | ((with_reducible refine gate_callee (f := 27) rfl ?_); refine goesL_ (some 16) rfl rfl Try.func27 (by kernel_rfl) rfl #[.slice A0 l0.length c0, .int .i64 1048576] rfl (by (try simp only [List.map_toArray, List.map_cons, List.map_nil]); first | done | rfl) ?_; (with_reducible refine (laws_szBoolSS.calls k A0 c0 l0 1048576 left _ (Kd.C_below HR0.out HB.out) hc0 HZ.out).mono ?_); rintro e wv1 ⟨rfl, hd⟩; refine ⟨_, rfl, ?_⟩; have hb := drawn_below hd; have n0_ := Aside0.mk (below_step HB.out hb); (try clear HB); have HB := n0_; clear n0_; (try clear hb); (try clear hd)))
    go_ret
    exact ⟨rfl, HB.out⟩
  · rw [if_neg c1] at h
    have b1 : decide (left < 0) = false := decide_eq_false c1
    clear c1
    obtain ⟨x, hx, h⟩ := Option.bind_eq_some_iff.mp h
    obtain ⟨⟨wa, wb, ok2⟩, hw, h⟩ := Option.bind_eq_some_iff.mp h
    obtain ⟨⟨ga, gb, ok⟩, hg, h⟩ := Option.bind_eq_some_iff.mp h
    dsimp only at hw hg h
    obtain ⟨e1, he1, h⟩ := Option.bind_eq_some_iff.mp h
    by_cases c2 : e1 = true
    case neg => rw [if_neg c2] at h; exact absurd h (by simp)
    rw [if_pos c2] at h
    subst c2
    by_cases c2b : ok = ok2
    case neg => rw [if_neg c2b] at h; exact absurd h (by simp)
    subst c2b
    rw [if_pos rfl] at h
    obtain ⟨e2, he2, h⟩ := Option.bind_eq_some_iff.mp h
    by_cases c3 : e2 = true
    case neg => rw [if_neg c3] at h; exact absurd h (by simp)
    rw [if_pos c3] at h
    subst c3
    obtain ⟨kx, hkx, h⟩ := Option.bind_eq_some_iff.mp h
    by_cases c4 : 0 ≤ kx.1
    case neg => rw [if_neg c4] at h; exact absurd h (by simp)
    rw [if_pos c4] at h
    obtain ⟨kg, hkg, h⟩ := Option.bind_eq_some_iff.mp h
    by_cases c5 : 0 ≤ kg.1
    case neg => rw [if_neg c5] at h; exact absurd h (by simp)
    rw [if_pos c5] at h
    obtain ⟨q, hq, h⟩ := Option.bind_eq_some_iff.mp h
    by_cases c6 : q = kg.1
    case neg => rw [if_neg c6] at h; exact absurd h (by simp)
    rw [if_pos c6] at h
    subst c6
    obtain rfl := Option.some.inj h
    have d4 : decide (kx.1 < 0) = false := decide_eq_false (by omega)
    have d5 : decide (kg.1 < 0) = false := decide_eq_false (by omega)
    have HT := Aside0.mk hx
    have HS := Aside0.mk hw
    have HG_ := Aside0.mk hg
    have HE1 := Aside0.mk he1
    have HE2 := Aside0.mk he2
    have HM1 : Aside0 (laws_markBoolSS.f k x 1 = some (kx.1, kx.2)) := ⟨hkx⟩
    have HM2 : Aside0 (laws_markPicture.f k ga gb 1 = some (kg.1, kg.2.1, kg.2.2)) := ⟨hkg⟩
    have HQ := Aside0.mk hq
    clear hx hw hg he1 he2 hkx hkg hq h c4 c5
    go_enter Try.func6, Try.ntmps6
    go_wp2_with (first | ((with_reducible refine gate_callee (f := 27) rfl ?_); refine goesL_ (some 16) rfl rfl Try.func27 (by kernel_rfl) rfl #[.slice A0 l0.length c0, .int .i64 1048576] rfl (by (try simp only [List.map_toArray, List.map_cons, List.map_nil]); first | done | rfl) ?_; (with_reducible refine (laws_szBoolSS.calls k A0 c0 l0 1048576 left _ (Kd.C_below HR0.out HB.out) hc0 HZ.out).mono ?_); rintro e wv1 ⟨rfl, hd⟩; refine ⟨_, rfl, ?_⟩; have hb := drawn_below hd; have n0_ := Aside0.mk (below_step HB.out hb); (try clear HB); have HB := n0_; clear n0_; (try clear hb); (try clear hd)) | ((with_reducible refine gate_callee (f := 29) rfl ?_); refine goesL_ (some 21) rfl rfl Try.func29 (by kernel_rfl) rfl #[.slice A0 l0.length c0] rfl (by (try simp only [List.map_toArray, List.map_cons, List.map_nil]); first | done | rfl) ?_; (with_reducible refine (laws_toBoolSS.calls k A0 c0 l0 x _ (Kd.C_below HR0.out HB.out) hc0 HT.out).mono ?_); rintro e wv2 ⟨vP, rfl, ho, hb⟩; refine ⟨_, rfl, ?_⟩; obtain ⟨loP, hiP, ho1, hd1⟩ := own_new (b := w.heap.size) ho hb HB.out.size; have n0_ := Aside0.mk (below_step HB.out hb); (try clear HB); have HB := n0_; clear n0_; have HP := Aside0.mk ho1; clear ho hb ho1 hd1; (try clear cb4_0); (try clear cb7_0); (try clear cb12_0); (try clear cb4_1); (try clear cb7_1); (try clear cb12_1); obtain ⟨AP, cP, eP⟩ := Kd.S_slice HP.out.row; subst eP) | ((with_reducible refine gate_callee (f := 28) rfl ?_); refine goesL_ (some 22) rfl rfl Try.func28 (by kernel_rfl) rfl #[.slice AP x.length cP] rfl (by (try simp only [List.map_toArray, List.map_cons, List.map_nil]); first | done | rfl) ?_; (with_reducible refine (spec_PictureOf.calls k AP cP x wa wb ok _ HP.out.reads.2.2 HP.out.reads.2.1 HS.out).mono ?_); rintro e wv3 ⟨v0_, v1_, rfl, ho0, ho1, hb⟩; refine ⟨_, rfl, ?_⟩; obtain ⟨loW, hloW⟩ : ∃ n_ : Nat, n_ = wv2.heap.size := ⟨_, rfl⟩; obtain ⟨hiW, hhiW⟩ : ∃ n_ : Nat, n_ = wv3.heap.size := ⟨_, rfl⟩; have LW : Aside0 (loW ≤ hiW) := ⟨by rw [hloW, hhiW]; exact hb.size⟩; have hbs := HB.out.size; have n0_ := Aside0.mk (below_step HB.out hb); (try clear HB); have HB := n0_; clear n0_; have HW0 : Aside0 (OwnR (Kd.slice 3 (Kd.int .i64)) 36 wv3 w.heap.size loW hiW v0_ wa) := ⟨by rw [hloW, hhiW]; exact ownR_mk (Kd.R_lower (Kd.R_mono (Kd.R_bound ho0) (fun k_ hk_ => ⟨hk_.2.1, hk_.2.2.1⟩)) hbs) (Nat.le_refl _)⟩; have HW1 : Aside0 (OwnR (Kd.slice 3 (Kd.int .i64)) 36 wv3 w.heap.size loW hiW v1_ wb) := ⟨by rw [hloW, hhiW]; exact ownR_mk (Kd.R_lower (Kd.R_mono (Kd.R_bound ho1) (fun k_ hk_ => ⟨hk_.2.1, hk_.2.2.1⟩)) hbs) (Nat.le_refl _)⟩; clear ho0 ho1 hb hbs hloW hhiW; (try clear cb4_0); (try clear cb7_0); (try clear cb12_0); (try clear cb4_1); (try clear cb7_1); (try clear cb12_1); obtain ⟨AW0, cW0, eW0⟩ := Kd.R_slice HW0.out.row; subst eW0; obtain ⟨AW1, cW1, eW1⟩ := Kd.R_slice HW1.out.row; subst eW1) | ((with_reducible refine gate_dst (N := 4) rfl ?_); refine box_event ?hg (N := 4) ?hd (cs := #[.slice none 0 0, .slice none 0 0]) (t := 25) ?hr ?_; (case hd => rfl); (case hg => rfl); (case hr => first | (go_simp; done) | (go_simp; rfl)); intro b4 hg wxb4 hbox hb; have GEb4 : Aside0 (w.heap.size ≤ b4) := ⟨by rw [hg]; exact HB.out.size⟩; have Tb4W0 : Aside0 (hiW ≤ b4) := ⟨by rw [hg]; exact HW0.out.top⟩; have Tb4W1 : Aside0 (hiW ≤ b4) := ⟨by rw [hg]; exact HW1.out.top⟩; have HGM : Aside0 True := ⟨trivial⟩; have n0_ := Aside0.mk (below_step HB.out hb); have n1_ := Aside0.mk (HW0.out.below hb); have n2_ := Aside0.mk (HW1.out.below hb); (try clear HB); (try clear HW0); (try clear HW1); have HB := n0_; have HW0 := n1_; have HW1 := n2_; clear n0_ n1_ n2_; have Hb4 := Aside0.mk hbox; clear hb hbox hg HGM; (try clear cb4_0); (try clear cb7_0); (try clear cb12_0); (try clear cb4_1); (try clear cb7_1); (try clear cb12_1); have cz0 : wxb4.cell? ⟨b4, 0, none⟩ = some (.slice none 0 0) := blk_cell Hb4.out 0; have cz1 : wxb4.cell? ⟨b4, 1, none⟩ = some (.slice none 0 0) := blk_cell Hb4.out 1; have cf0 := blk_frozen Hb4.out 0; have cf1 := blk_frozen Hb4.out 1) | ((with_reducible refine gate_callee (f := 29) rfl ?_); obtain ⟨wyb4, hwx2⟩ : ∃ W_ : World, W_ = (wxb4.setCell ⟨b4, 0, none⟩ (.slice AW0 wa.length cW0)).setCell ⟨b4, 1, none⟩ (.slice AW1 wb.length cW1) := ⟨_, rfl⟩; (try rw [← hwx2]); have m0_ : Aside0 (Below w.heap.size w wyb4) := ⟨by rw [hwx2]; exact below_set (below_set HB.out GEb4.out) GEb4.out⟩; have m1_ : Aside0 (wyb4.heap[b4]? = some (Obj.cells #[(.slice AW0 wa.length cW0), (.slice AW1 wb.length cW1)] 25 (0, 0))) := ⟨by rw [hwx2]; exact blk_put (cs := #[(.slice AW0 wa.length cW0), .slice none 0 0]) (blk_put (cs := #[.slice none 0 0, .slice none 0 0]) Hb4.out 0 _ rfl) 1 _ rfl⟩; have mW0_ : Aside0 (OwnR (Kd.slice 3 (Kd.int .i64)) 36 wyb4 w.heap.size loW hiW (.slice AW0 wa.length cW0) wa) := ⟨by rw [hwx2]; exact ownR_set (ownR_set HW0.out _ _ (fun k_ hk_ => by have h1 := Tb4W0.out; have h3 : _ := hk_; show k_ ≠ b4; omega)) _ _ (fun k_ hk_ => by have h1 := Tb4W0.out; have h3 : _ := hk_; show k_ ≠ b4; omega)⟩; have mW1_ : Aside0 (OwnR (Kd.slice 3 (Kd.int .i64)) 36 wyb4 w.heap.size loW hiW (.slice AW1 wb.length cW1) wb) := ⟨by rw [hwx2]; exact ownR_set (ownR_set HW1.out _ _ (fun k_ hk_ => by have h1 := Tb4W1.out; have h3 : _ := hk_; show k_ ≠ b4; omega)) _ _ (fun k_ hk_ => by have h1 := Tb4W1.out; have h3 : _ := hk_; show k_ ≠ b4; omega)⟩; clear hwx2 cz0 cz1 cf0 cf1 HB Hb4 HW0 HW1; have HB := m0_; have Hb4 := m1_; have HW0 := mW0_; have HW1 := mW1_; clear m0_ m1_ mW0_ mW1_; refine goesL_ (some 26) rfl rfl Try.func29 (by kernel_rfl) rfl #[.slice A0 l0.length c0] rfl (by (try simp only [List.map_toArray, List.map_cons, List.map_nil]); first | done | rfl) ?_; (with_reducible refine (laws_toBoolSS.calls k A0 c0 l0 x _ (Kd.C_below HR0.out HB.out) hc0 HT.out).mono ?_); rintro e wv4 ⟨vX, rfl, ho, hb⟩; refine ⟨_, rfl, ?_⟩; obtain ⟨loX, hiX, ho1, hd1⟩ := own_new (b := w.heap.size) ho hb HB.out.size; have DW0X := Aside0.mk (hd1 _ HW0.out.top); have Fb4X : Aside0 (b4 < loX) := ⟨Nat.lt_of_lt_of_le (lt_of_some Hb4.out) (hd1 _ (Nat.le_refl _))⟩; have n0_ := Aside0.mk (below_step HB.out hb); have n1_ := Aside0.mk (blk_lower' Hb4.out hb); have n2_ := Aside0.mk (HW0.out.below hb); have n3_ := Aside0.mk (HW1.out.below hb); (try clear HB); (try clear Hb4); (try clear HW0); (try clear HW1); have HB := n0_; have Hb4 := n1_; have HW0 := n2_; have HW1 := n3_; clear n0_ n1_ n2_ n3_; have HX := Aside0.mk ho1; clear ho hb ho1 hd1; (try clear cb4_0); (try clear cb7_0); (try clear cb12_0); (try clear cb4_1); (try clear cb7_1); (try clear cb12_1); obtain ⟨AX, cX, eX⟩ := Kd.S_slice HX.out.row; subst eX; have cb4_0 : wv4.cell? ⟨b4, 0, none⟩ = some (.slice AW0 wa.length cW0) := blk_cell Hb4.out 0; have cb4_1 : wv4.cell? ⟨b4, 1, none⟩ = some (.slice AW1 wb.length cW1) := blk_cell Hb4.out 1) | ((with_reducible refine gate_callee (f := 30) rfl ?_); refine goesL_ (some 29) rfl rfl Try.func30 (by kernel_rfl) rfl #[.slice AX x.length cX] rfl (by (try simp only [List.map_toArray, List.map_cons, List.map_nil]); first | done | rfl) ?_; (with_reducible refine (impl_PictureOf.calls k AX cX x ga gb ok _ HX.out.reads.2.2 HX.out.reads.2.1 HG_.out).mono ?_); rintro e wv5 ⟨v0_, v1_, rfl, hap, hb⟩; refine ⟨_, rfl, ?_⟩; obtain ⟨PA_, PB_, ho0, ho1, hdj⟩ := hap; have hbs := HB.out.size; obtain ⟨loG, hloG⟩ : ∃ n_ : Nat, n_ = wv4.heap.size := ⟨_, rfl⟩; obtain ⟨hiG, hhiG⟩ : ∃ n_ : Nat, n_ = wv5.heap.size := ⟨_, rfl⟩; have DW0G : Aside0 (hiW ≤ loG) := ⟨by rw [hloG]; exact HW0.out.top⟩; have DXG : Aside0 (hiX ≤ loG) := ⟨by rw [hloG]; exact HX.out.top⟩; have Fb4G : Aside0 (b4 < loG) := ⟨by rw [hloG]; exact lt_of_some Hb4.out⟩; have n0_ := Aside0.mk (below_step HB.out hb); have n1_ := Aside0.mk (blk_lower' Hb4.out hb); have n2_ := Aside0.mk (HW0.out.below hb); have n3_ := Aside0.mk (HW1.out.below hb); have n4_ := Aside0.mk (HX.out.below hb); (try clear HB); (try clear Hb4); (try clear HW0); (try clear HW1); (try clear HX); have HB := n0_; have Hb4 := n1_; have HW0 := n2_; have HW1 := n3_; have HX := n4_; clear n0_ n1_ n2_ n3_ n4_; obtain ⟨PG0, hP0⟩ : ∃ P_ : Nat → Prop, P_ = fun k_ => PA_ k_ ∧ loG ≤ k_ ∧ k_ < hiG := ⟨_, rfl⟩; have HG0 : Aside0 (Kd.S (Kd.slice 3 (Kd.int .i64)) 36 wv5 w.heap.size PG0 v0_ ga) := ⟨by rw [hP0, hloG, hhiG]; exact Kd.S_lower (Kd.S_mono (Kd.S_bound ho0) (fun k_ hk_ => ⟨hk_.1, hk_.2.1, hk_.2.2.1⟩)) hbs⟩; obtain ⟨PG1, hP1⟩ : ∃ P_ : Nat → Prop, P_ = fun k_ => PB_ k_ ∧ loG ≤ k_ ∧ k_ < hiG := ⟨_, rfl⟩; have HG1 : Aside0 (Kd.S (Kd.slice 3 (Kd.int .i64)) 36 wv5 w.heap.size PG1 v1_ gb) := ⟨by rw [hP1, hloG, hhiG]; exact Kd.S_lower (Kd.S_mono (Kd.S_bound ho1) (fun k_ hk_ => ⟨hk_.1, hk_.2.1, hk_.2.2.1⟩)) hbs⟩; have HGT : Aside0 ((∀ k_, PG0 k_ → loG ≤ k_ ∧ k_ < hiG) ∧ (∀ k_, PG1 k_ → loG ≤ k_ ∧ k_ < hiG) ∧ (∀ k_, PG0 k_ → PG1 k_ → False) ∧ hiG ≤ wv5.heap.size) := ⟨⟨by rw [hP0]; exact fun _ h_ => h_.2, by rw [hP1]; exact fun _ h_ => h_.2, by rw [hP0, hP1]; exact fun k_ h_ h2_ => hdj k_ h_.1 h2_.1, by rw [hhiG]; exact Nat.le_refl _⟩⟩; clear ho0 ho1 hdj hb hbs hloG hhiG hP0 hP1; (try clear cb4_0); (try clear cb7_0); (try clear cb12_0); (try clear cb4_1); (try clear cb7_1); (try clear cb12_1); obtain ⟨AG0, cG0, eG0⟩ := Kd.S_slice HG0.out; subst eG0; obtain ⟨AG1, cG1, eG1⟩ := Kd.S_slice HG1.out; subst eG1) | ((with_reducible refine gate_dst (N := 7) rfl ?_); refine box_event ?hg (N := 7) ?hd (cs := #[.slice none 0 0, .slice none 0 0]) (t := 25) ?hr ?_; (case hd => rfl); (case hg => rfl); (case hr => first | (go_simp; done) | (go_simp; rfl)); intro b7 hg wxb7 hbox hb; have GEb7 : Aside0 (w.heap.size ≤ b7) := ⟨by rw [hg]; exact HB.out.size⟩; have Tb7W0 : Aside0 (hiW ≤ b7) := ⟨by rw [hg]; exact HW0.out.top⟩; have Tb7W1 : Aside0 (hiW ≤ b7) := ⟨by rw [hg]; exact HW1.out.top⟩; have Tb7X : Aside0 (hiX ≤ b7) := ⟨by rw [hg]; exact HX.out.top⟩; have Tb7G : Aside0 (hiG ≤ b7) := ⟨by rw [hg]; exact HGT.out.2.2.2⟩; have Nb4b7 : Aside0 (b4 < b7) := ⟨by rw [hg]; exact lt_of_some Hb4.out⟩; have HGM : Aside0 True := ⟨trivial⟩; have n0_ := Aside0.mk (below_step HB.out hb); have n1_ := Aside0.mk (blk_lower' Hb4.out hb); have n2_ := Aside0.mk (HW0.out.below hb); have n3_ := Aside0.mk (HW1.out.below hb); have n4_ := Aside0.mk (HX.out.below hb); have n5_ := Aside0.mk (Kd.S_below HG0.out hb); have n6_ := Aside0.mk (Kd.S_below HG1.out hb); (try clear HB); (try clear Hb4); (try clear HW0); (try clear HW1); (try clear HX); (try clear HG0); (try clear HG1); have HB := n0_; have Hb4 := n1_; have HW0 := n2_; have HW1 := n3_; have HX := n4_; have HG0 := n5_; have HG1 := n6_; clear n0_ n1_ n2_ n3_ n4_ n5_ n6_; have Hb7 := Aside0.mk hbox; clear hb hbox hg HGM; (try clear cb4_0); (try clear cb7_0); (try clear cb12_0); (try clear cb4_1); (try clear cb7_1); (try clear cb12_1); have cz0 : wxb7.cell? ⟨b7, 0, none⟩ = some (.slice none 0 0) := blk_cell Hb7.out 0; have cz1 : wxb7.cell? ⟨b7, 1, none⟩ = some (.slice none 0 0) := blk_cell Hb7.out 1; have cf0 := blk_frozen Hb7.out 0; have cf1 := blk_frozen Hb7.out 1; have hnb4b7 : b4 ≠ b7 := Nat.ne_of_lt Nb4b7.out; have hnb7b4 : b7 ≠ b4 := Ne.symm hnb4b7; have cb4_0 : wxb7.cell? ⟨b4, 0, none⟩ = some (.slice AW0 wa.length cW0) := blk_cell Hb4.out 0; have cb4_1 : wxb7.cell? ⟨b4, 1, none⟩ = some (.slice AW1 wb.length cW1) := blk_cell Hb4.out 1) | ((with_reducible refine gate_callee (f := 25) rfl ?_); obtain ⟨wyb7, hwx2⟩ : ∃ W_ : World, W_ = (wxb7.setCell ⟨b7, 0, none⟩ (.slice AG0 ga.length cG0)).setCell ⟨b7, 1, none⟩ (.slice AG1 gb.length cG1) := ⟨_, rfl⟩; (try rw [← hwx2]); have m0_ : Aside0 (Below w.heap.size w wyb7) := ⟨by rw [hwx2]; exact below_set (below_set HB.out GEb7.out) GEb7.out⟩; have m1_ : Aside0 (wyb7.heap[b7]? = some (Obj.cells #[(.slice AG0 ga.length cG0), (.slice AG1 gb.length cG1)] 25 (0, 0))) := ⟨by rw [hwx2]; exact blk_put (cs := #[(.slice AG0 ga.length cG0), .slice none 0 0]) (blk_put (cs := #[.slice none 0 0, .slice none 0 0]) Hb7.out 0 _ rfl) 1 _ rfl⟩; have mb4_ : Aside0 (wyb7.heap[b4]? = some (Obj.cells #[(.slice AW0 wa.length cW0), (.slice AW1 wb.length cW1)] 25 (0, 0))) := ⟨by rw [hwx2]; exact blk_far (blk_far Hb4.out hnb4b7 _) hnb4b7 _⟩; have mW0_ : Aside0 (OwnR (Kd.slice 3 (Kd.int .i64)) 36 wyb7 w.heap.size loW hiW (.slice AW0 wa.length cW0) wa) := ⟨by rw [hwx2]; exact ownR_set (ownR_set HW0.out _ _ (fun k_ hk_ => by have h1 := Tb7W0.out; have h3 : _ := hk_; show k_ ≠ b7; omega)) _ _ (fun k_ hk_ => by have h1 := Tb7W0.out; have h3 : _ := hk_; show k_ ≠ b7; omega)⟩; have mW1_ : Aside0 (OwnR (Kd.slice 3 (Kd.int .i64)) 36 wyb7 w.heap.size loW hiW (.slice AW1 wb.length cW1) wb) := ⟨by rw [hwx2]; exact ownR_set (ownR_set HW1.out _ _ (fun k_ hk_ => by have h1 := Tb7W1.out; have h3 : _ := hk_; show k_ ≠ b7; omega)) _ _ (fun k_ hk_ => by have h1 := Tb7W1.out; have h3 : _ := hk_; show k_ ≠ b7; omega)⟩; have mX_ : Aside0 (Own (Kd.slice 4 Kd.bool) 37 wyb7 w.heap.size loX hiX (.slice AX x.length cX) x) := ⟨by rw [hwx2]; exact own_set (own_set HX.out _ _ (fun k_ hk_ => by have h1 := Tb7X.out; have h3 : _ := hk_; show k_ ≠ b7; omega)) _ _ (fun k_ hk_ => by have h1 := Tb7X.out; have h3 : _ := hk_; show k_ ≠ b7; omega)⟩; have mG0_ : Aside0 (Kd.S (Kd.slice 3 (Kd.int .i64)) 36 wyb7 w.heap.size PG0 (.slice AG0 ga.length cG0) ga) := ⟨by rw [hwx2]; exact S_set (S_set HG0.out _ _ (fun k_ hk_ => by have h1 := Tb7G.out; have h2 := HGT.out.1 k_ hk_; show k_ ≠ b7; omega)) _ _ (fun k_ hk_ => by have h1 := Tb7G.out; have h2 := HGT.out.1 k_ hk_; show k_ ≠ b7; omega)⟩; have mG1_ : Aside0 (Kd.S (Kd.slice 3 (Kd.int .i64)) 36 wyb7 w.heap.size PG1 (.slice AG1 gb.length cG1) gb) := ⟨by rw [hwx2]; exact S_set (S_set HG1.out _ _ (fun k_ hk_ => by have h1 := Tb7G.out; have h2 := HGT.out.2.1 k_ hk_; show k_ ≠ b7; omega)) _ _ (fun k_ hk_ => by have h1 := Tb7G.out; have h2 := HGT.out.2.1 k_ hk_; show k_ ≠ b7; omega)⟩; clear hwx2 cz0 cz1 cf0 cf1 HB Hb7 Hb4 HW0 HW1 HX HG0 HG1; have HB := m0_; have Hb7 := m1_; have Hb4 := mb4_; have HW0 := mW0_; have HW1 := mW1_; have HX := mX_; have HG0 := mG0_; have HG1 := mG1_; clear m0_ m1_ mb4_ mW0_ mW1_ mX_ mG0_ mG1_; refine goesL_ (some 34) rfl rfl Try.func25 (by kernel_rfl) rfl #[.agg #[.slice AG0 ga.length cG0, .slice AG1 gb.length cG1], .agg #[.slice AW0 wa.length cW0, .slice AW1 wb.length cW1]] rfl (by (try simp only [List.map_toArray, List.map_cons, List.map_nil]); first | done | rfl) ?_; (with_reducible refine (laws_eqPicture.calls k AG0 cG0 ga AG1 cG1 gb AW0 cW0 wa AW1 cW1 wb true _ (Kd.S_reads' HG0.out).2.2 (Kd.S_reads' HG0.out).2.1 (Kd.S_reads' HG1.out).2.2 (Kd.S_reads' HG1.out).2.1 HW0.out.reads.2.2 HW0.out.reads.2.1 HW1.out.reads.2.2 HW1.out.reads.2.1 HE1.out).mono ?_); rintro e wv6 ⟨rfl, hb⟩; refine ⟨_, rfl, ?_⟩; have n0_ := Aside0.mk (below_step HB.out hb); have n1_ := Aside0.mk (blk_lower' Hb4.out hb); have n2_ := Aside0.mk (blk_lower' Hb7.out hb); have n3_ := Aside0.mk (HW0.out.below hb); have n4_ := Aside0.mk (HW1.out.below hb); have n5_ := Aside0.mk (HX.out.below hb); have n6_ := Aside0.mk (Kd.S_below HG0.out hb); have n7_ := Aside0.mk (Kd.S_below HG1.out hb); (try clear HB); (try clear Hb4); (try clear Hb7); (try clear HW0); (try clear HW1); (try clear HX); (try clear HG0); (try clear HG1); have HB := n0_; have Hb4 := n1_; have Hb7 := n2_; have HW0 := n3_; have HW1 := n4_; have HX := n5_; have HG0 := n6_; have HG1 := n7_; clear n0_ n1_ n2_ n3_ n4_ n5_ n6_ n7_; (try clear hb); (try clear cb4_0); (try clear cb7_0); (try clear cb12_0); (try clear cb4_1); (try clear cb7_1); (try clear cb12_1); have cb4_0 : wv6.cell? ⟨b4, 0, none⟩ = some (.slice AW0 wa.length cW0) := blk_cell Hb4.out 0; have cb4_1 : wv6.cell? ⟨b4, 1, none⟩ = some (.slice AW1 wb.length cW1) := blk_cell Hb4.out 1; have cb7_0 : wv6.cell? ⟨b7, 0, none⟩ = some (.slice AG0 ga.length cG0) := blk_cell Hb7.out 0; have cb7_1 : wv6.cell? ⟨b7, 1, none⟩ = some (.slice AG1 gb.length cG1) := blk_cell Hb7.out 1) | ((with_reducible refine gate_callee (f := 29) rfl ?_); refine goesL_ (some 43) rfl rfl Try.func29 (by kernel_rfl) rfl #[.slice A0 l0.length c0] rfl (by (try simp only [List.map_toArray, List.map_cons, List.map_nil]); first | done | rfl) ?_; (with_reducible refine (laws_toBoolSS.calls k A0 c0 l0 x _ (Kd.C_below HR0.out HB.out) hc0 HT.out).mono ?_); rintro e wv7 ⟨vY, rfl, ho, hb⟩; refine ⟨_, rfl, ?_⟩; obtain ⟨loY, hiY, ho1, hd1⟩ := own_new (b := w.heap.size) ho hb HB.out.size; have Fb4Y : Aside0 (b4 < loY) := ⟨Nat.lt_of_lt_of_le (lt_of_some Hb4.out) (hd1 _ (Nat.le_refl _))⟩; have Fb7Y : Aside0 (b7 < loY) := ⟨Nat.lt_of_lt_of_le (lt_of_some Hb7.out) (hd1 _ (Nat.le_refl _))⟩; have n0_ := Aside0.mk (below_step HB.out hb); have n1_ := Aside0.mk (blk_lower' Hb4.out hb); have n2_ := Aside0.mk (blk_lower' Hb7.out hb); have n3_ := Aside0.mk (HW0.out.below hb); have n4_ := Aside0.mk (HW1.out.below hb); have n5_ := Aside0.mk (HX.out.below hb); have n6_ := Aside0.mk (Kd.S_below HG0.out hb); have n7_ := Aside0.mk (Kd.S_below HG1.out hb); (try clear HB); (try clear Hb4); (try clear Hb7); (try clear HW0); (try clear HW1); (try clear HX); (try clear HG0); (try clear HG1); have HB := n0_; have Hb4 := n1_; have Hb7 := n2_; have HW0 := n3_; have HW1 := n4_; have HX := n5_; have HG0 := n6_; have HG1 := n7_; clear n0_ n1_ n2_ n3_ n4_ n5_ n6_ n7_; have HY := Aside0.mk ho1; clear ho hb ho1 hd1; (try clear cb4_0); (try clear cb7_0); (try clear cb12_0); (try clear cb4_1); (try clear cb7_1); (try clear cb12_1); obtain ⟨AY, cY, eY⟩ := Kd.S_slice HY.out.row; subst eY; have cb4_0 : wv7.cell? ⟨b4, 0, none⟩ = some (.slice AW0 wa.length cW0) := blk_cell Hb4.out 0; have cb4_1 : wv7.cell? ⟨b4, 1, none⟩ = some (.slice AW1 wb.length cW1) := blk_cell Hb4.out 1; have cb7_0 : wv7.cell? ⟨b7, 0, none⟩ = some (.slice AG0 ga.length cG0) := blk_cell Hb7.out 0; have cb7_1 : wv7.cell? ⟨b7, 1, none⟩ = some (.slice AG1 gb.length cG1) := blk_cell Hb7.out 1) | ((with_reducible refine gate_callee (f := 31) rfl ?_); refine goesL_ (some 44) rfl rfl Try.func31 (by kernel_rfl) rfl #[.slice AX x.length cX, .slice AY x.length cY] rfl (by (try simp only [List.map_toArray, List.map_cons, List.map_nil]); first | done | rfl) ?_; (with_reducible refine (laws_eqBoolSS.calls k AX cX x AY cY x true _ HX.out.reads.2.2 HX.out.reads.2.1 HY.out.reads.2.2 HY.out.reads.2.1 HE2.out).mono ?_); rintro e wv8 ⟨rfl, hd⟩; refine ⟨_, rfl, ?_⟩; have hb := drawn_below hd; have n0_ := Aside0.mk (below_step HB.out hb); have n1_ := Aside0.mk (blk_lower' Hb4.out hb); have n2_ := Aside0.mk (blk_lower' Hb7.out hb); have n3_ := Aside0.mk (HW0.out.below hb); have n4_ := Aside0.mk (HW1.out.below hb); have n5_ := Aside0.mk (HX.out.below hb); have n6_ := Aside0.mk (Kd.S_below HG0.out hb); have n7_ := Aside0.mk (Kd.S_below HG1.out hb); have n8_ := Aside0.mk (HY.out.below hb); (try clear HB); (try clear Hb4); (try clear Hb7); (try clear HW0); (try clear HW1); (try clear HX); (try clear HG0); (try clear HG1); (try clear HY); have HB := n0_; have Hb4 := n1_; have Hb7 := n2_; have HW0 := n3_; have HW1 := n4_; have HX := n5_; have HG0 := n6_; have HG1 := n7_; have HY := n8_; clear n0_ n1_ n2_ n3_ n4_ n5_ n6_ n7_ n8_; (try clear hb); (try clear hd); (try clear cb4_0); (try clear cb7_0); (try clear cb12_0); (try clear cb4_1); (try clear cb7_1); (try clear cb12_1); have cb4_0 : wv8.cell? ⟨b4, 0, none⟩ = some (.slice AW0 wa.length cW0) := blk_cell Hb4.out 0; have cb4_1 : wv8.cell? ⟨b4, 1, none⟩ = some (.slice AW1 wb.length cW1) := blk_cell Hb4.out 1; have cb7_0 : wv8.cell? ⟨b7, 0, none⟩ = some (.slice AG0 ga.length cG0) := blk_cell Hb7.out 0; have cb7_1 : wv8.cell? ⟨b7, 1, none⟩ = some (.slice AG1 gb.length cG1) := blk_cell Hb7.out 1) | ((with_reducible refine gate_callee (f := 32) rfl ?_); refine goesL_ (some 48) rfl rfl Try.func32 (by kernel_rfl) rfl #[.slice AX x.length cX, .int .i64 1] rfl (by (try simp only [List.map_toArray, List.map_cons, List.map_nil]); first | done | rfl) ?_; (with_reducible refine (laws_markBoolSS.calls k (fun k => loX ≤ k ∧ k < hiX) (.slice AX x.length cX) x 1 kx.1 kx.2 w _ HB.out HX.out.row HM1.out).mono ?_); rintro e wv9 ⟨rfl, hr, hb, hk⟩; refine ⟨_, rfl, ?_⟩; have n0_ := Aside0.mk (hb); have n1_ := Aside0.mk (kept_blk Hb4.out hk (fun hp_ => by have h1 := Fb4X.out; have h3 : loX ≤ b4 ∧ b4 < hiX := hp_; omega)); have n2_ := Aside0.mk (kept_blk Hb7.out hk (fun hp_ => by have h1 := Tb7X.out; have h3 : loX ≤ b7 ∧ b7 < hiX := hp_; omega)); have n3_ := Aside0.mk (HW0.out.kept hk (fun k_ hk_ hp_ => by have h1 := DW0X.out; have h3 : loX ≤ k_ ∧ k_ < hiX := hp_; omega)); have n4_ := Aside0.mk (HW1.out.kept hk (fun k_ hk_ hp_ => by have h1 := DW0X.out; have h3 : loX ≤ k_ ∧ k_ < hiX := hp_; omega)); have n5_ := Aside0.mk (Kd.S_kept HG0.out hk (fun k_ hk_ hp_ => by have h1 := DXG.out; have h2 := HGT.out.1 k_ hk_; have h3 : loX ≤ k_ ∧ k_ < hiX := hp_; omega)); have n6_ := Aside0.mk (Kd.S_kept HG1.out hk (fun k_ hk_ hp_ => by have h1 := DXG.out; have h2 := HGT.out.2.1 k_ hk_; have h3 : loX ≤ k_ ∧ k_ < hiX := hp_; omega)); (try clear HB); (try clear Hb4); (try clear Hb7); (try clear HW0); (try clear HW1); (try clear HG0); (try clear HG1); have HB := n0_; have Hb4 := n1_; have Hb7 := n2_; have HW0 := n3_; have HW1 := n4_; have HG0 := n5_; have HG1 := n6_; clear n0_ n1_ n2_ n3_ n4_ n5_ n6_; (try clear hb); (try clear hk); (try clear hr); (try clear HX); (try clear HY); (try clear cb4_0); (try clear cb7_0); (try clear cb12_0); (try clear cb4_1); (try clear cb7_1); (try clear cb12_1); have cb4_0 : wv9.cell? ⟨b4, 0, none⟩ = some (.slice AW0 wa.length cW0) := blk_cell Hb4.out 0; have cb4_1 : wv9.cell? ⟨b4, 1, none⟩ = some (.slice AW1 wb.length cW1) := blk_cell Hb4.out 1; have cb7_0 : wv9.cell? ⟨b7, 0, none⟩ = some (.slice AG0 ga.length cG0) := blk_cell Hb7.out 0; have cb7_1 : wv9.cell? ⟨b7, 1, none⟩ = some (.slice AG1 gb.length cG1) := blk_cell Hb7.out 1) | (go_at_call 25; (with_reducible refine (laws_eqPicture.calls k AG0 cG0 ga AG1 cG1 gb AW0 cW0 wa AW1 cW1 wb true _ (Kd.S_reads' HG0.out).2.2 (Kd.S_reads' HG0.out).2.1 (Kd.S_reads' HG1.out).2.2 (Kd.S_reads' HG1.out).2.1 HW0.out.reads.2.2 HW0.out.reads.2.1 HW1.out.reads.2.2 HW1.out.reads.2.1 HE1.out).mono ?_); rintro e wv10 ⟨rfl, hb⟩; have n0_ := Aside0.mk (below_step HB.out hb); have n1_ := Aside0.mk (blk_lower' Hb4.out hb); have n2_ := Aside0.mk (blk_lower' Hb7.out hb); have n3_ := Aside0.mk (HW0.out.below hb); have n4_ := Aside0.mk (HW1.out.below hb); have n5_ := Aside0.mk (Kd.S_below HG0.out hb); have n6_ := Aside0.mk (Kd.S_below HG1.out hb); (try clear HB); (try clear Hb4); (try clear Hb7); (try clear HW0); (try clear HW1); (try clear HG0); (try clear HG1); have HB := n0_; have Hb4 := n1_; have Hb7 := n2_; have HW0 := n3_; have HW1 := n4_; have HG0 := n5_; have HG1 := n6_; clear n0_ n1_ n2_ n3_ n4_ n5_ n6_; (try clear hb); (try clear cb4_0); (try clear cb7_0); (try clear cb12_0); (try clear cb4_1); (try clear cb7_1); (try clear cb12_1); have cb4_0 : wv10.cell? ⟨b4, 0, none⟩ = some (.slice AW0 wa.length cW0) := blk_cell Hb4.out 0; have cb4_1 : wv10.cell? ⟨b4, 1, none⟩ = some (.slice AW1 wb.length cW1) := blk_cell Hb4.out 1; have cb7_0 : wv10.cell? ⟨b7, 0, none⟩ = some (.slice AG0 ga.length cG0) := blk_cell Hb7.out 0; have cb7_1 : wv10.cell? ⟨b7, 1, none⟩ = some (.slice AG1 gb.length cG1) := blk_cell Hb7.out 1) | ((with_reducible refine gate_callee (f := 33) rfl ?_); refine goesL_ (some 64) rfl rfl Try.func33 (by kernel_rfl) rfl #[.agg #[.slice AG0 ga.length cG0, .slice AG1 gb.length cG1], .int .i64 1] rfl (by (try simp only [List.map_toArray, List.map_cons, List.map_nil]); first | done | rfl) ?_; (with_reducible refine (laws_markPicture.calls k PG0 PG1 AG0 AG1 ga.length gb.length cG0 cG1 ga gb 1 kg.1 kg.2.1 kg.2.2 w _ HB.out HG0.out HG1.out HGT.out.2.2.1 HM2.out).mono ?_); rintro e wv11 ⟨rfl, hb, hk, hs0, hs1⟩; refine ⟨_, rfl, ?_⟩; have n0_ := Aside0.mk (hb); have n1_ := Aside0.mk (kept_blk Hb4.out hk (fun hp_ => by have h1 := Fb4G.out; rcases hp_ with hp_ | hp_; have h2 := HGT.out.1 b4 hp_.1; omega; have h2 := HGT.out.2.1 b4 hp_.1; omega)); have n2_ := Aside0.mk (kept_blk Hb7.out hk (fun hp_ => by have h1 := Tb7G.out; rcases hp_ with hp_ | hp_; have h2 := HGT.out.1 b7 hp_.1; omega; have h2 := HGT.out.2.1 b7 hp_.1; omega)); have n3_ := Aside0.mk (HW0.out.kept hk (fun k_ hk_ hp_ => by have h1 := DW0G.out; rcases hp_ with hp_ | hp_; have h2 := HGT.out.1 k_ hp_.1; have h4 : _ := hk_; omega; have h2 := HGT.out.2.1 k_ hp_.1; have h4 : _ := hk_; omega)); have n4_ := Aside0.mk (HW1.out.kept hk (fun k_ hk_ hp_ => by have h1 := DW0G.out; rcases hp_ with hp_ | hp_; have h2 := HGT.out.1 k_ hp_.1; have h4 : _ := hk_; omega; have h2 := HGT.out.2.1 k_ hp_.1; have h4 : _ := hk_; omega)); have n5_ := Aside0.mk (Kd.S_mono hs0 (fun _ h_ => h_.1)); have n6_ := Aside0.mk (Kd.S_mono hs1 (fun _ h_ => h_.1)); (try clear HB); (try clear Hb4); (try clear Hb7); (try clear HW0); (try clear HW1); (try clear HG0); (try clear HG1); have HB := n0_; have Hb4 := n1_; have Hb7 := n2_; have HW0 := n3_; have HW1 := n4_; have HG0 := n5_; have HG1 := n6_; clear n0_ n1_ n2_ n3_ n4_ n5_ n6_; (try clear hb); (try clear hk); (try clear hs0); (try clear hs1); have LG0 := Aside0.mk (Kd.S_reads' HG0.out).1; have LG1 := Aside0.mk (Kd.S_reads' HG1.out).1; (try clear cb4_0); (try clear cb7_0); (try clear cb12_0); (try clear cb4_1); (try clear cb7_1); (try clear cb12_1); have cb4_0 : wv11.cell? ⟨b4, 0, none⟩ = some (.slice AW0 wa.length cW0) := blk_cell Hb4.out 0; have cb4_1 : wv11.cell? ⟨b4, 1, none⟩ = some (.slice AW1 wb.length cW1) := blk_cell Hb4.out 1; have cb7_0 : wv11.cell? ⟨b7, 0, none⟩ = some (.slice AG0 ga.length cG0) := blk_cell Hb7.out 0; have cb7_1 : wv11.cell? ⟨b7, 1, none⟩ = some (.slice AG1 gb.length cG1) := blk_cell Hb7.out 1) | ((with_reducible refine gate_callee (f := 34) rfl ?_); refine goesL_ (some 67) rfl rfl Try.func34 (by kernel_rfl) rfl #[.agg #[.slice AG0 kg.2.1.length cG0, .slice AG1 kg.2.2.length cG1], .int .i64 1] rfl (by (try simp only [List.map_toArray, List.map_cons, List.map_nil]); first | done | rfl | (rw [← LG0.out, ← LG1.out] <;> rfl)) ?_; (with_reducible refine (laws_heldPicture.calls k AG0 cG0 kg.2.1 AG1 cG1 kg.2.2 1 kg.1 _ (Kd.S_reads' HG0.out).2.2 (by have := Kd.S_reads' HG0.out; omega) (Kd.S_reads' HG1.out).2.2 (by have := Kd.S_reads' HG1.out; omega) HQ.out).mono ?_); rintro e wv12 ⟨rfl, hb⟩; refine ⟨_, rfl, ?_⟩; have n0_ := Aside0.mk (below_step HB.out hb); have n1_ := Aside0.mk (blk_lower' Hb4.out hb); have n2_ := Aside0.mk (blk_lower' Hb7.out hb); have n3_ := Aside0.mk (HW0.out.below hb); have n4_ := Aside0.mk (HW1.out.below hb); have n5_ := Aside0.mk (Kd.S_below HG0.out hb); have n6_ := Aside0.mk (Kd.S_below HG1.out hb); (try clear HB); (try clear Hb4); (try clear Hb7); (try clear HW0); (try clear HW1); (try clear HG0); (try clear HG1); have HB := n0_; have Hb4 := n1_; have Hb7 := n2_; have HW0 := n3_; have HW1 := n4_; have HG0 := n5_; have HG1 := n6_; clear n0_ n1_ n2_ n3_ n4_ n5_ n6_; (try clear hb); (try clear cb4_0); (try clear cb7_0); (try clear cb12_0); (try clear cb4_1); (try clear cb7_1); (try clear cb12_1); have cb4_0 : wv12.cell? ⟨b4, 0, none⟩ = some (.slice AW0 wa.length cW0) := blk_cell Hb4.out 0; have cb4_1 : wv12.cell? ⟨b4, 1, none⟩ = some (.slice AW1 wb.length cW1) := blk_cell Hb4.out 1; have cb7_0 : wv12.cell? ⟨b7, 0, none⟩ = some (.slice AG0 ga.length cG0) := blk_cell Hb7.out 0; have cb7_1 : wv12.cell? ⟨b7, 1, none⟩ = some (.slice AG1 gb.length cG1) := blk_cell Hb7.out 1) | ((with_reducible refine gate_callee (f := 29) rfl ?_); refine goesL_ (some 75) rfl rfl Try.func29 (by kernel_rfl) rfl #[.slice A0 l0.length c0] rfl (by (try simp only [List.map_toArray, List.map_cons, List.map_nil]); first | done | rfl) ?_; (with_reducible refine (laws_toBoolSS.calls k A0 c0 l0 x _ (Kd.C_below HR0.out HB.out) hc0 HT.out).mono ?_); rintro e wv13 ⟨vZ, rfl, ho, hb⟩; refine ⟨_, rfl, ?_⟩; obtain ⟨loZ, hiZ, ho1, hd1⟩ := own_new (b := w.heap.size) ho hb HB.out.size; have Fb4Z : Aside0 (b4 < loZ) := ⟨Nat.lt_of_lt_of_le (lt_of_some Hb4.out) (hd1 _ (Nat.le_refl _))⟩; have Fb7Z : Aside0 (b7 < loZ) := ⟨Nat.lt_of_lt_of_le (lt_of_some Hb7.out) (hd1 _ (Nat.le_refl _))⟩; have n0_ := Aside0.mk (below_step HB.out hb); have n1_ := Aside0.mk (blk_lower' Hb4.out hb); have n2_ := Aside0.mk (blk_lower' Hb7.out hb); have n3_ := Aside0.mk (HW0.out.below hb); have n4_ := Aside0.mk (HW1.out.below hb); have n5_ := Aside0.mk (Kd.S_below HG0.out hb); have n6_ := Aside0.mk (Kd.S_below HG1.out hb); (try clear HB); (try clear Hb4); (try clear Hb7); (try clear HW0); (try clear HW1); (try clear HG0); (try clear HG1); have HB := n0_; have Hb4 := n1_; have Hb7 := n2_; have HW0 := n3_; have HW1 := n4_; have HG0 := n5_; have HG1 := n6_; clear n0_ n1_ n2_ n3_ n4_ n5_ n6_; have HZ := Aside0.mk ho1; clear ho hb ho1 hd1; (try clear cb4_0); (try clear cb7_0); (try clear cb12_0); (try clear cb4_1); (try clear cb7_1); (try clear cb12_1); obtain ⟨AZ, cZ, eZ⟩ := Kd.S_slice HZ.out.row; subst eZ; have cb4_0 : wv13.cell? ⟨b4, 0, none⟩ = some (.slice AW0 wa.length cW0) := blk_cell Hb4.out 0; have cb4_1 : wv13.cell? ⟨b4, 1, none⟩ = some (.slice AW1 wb.length cW1) := blk_cell Hb4.out 1; have cb7_0 : wv13.cell? ⟨b7, 0, none⟩ = some (.slice AG0 ga.length cG0) := blk_cell Hb7.out 0; have cb7_1 : wv13.cell? ⟨b7, 1, none⟩ = some (.slice AG1 gb.length cG1) := blk_cell Hb7.out 1) | ((with_reducible refine gate_callee (f := 30) rfl ?_); refine goesL_ (some 76) rfl rfl Try.func30 (by kernel_rfl) rfl #[.slice AZ x.length cZ] rfl (by (try simp only [List.map_toArray, List.map_cons, List.map_nil]); first | done | rfl) ?_; (with_reducible refine (impl_PictureOf.calls k AZ cZ x ga gb ok _ HZ.out.reads.2.2 HZ.out.reads.2.1 HG_.out).mono ?_); rintro e wv14 ⟨v0_, v1_, rfl, hap, hb⟩; refine ⟨_, rfl, ?_⟩; obtain ⟨PA_, PB_, ho0, ho1, hdj⟩ := hap; have hbs := HB.out.size; obtain ⟨loH0, hiH0, hq0, hd0⟩ := own_new (b := w.heap.size) ho0 hb hbs; obtain ⟨loH1, hiH1, hq1, hd1⟩ := own_new (b := w.heap.size) ho1 hb hbs; have n0_ := Aside0.mk (below_step HB.out hb); have n1_ := Aside0.mk (blk_lower' Hb4.out hb); have n2_ := Aside0.mk (blk_lower' Hb7.out hb); have n3_ := Aside0.mk (HW0.out.below hb); have n4_ := Aside0.mk (HW1.out.below hb); have n5_ := Aside0.mk (Kd.S_below HG0.out hb); have n6_ := Aside0.mk (Kd.S_below HG1.out hb); (try clear HB); (try clear Hb4); (try clear Hb7); (try clear HW0); (try clear HW1); (try clear HG0); (try clear HG1); have HB := n0_; have Hb4 := n1_; have Hb7 := n2_; have HW0 := n3_; have HW1 := n4_; have HG0 := n5_; have HG1 := n6_; clear n0_ n1_ n2_ n3_ n4_ n5_ n6_; have HH0 := Aside0.mk hq0; have HH1 := Aside0.mk hq1; clear ho0 ho1 hdj hb hbs hq0 hq1 hd0 hd1; (try clear cb4_0); (try clear cb7_0); (try clear cb12_0); (try clear cb4_1); (try clear cb7_1); (try clear cb12_1); obtain ⟨AH0, cH0, eH0⟩ := Kd.S_slice HH0.out.row; subst eH0; obtain ⟨AH1, cH1, eH1⟩ := Kd.S_slice HH1.out.row; subst eH1) | ((with_reducible refine gate_dst (N := 12) rfl ?_); refine box_event ?hg (N := 12) ?hd (cs := #[.slice none 0 0, .slice none 0 0]) (t := 25) ?hr ?_; (case hd => rfl); (case hg => rfl); (case hr => first | (go_simp; done) | (go_simp; rfl)); intro b12 hg wxb12 hbox hb; have GEb12 : Aside0 (w.heap.size ≤ b12) := ⟨by rw [hg]; exact HB.out.size⟩; have Tb12W0 : Aside0 (hiW ≤ b12) := ⟨by rw [hg]; exact HW0.out.top⟩; have Tb12W1 : Aside0 (hiW ≤ b12) := ⟨by rw [hg]; exact HW1.out.top⟩; have Tb12H0 : Aside0 (hiH0 ≤ b12) := ⟨by rw [hg]; exact HH0.out.top⟩; have Tb12H1 : Aside0 (hiH1 ≤ b12) := ⟨by rw [hg]; exact HH1.out.top⟩; have Tb12G : Aside0 (hiG ≤ b12) := ⟨by rw [hg]; exact Nat.le_of_lt (Nat.lt_of_le_of_lt Tb7G.out (lt_of_some Hb7.out))⟩; have Nb4b12 : Aside0 (b4 < b12) := ⟨by rw [hg]; exact lt_of_some Hb4.out⟩; have Nb7b12 : Aside0 (b7 < b12) := ⟨by rw [hg]; exact lt_of_some Hb7.out⟩; have HGM : Aside0 True := ⟨trivial⟩; have n0_ := Aside0.mk (below_step HB.out hb); have n1_ := Aside0.mk (blk_lower' Hb4.out hb); have n2_ := Aside0.mk (blk_lower' Hb7.out hb); have n3_ := Aside0.mk (HW0.out.below hb); have n4_ := Aside0.mk (HW1.out.below hb); have n5_ := Aside0.mk (Kd.S_below HG0.out hb); have n6_ := Aside0.mk (Kd.S_below HG1.out hb); have n7_ := Aside0.mk (HH0.out.below hb); have n8_ := Aside0.mk (HH1.out.below hb); (try clear HB); (try clear Hb4); (try clear Hb7); (try clear HW0); (try clear HW1); (try clear HG0); (try clear HG1); (try clear HH0); (try clear HH1); have HB := n0_; have Hb4 := n1_; have Hb7 := n2_; have HW0 := n3_; have HW1 := n4_; have HG0 := n5_; have HG1 := n6_; have HH0 := n7_; have HH1 := n8_; clear n0_ n1_ n2_ n3_ n4_ n5_ n6_ n7_ n8_; have Hb12 := Aside0.mk hbox; clear hb hbox hg HGM; (try clear cb4_0); (try clear cb7_0); (try clear cb12_0); (try clear cb4_1); (try clear cb7_1); (try clear cb12_1); have cz0 : wxb12.cell? ⟨b12, 0, none⟩ = some (.slice none 0 0) := blk_cell Hb12.out 0; have cz1 : wxb12.cell? ⟨b12, 1, none⟩ = some (.slice none 0 0) := blk_cell Hb12.out 1; have cf0 := blk_frozen Hb12.out 0; have cf1 := blk_frozen Hb12.out 1; have hnb4b12 : b4 ≠ b12 := Nat.ne_of_lt Nb4b12.out; have hnb12b4 : b12 ≠ b4 := Ne.symm hnb4b12; have hnb7b12 : b7 ≠ b12 := Nat.ne_of_lt Nb7b12.out; have hnb12b7 : b12 ≠ b7 := Ne.symm hnb7b12; have cb4_0 : wxb12.cell? ⟨b4, 0, none⟩ = some (.slice AW0 wa.length cW0) := blk_cell Hb4.out 0; have cb4_1 : wxb12.cell? ⟨b4, 1, none⟩ = some (.slice AW1 wb.length cW1) := blk_cell Hb4.out 1; have cb7_0 : wxb12.cell? ⟨b7, 0, none⟩ = some (.slice AG0 ga.length cG0) := blk_cell Hb7.out 0; have cb7_1 : wxb12.cell? ⟨b7, 1, none⟩ = some (.slice AG1 gb.length cG1) := blk_cell Hb7.out 1) | ((with_reducible refine gate_callee (f := 25) rfl ?_); obtain ⟨wyb12, hwx2⟩ : ∃ W_ : World, W_ = (wxb12.setCell ⟨b12, 0, none⟩ (.slice AH0 ga.length cH0)).setCell ⟨b12, 1, none⟩ (.slice AH1 gb.length cH1) := ⟨_, rfl⟩; (try rw [← hwx2]); have m0_ : Aside0 (Below w.heap.size w wyb12) := ⟨by rw [hwx2]; exact below_set (below_set HB.out GEb12.out) GEb12.out⟩; have m1_ : Aside0 (wyb12.heap[b12]? = some (Obj.cells #[(.slice AH0 ga.length cH0), (.slice AH1 gb.length cH1)] 25 (0, 0))) := ⟨by rw [hwx2]; exact blk_put (cs := #[(.slice AH0 ga.length cH0), .slice none 0 0]) (blk_put (cs := #[.slice none 0 0, .slice none 0 0]) Hb12.out 0 _ rfl) 1 _ rfl⟩; have mb4_ : Aside0 (wyb12.heap[b4]? = some (Obj.cells #[(.slice AW0 wa.length cW0), (.slice AW1 wb.length cW1)] 25 (0, 0))) := ⟨by rw [hwx2]; exact blk_far (blk_far Hb4.out hnb4b12 _) hnb4b12 _⟩; have mb7_ : Aside0 (wyb12.heap[b7]? = some (Obj.cells #[(.slice AG0 ga.length cG0), (.slice AG1 gb.length cG1)] 25 (0, 0))) := ⟨by rw [hwx2]; exact blk_far (blk_far Hb7.out hnb7b12 _) hnb7b12 _⟩; have mW0_ : Aside0 (OwnR (Kd.slice 3 (Kd.int .i64)) 36 wyb12 w.heap.size loW hiW (.slice AW0 wa.length cW0) wa) := ⟨by rw [hwx2]; exact ownR_set (ownR_set HW0.out _ _ (fun k_ hk_ => by have h1 := Tb12W0.out; have h3 : _ := hk_; show k_ ≠ b12; omega)) _ _ (fun k_ hk_ => by have h1 := Tb12W0.out; have h3 : _ := hk_; show k_ ≠ b12; omega)⟩; have mW1_ : Aside0 (OwnR (Kd.slice 3 (Kd.int .i64)) 36 wyb12 w.heap.size loW hiW (.slice AW1 wb.length cW1) wb) := ⟨by rw [hwx2]; exact ownR_set (ownR_set HW1.out _ _ (fun k_ hk_ => by have h1 := Tb12W1.out; have h3 : _ := hk_; show k_ ≠ b12; omega)) _ _ (fun k_ hk_ => by have h1 := Tb12W1.out; have h3 : _ := hk_; show k_ ≠ b12; omega)⟩; have mG0_ : Aside0 (Kd.S (Kd.slice 3 (Kd.int .i64)) 36 wyb12 w.heap.size PG0 (.slice AG0 ga.length cG0) kg.2.1) := ⟨by rw [hwx2]; exact S_set (S_set HG0.out _ _ (fun k_ hk_ => by have h1 := Tb12G.out; have h2 := HGT.out.1 k_ hk_; show k_ ≠ b12; omega)) _ _ (fun k_ hk_ => by have h1 := Tb12G.out; have h2 := HGT.out.1 k_ hk_; show k_ ≠ b12; omega)⟩; have mG1_ : Aside0 (Kd.S (Kd.slice 3 (Kd.int .i64)) 36 wyb12 w.heap.size PG1 (.slice AG1 gb.length cG1) kg.2.2) := ⟨by rw [hwx2]; exact S_set (S_set HG1.out _ _ (fun k_ hk_ => by have h1 := Tb12G.out; have h2 := HGT.out.2.1 k_ hk_; show k_ ≠ b12; omega)) _ _ (fun k_ hk_ => by have h1 := Tb12G.out; have h2 := HGT.out.2.1 k_ hk_; show k_ ≠ b12; omega)⟩; have mH0_ : Aside0 (Own (Kd.slice 3 (Kd.int .i64)) 36 wyb12 w.heap.size loH0 hiH0 (.slice AH0 ga.length cH0) ga) := ⟨by rw [hwx2]; exact own_set (own_set HH0.out _ _ (fun k_ hk_ => by have h1 := Tb12H0.out; have h3 : _ := hk_; show k_ ≠ b12; omega)) _ _ (fun k_ hk_ => by have h1 := Tb12H0.out; have h3 : _ := hk_; show k_ ≠ b12; omega)⟩; have mH1_ : Aside0 (Own (Kd.slice 3 (Kd.int .i64)) 36 wyb12 w.heap.size loH1 hiH1 (.slice AH1 gb.length cH1) gb) := ⟨by rw [hwx2]; exact own_set (own_set HH1.out _ _ (fun k_ hk_ => by have h1 := Tb12H1.out; have h3 : _ := hk_; show k_ ≠ b12; omega)) _ _ (fun k_ hk_ => by have h1 := Tb12H1.out; have h3 : _ := hk_; show k_ ≠ b12; omega)⟩; clear hwx2 cz0 cz1 cf0 cf1 HB Hb12 Hb4 Hb7 HW0 HW1 HG0 HG1 HH0 HH1; have HB := m0_; have Hb12 := m1_; have Hb4 := mb4_; have Hb7 := mb7_; have HW0 := mW0_; have HW1 := mW1_; have HG0 := mG0_; have HG1 := mG1_; have HH0 := mH0_; have HH1 := mH1_; clear m0_ m1_ mb4_ mb7_ mW0_ mW1_ mG0_ mG1_ mH0_ mH1_; refine goesL_ (some 81) rfl rfl Try.func25 (by kernel_rfl) rfl #[.agg #[.slice AH0 ga.length cH0, .slice AH1 gb.length cH1], .agg #[.slice AW0 wa.length cW0, .slice AW1 wb.length cW1]] rfl (by (try simp only [List.map_toArray, List.map_cons, List.map_nil]); first | done | rfl) ?_; (with_reducible refine (laws_eqPicture.calls k AH0 cH0 ga AH1 cH1 gb AW0 cW0 wa AW1 cW1 wb true _ HH0.out.reads.2.2 HH0.out.reads.2.1 HH1.out.reads.2.2 HH1.out.reads.2.1 HW0.out.reads.2.2 HW0.out.reads.2.1 HW1.out.reads.2.2 HW1.out.reads.2.1 HE1.out).mono ?_); rintro e wv15 ⟨rfl, hb⟩; refine ⟨_, rfl, ?_⟩; have n0_ := Aside0.mk (below_step HB.out hb); have n1_ := Aside0.mk (blk_lower' Hb4.out hb); have n2_ := Aside0.mk (blk_lower' Hb7.out hb); have n3_ := Aside0.mk (blk_lower' Hb12.out hb); have n4_ := Aside0.mk (HW0.out.below hb); have n5_ := Aside0.mk (HW1.out.below hb); have n6_ := Aside0.mk (Kd.S_below HG0.out hb); have n7_ := Aside0.mk (Kd.S_below HG1.out hb); have n8_ := Aside0.mk (HH0.out.below hb); have n9_ := Aside0.mk (HH1.out.below hb); (try clear HB); (try clear Hb4); (try clear Hb7); (try clear Hb12); (try clear HW0); (try clear HW1); (try clear HG0); (try clear HG1); (try clear HH0); (try clear HH1); have HB := n0_; have Hb4 := n1_; have Hb7 := n2_; have Hb12 := n3_; have HW0 := n4_; have HW1 := n5_; have HG0 := n6_; have HG1 := n7_; have HH0 := n8_; have HH1 := n9_; clear n0_ n1_ n2_ n3_ n4_ n5_ n6_ n7_ n8_ n9_; (try clear hb); (try clear cb4_0); (try clear cb7_0); (try clear cb12_0); (try clear cb4_1); (try clear cb7_1); (try clear cb12_1); have cb4_0 : wv15.cell? ⟨b4, 0, none⟩ = some (.slice AW0 wa.length cW0) := blk_cell Hb4.out 0; have cb4_1 : wv15.cell? ⟨b4, 1, none⟩ = some (.slice AW1 wb.length cW1) := blk_cell Hb4.out 1; have cb7_0 : wv15.cell? ⟨b7, 0, none⟩ = some (.slice AG0 ga.length cG0) := blk_cell Hb7.out 0; have cb7_1 : wv15.cell? ⟨b7, 1, none⟩ = some (.slice AG1 gb.length cG1) := blk_cell Hb7.out 1; have cb12_0 : wv15.cell? ⟨b12, 0, none⟩ = some (.slice AH0 ga.length cH0) := blk_cell Hb12.out 0; have cb12_1 : wv15.cell? ⟨b12, 1, none⟩ = some (.slice AH1 gb.length cH1) := blk_cell Hb12.out 1) | ((with_reducible refine gate_callee (f := 34) rfl ?_); refine goesL_ (some 90) rfl rfl Try.func34 (by kernel_rfl) rfl #[.agg #[.slice AG0 kg.2.1.length cG0, .slice AG1 kg.2.2.length cG1], .int .i64 1] rfl (by (try simp only [List.map_toArray, List.map_cons, List.map_nil]); first | done | rfl | (rw [← LG0.out, ← LG1.out] <;> rfl)) ?_; (with_reducible refine (laws_heldPicture.calls k AG0 cG0 kg.2.1 AG1 cG1 kg.2.2 1 kg.1 _ (Kd.S_reads' HG0.out).2.2 (by have := Kd.S_reads' HG0.out; omega) (Kd.S_reads' HG1.out).2.2 (by have := Kd.S_reads' HG1.out; omega) HQ.out).mono ?_); rintro e wv16 ⟨rfl, hb⟩; refine ⟨_, rfl, ?_⟩; have n0_ := Aside0.mk (below_step HB.out hb); have n1_ := Aside0.mk (blk_lower' Hb4.out hb); have n2_ := Aside0.mk (blk_lower' Hb7.out hb); have n3_ := Aside0.mk (blk_lower' Hb12.out hb); have n4_ := Aside0.mk (HW0.out.below hb); have n5_ := Aside0.mk (HW1.out.below hb); have n6_ := Aside0.mk (Kd.S_below HG0.out hb); have n7_ := Aside0.mk (Kd.S_below HG1.out hb); have n8_ := Aside0.mk (HH0.out.below hb); have n9_ := Aside0.mk (HH1.out.below hb); (try clear HB); (try clear Hb4); (try clear Hb7); (try clear Hb12); (try clear HW0); (try clear HW1); (try clear HG0); (try clear HG1); (try clear HH0); (try clear HH1); have HB := n0_; have Hb4 := n1_; have Hb7 := n2_; have Hb12 := n3_; have HW0 := n4_; have HW1 := n5_; have HG0 := n6_; have HG1 := n7_; have HH0 := n8_; have HH1 := n9_; clear n0_ n1_ n2_ n3_ n4_ n5_ n6_ n7_ n8_ n9_; (try clear hb); (try clear cb4_0); (try clear cb7_0); (try clear cb12_0); (try clear cb4_1); (try clear cb7_1); (try clear cb12_1); have cb4_0 : wv16.cell? ⟨b4, 0, none⟩ = some (.slice AW0 wa.length cW0) := blk_cell Hb4.out 0; have cb4_1 : wv16.cell? ⟨b4, 1, none⟩ = some (.slice AW1 wb.length cW1) := blk_cell Hb4.out 1; have cb7_0 : wv16.cell? ⟨b7, 0, none⟩ = some (.slice AG0 ga.length cG0) := blk_cell Hb7.out 0; have cb7_1 : wv16.cell? ⟨b7, 1, none⟩ = some (.slice AG1 gb.length cG1) := blk_cell Hb7.out 1; have cb12_0 : wv16.cell? ⟨b12, 0, none⟩ = some (.slice AH0 ga.length cH0) := blk_cell Hb12.out 0; have cb12_1 : wv16.cell? ⟨b12, 1, none⟩ = some (.slice AH1 gb.length cH1) := blk_cell Hb12.out 1))
    go_ret
    exact ⟨rfl, HB.out⟩

end Go.Proofs.Ytapnohcfnclleaa.PFnExactPictureOf
