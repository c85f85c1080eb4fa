-- Made by a program of this session (the kit print, shortened, twice): the kit print itself does not give this text
import Derived.Test.YtapnohcfnclleaaV4
import Derived.Test.YtapnohcfnclleaaPFnPictureLinesx0
namespace Go.Proofs.Ytapnohcfnclleaa.PFnPictureLines
open Go.RowKit Go.Proofs.YtapnohcfnclleaaW.PrintWords Go.Proofs.YtapnohcfnclleaaW.PrintLast Go.Proofs.YtapnohcfnclleaaW.PrintMore
attribute [local go_sem] max2_int min2_int max_two min_two max_three min_three max_four min_four   -- for this text's walks alone
set_option linter.unusedVariables false
set_option linter.unusedSimpArgs false
/-! ### impl_KnownValid: function 77 -/
def impl_KnownValid.l0 : Nat → List Int → List Int → Int → Int → Option (Bool)
 | 0, _, _, _, _ => none
 | k + 1, x0, x5, x6, x7 => if x7 < x6 then (if 0 ≤ x7 then (if x7 < (x5.length : Int) then (if (rd x5 x7) < (-1) then (some false) else (if (rd x5 x7) > 1 then (some false) else (impl_KnownValid.l0 k x0 x5 x6 (wrap64 (x7 + 1))))) else (none)) else (none)) else (if (x0.length : Int) ≥ 1 then (some (decide ((x0.length : Int) ≤ 8))) else (some false))
def impl_KnownValid.f (k : Nat) (l0 : List Int) : Option (Bool) := impl_KnownValid.l0 k l0 l0 (l0.length : Int) 0
set_option maxHeartbeats 8000000 in
set_option maxRecDepth 100000 in
theorem impl_KnownValid.calls (k : Nat) (A0 : Option Addr) (c0 : Nat) (l0 : List Int) (r : Bool) (w : World) (hr0 : Kd.C (Kd.int .i64) w A0 l0.length l0) (hc0 : l0.length ≤ c0) (h : impl_KnownValid.f k l0 = some r) :
  Calls Try.prog 77 #[.slice A0 l0.length c0] w fun e w' => e = .returned (.bool r) ∧ Drawn0 w w' := by
 have HR0 := am hr0
 have HC0 := am hc0
 clear hr0 hc0
 have H : (impl_KnownValid.l0 k l0 l0 (l0.length : Int) 0) = some r := h
 clear h
 have H' := am H
 clear H
 go_enter Try.func77, Try.ntmps77
 go_wp2
 go_loopg [7] k (fun kq v7 w' => ∃ (x7_1 : Int), v7 = .int .i64 x7_1 ∧ Aside0 (impl_KnownValid.l0 kq l0 l0 (l0.length : Int) x7_1 = some r) ∧ Aside0 (kq ≤ k) ∧ Drawn0 w w')
 case atStart => exact ⟨(0), rfl, H', ⟨Nat.le_refl _⟩, by repeat (first | exact Drawn0.refl _ | apply Drawn0.step)⟩
 case round =>
  clear H'
  obtain ⟨x7_1, rfl, HA, HK1, ⟨m1, rfl⟩⟩ := hrel
  cases gk with
  | zero => exact absurd HA.out (by simp [impl_KnownValid.l0])
  | succ k1 =>
   have H := HA.out
   clear HA
   simp only [impl_KnownValid.l0] at H
   by_cases c2 : x7_1 < (l0.length : Int)
   ·rw [if_pos c2] at H
    have c2b0 : decide (x7_1 < (l0.length : Int)) = true := decide_eq_true c2
    clear c2
    have q_ := ifs H
    clear H
    obtain ⟨c3, H⟩ := q_
    have c3b0 : decide (0 ≤ x7_1) = true := decide_eq_true c3
    clear c3
    have q_ := ifs H
    clear H
    obtain ⟨c4, H⟩ := q_
    have c4b0 : decide (x7_1 < (l0.length : Int)) = true := decide_eq_true c4
    clear c4
    by_cases c5 : (rd l0 x7_1) < (-1)
    ·rw [if_pos c5] at H
     have c5b0 : decide ((rd l0 x7_1) < (-1)) = true := decide_eq_true c5
     clear c5
     obtain rfl := Option.some.inj H
     have p262 : 0 ≤ (x7_1 : Int) := da
     have q262 : x7_1 < (l0.length : Int) := da
     obtain ⟨ad262, e262, hx262_0⟩ := Kd.at_int HR0.out x7_1 p262 q262
     cases e262
     replace p262 := eq_true p262
     replace q262 := eq_true q262
     go_wp2
     go_ret
     exact ⟨by first | rfl | (simp; done) | (simp [*]; done), by repeat (first | exact Drawn0.refl _ | apply Drawn0.step)⟩
    ·rw [if_neg c5] at H
     have c5b0 : decide ((rd l0 x7_1) < (-1)) = false := decide_eq_false c5
     clear c5
     by_cases c6 : (rd l0 x7_1) > 1
     ·rw [if_pos c6] at H
      have c6b0 : decide (1 < (rd l0 x7_1)) = true := decide_eq_true c6
      clear c6
      obtain rfl := Option.some.inj H
      have p262 : 0 ≤ (x7_1 : Int) := da
      have q262 : x7_1 < (l0.length : Int) := da
      obtain ⟨ad262, e262, hx262_0⟩ := Kd.at_int HR0.out x7_1 p262 q262
      cases e262
      replace p262 := eq_true p262
      replace q262 := eq_true q262
      go_wp2
      go_ret
      exact ⟨by first | rfl | (simp; done) | (simp [*]; done), by repeat (first | exact Drawn0.refl _ | apply Drawn0.step)⟩
     ·rw [if_neg c6] at H
      have c6b0 : decide (1 < (rd l0 x7_1)) = false := decide_eq_false c6
      clear c6
      have H' := am H
      clear H
      have p262 : 0 ≤ (x7_1 : Int) := da
      have q262 : x7_1 < (l0.length : Int) := da
      obtain ⟨ad262, e262, hx262_0⟩ := Kd.at_int HR0.out x7_1 p262 q262
      cases e262
      replace p262 := eq_true p262
      replace q262 := eq_true q262
      go_wp2
      go_roundg k1
      case measure => have := HK1.out; omega
      case rel => exact ⟨(wrap64 (x7_1 + 1)), rfl, H', ⟨by have := HK1.out; omega⟩, by repeat (first | exact Drawn0.refl _ | apply Drawn0.step)⟩
   ·rw [if_neg c2] at H
    have c2b0 : decide (x7_1 < (l0.length : Int)) = false := decide_eq_false c2
    clear c2
    by_cases c7 : (l0.length : Int) ≥ 1
    ·rw [if_pos c7] at H
     have c7b0 : decide (1 ≤ (l0.length : Int)) = true := decide_eq_true c7
     have c7b1 : decide (1 ≤ l0.length) = true := decide_eq_true (by omega)
     clear c7
     obtain rfl := Option.some.inj H
     go_wp2
     go_ret
     exact ⟨by first | rfl | (simp; done) | (simp [*]; done), by repeat (first | exact Drawn0.refl _ | apply Drawn0.step)⟩
    ·rw [if_neg c7] at H
     have c7b0 : decide (1 ≤ (l0.length : Int)) = false := decide_eq_false c7
     have c7b1 : decide (1 ≤ l0.length) = false := decide_eq_false (by omega)
     clear c7
     obtain rfl := Option.some.inj H
     go_wp2
     go_ret
     exact ⟨by first | rfl | (simp; done) | (simp [*]; done), by repeat (first | exact Drawn0.refl _ | apply Drawn0.step)⟩
/-! ### slices_Equal_int_int: function 48 -/
def slices_Equal_int_int.l0 : Nat → List Int → List Int → Int → Int → Option (Bool)
 | 0, _, _, _, _ => none
 | k + 1, x0, x1, x12, x13 => if x13 < x12 then (if 0 ≤ x13 then (if x13 < (x0.length : Int) then (if x13 < (x1.length : Int) then (if (rd x0 x13) = (rd x1 x13) then (slices_Equal_int_int.l0 k x0 x1 x12 (wrap64 (x13 + 1))) else (some false)) else (none)) else (none)) else (none)) else (some true)
def slices_Equal_int_int.f (k : Nat) (l0 : List Int) (l1 : List Int) : Option (Bool) := if (l0.length : Int) = (l1.length : Int) then (slices_Equal_int_int.l0 k l0 l1 (l0.length : Int) 0) else (some false)
set_option maxHeartbeats 8000000 in
set_option maxRecDepth 100000 in
theorem slices_Equal_int_int.calls (k : Nat) (A0 : Option Addr) (c0 : Nat) (l0 : List Int) (A1 : Option Addr) (c1 : Nat) (l1 : List Int) (r : Bool) (w : World) (hr0 : Kd.C (Kd.int .i64) w A0 l0.length l0) (hc0 : l0.length ≤ c0) (hr1 : Kd.C (Kd.int .i64) w A1 l1.length l1) (hc1 : l1.length ≤ c1) (h : slices_Equal_int_int.f k l0 l1 = some r) :
  Calls Try.prog 48 #[.slice A0 l0.length c0, .slice A1 l1.length c1] w fun e w' => e = .returned (.bool r) ∧ Drawn0 w w' := by
 have HR0 := am hr0
 have HC0 := am hc0
 clear hr0 hc0
 have HR1 := am hr1
 have HC1 := am hc1
 clear hr1 hc1
 have H : (if (l0.length : Int) = (l1.length : Int) then (slices_Equal_int_int.l0 k l0 l1 (l0.length : Int) 0) else (some false)) = some r := h
 clear h
 by_cases c3 : (l0.length : Int) = (l1.length : Int)
 ·rw [if_pos c3] at H
  have c3b0 : ((l0.length : Int) == (l1.length : Int)) = true := beq_iff_eq.mpr c3
  have c3b1 : ((l0.length : Int) != (l1.length : Int)) = false := bne_eq_false_iff_eq.mpr c3
  have c3b2 : (l0.length == l1.length) = true := by first | simpa using c3 | (simp at c3 ⊢; omega)
  clear c3
  have H' := am H
  clear H
  go_enter Try.func48, Try.ntmps48
  go_wp2
  repeat (go_quiet (fail); try go_wp2)
  go_loopg [13] k (fun kq v13 w' => ∃ (x13_1 : Int), v13 = .int .i64 x13_1 ∧ Aside0 (slices_Equal_int_int.l0 kq l0 l1 (l0.length : Int) x13_1 = some r) ∧ Aside0 (kq ≤ k) ∧ Drawn0 w w')
  case atStart => exact ⟨(0), rfl, H', ⟨Nat.le_refl _⟩, by repeat (first | exact Drawn0.refl _ | apply Drawn0.step)⟩
  case round =>
   clear H'
   try clear c1
   try clear p2
   try clear c3
   try clear c3b0
   try clear c3b1
   try clear c3b2
   obtain ⟨x13_1, rfl, HA, HK1, ⟨m1, rfl⟩⟩ := hrel
   cases gk with
   | zero => exact absurd HA.out (by simp [slices_Equal_int_int.l0])
   | succ k1 =>
    have H := HA.out
    clear HA
    simp only [slices_Equal_int_int.l0] at H
    by_cases c4 : x13_1 < (l0.length : Int)
    ·rw [if_pos c4] at H
     have c4b0 : decide (x13_1 < (l0.length : Int)) = true := decide_eq_true c4
     clear c4
     have q_ := ifs H
     clear H
     obtain ⟨c5, H⟩ := q_
     have c5b0 : decide (0 ≤ x13_1) = true := decide_eq_true c5
     clear c5
     have q_ := ifs H
     clear H
     obtain ⟨c6, H⟩ := q_
     have c6b0 : decide (x13_1 < (l0.length : Int)) = true := decide_eq_true c6
     clear c6
     have q_ := ifs H
     clear H
     obtain ⟨c7, H⟩ := q_
     have c7b0 : decide (x13_1 < (l1.length : Int)) = true := decide_eq_true c7
     clear c7
     by_cases c8 : (rd l0 x13_1) = (rd l1 x13_1)
     ·rw [if_pos c8] at H
      have c8b0 : ((rd l0 x13_1) == (rd l1 x13_1)) = true := beq_iff_eq.mpr c8
      have c8b1 : ((rd l0 x13_1) != (rd l1 x13_1)) = false := bne_eq_false_iff_eq.mpr c8
      clear c8
      have H' := am H
      clear H
      have p263 : 0 ≤ (x13_1 : Int) := da
      have q263 : x13_1 < (l0.length : Int) := da
      obtain ⟨ad263, e263, hx263_0⟩ := Kd.at_int HR0.out x13_1 p263 q263
      cases e263
      replace p263 := eq_true p263
      replace q263 := eq_true q263
      have p264 : 0 ≤ (x13_1 : Int) := da
      have q264 : x13_1 < (l1.length : Int) := da
      obtain ⟨ad264, e264, hx264_0⟩ := Kd.at_int HR1.out x13_1 p264 q264
      cases e264
      replace p264 := eq_true p264
      replace q264 := eq_true q264
      go_wp2
      repeat (go_quiet (fail); try go_wp2)
      go_roundg k1
      case measure => have := HK1.out; omega
      case rel => exact ⟨(wrap64 (x13_1 + 1)), rfl, H', ⟨by have := HK1.out; omega⟩, by repeat (first | exact Drawn0.refl _ | apply Drawn0.step)⟩
     ·rw [if_neg c8] at H
      have c8b0 : ((rd l0 x13_1) == (rd l1 x13_1)) = false := beq_eq_false_iff_ne.mpr c8
      have c8b1 : ((rd l0 x13_1) != (rd l1 x13_1)) = true := bne_iff_ne.mpr c8
      obtain rfl := Option.some.inj H
      have p263 : 0 ≤ (x13_1 : Int) := da
      have q263 : x13_1 < (l0.length : Int) := da
      obtain ⟨ad263, e263, hx263_0⟩ := Kd.at_int HR0.out x13_1 p263 q263
      cases e263
      replace p263 := eq_true p263
      replace q263 := eq_true q263
      have p264 : 0 ≤ (x13_1 : Int) := da
      have q264 : x13_1 < (l1.length : Int) := da
      obtain ⟨ad264, e264, hx264_0⟩ := Kd.at_int HR1.out x13_1 p264 q264
      cases e264
      replace p264 := eq_true p264
      replace q264 := eq_true q264
      go_wp2
      repeat (go_quiet (fail); try go_wp2)
      go_ret
      exact ⟨by first | rfl | (simp; done) | (simp [*]; done), by repeat (first | exact Drawn0.refl _ | apply Drawn0.step)⟩
    ·rw [if_neg c4] at H
     have c4b0 : decide (x13_1 < (l0.length : Int)) = false := decide_eq_false c4
     clear c4
     obtain rfl := Option.some.inj H
     go_wp2
     repeat (go_quiet (fail); try go_wp2)
     go_ret
     exact ⟨by first | rfl | (simp; done) | (simp [*]; done), by repeat (first | exact Drawn0.refl _ | apply Drawn0.step)⟩
 ·rw [if_neg c3] at H
  have c3b0 : ((l0.length : Int) == (l1.length : Int)) = false := beq_eq_false_iff_ne.mpr c3
  have c3b1 : ((l0.length : Int) != (l1.length : Int)) = true := bne_iff_ne.mpr c3
  have c3b2 : (l0.length == l1.length) = false := by first | simpa using c3 | (simp at c3 ⊢; omega)
  obtain rfl := Option.some.inj H
  go_enter Try.func48, Try.ntmps48
  go_wp2
  repeat (go_quiet (fail); try go_wp2)
  go_ret
  exact ⟨by first | rfl | (simp; done) | (simp [*]; done), by repeat (first | exact Drawn0.refl _ | apply Drawn0.step)⟩
/-! ### impl_lineOf: function 56 -/
def impl_lineOf.l0 : Nat → Int → List Bool → Int → Int → Option (List Bool)
 | 0, _, _, _, _ => none
 | k + 1, x0, x5, x10, x11 => if x11 < x10 then (if 0 ≤ x11 then (if x11 < (x5.length : Int) then (impl_lineOf.l0 k x0 (x5.set (x11 : Int).toNat ((Go.bits .and .i64 (shr .i64 x0 x11) 1) == 1)) x10 (wrap64 (x11 + 1))) else (none)) else (none)) else (some x5)
def impl_lineOf.f (k : Nat) (a0 : Int) (a1 : Int) : Option (List Bool) := if 0 ≤ a1 then (if (a1 : Int).toNat ≤ 281474976710656 then ((some (List.replicate (a1 : Int).toNat false : List Bool)).bind fun y265 => (impl_lineOf.l0 k a0 y265 (y265.length : Int) 0)) else (none)) else (none)
set_option maxHeartbeats 8000000 in
set_option maxRecDepth 100000 in
theorem impl_lineOf.calls (k : Nat) (a0 : Int) (a1 : Int) (r : List Bool) (w : World) (h : impl_lineOf.f k a0 a1 = some r) :
  Calls Try.prog 56 #[.int .i64 a0, .int .i64 a1] w fun e w' => ∃ v0_ : Value, e = .returned (v0_) ∧ Kd.R Kd.bool 4 w' w.heap.size (fun _ => True) v0_ r ∧ Below w.heap.size w w' := by
 have HB := am (Below.refl w.heap.size w)
 have H : (if 0 ≤ a1 then (if (a1 : Int).toNat ≤ 281474976710656 then ((some (List.replicate (a1 : Int).toNat false : List Bool)).bind fun y265 => (impl_lineOf.l0 k a0 y265 (y265.length : Int) 0)) else (none)) else (none)) = some r := h
 clear h
 have q_ := ifs H
 clear H
 obtain ⟨c3, H⟩ := q_
 have c3b0 := eq_true c3
 have c3b1 : decide (0 ≤ a1) = true := decide_eq_true c3
 clear c3
 have q_ := ifs H
 clear H
 obtain ⟨c4, H⟩ := q_
 have c4b0 := eq_true c4
 have c4b1 : decide ((a1 : Int).toNat ≤ 281474976710656) = true := decide_eq_true c4
 clear c4
 obtain ⟨y265, hy265⟩ : ∃ y_ : List Bool, y_ = (List.replicate (a1 : Int).toNat false) := ⟨_, rfl⟩
 replace H : (impl_lineOf.l0 k a0 y265 (y265.length : Int) 0) = some r := by first | (rw [hy265]; with_reducible exact H) | (have H2_ := (Option.bind_some _ _).symm.trans H; rw [hy265]; with_reducible exact H2_) | (have H2_ := (Option.bind_some _ _).symm.trans H; with_reducible exact H2_) | with_reducible exact H | (rw [hy265]; exact H) | exact H
 have Ny265 := am hy265
 clear hy265
 have H' := am H
 clear H
 go_enter Try.func56, Try.ntmps56
 go_wp2_with (first | ((with_reducible refine gate_dst (N := 8) rfl ?_); refine Kd.R_make Kd.bool _ 4 rfl (N := 8) rfl 37 _ _ rfl a1 rfl rfl Try.underlying37 (.bool false) 1 info4 rfl (by decide) (by omega) false (ok := fun _ => True) (okp := fun _ => True) rfl (fun _ hk => hk) trivial (da) (Nat.le_trans (Nat.mul_le_mul_right _ (da : a1.toNat ≤ 281474976710656)) (by omega)) (Below.refl _ _) (Nat.le_refl _) ?_; intro v266 w5 ho6 hb hg_ hnew_; clear hg_ hnew_; (first | rw [← Ny265.out] at ho6 | (simp only [Int.reduceToNat] at ho6; rw [← Ny265.out] at ho6)); have n0_ := am (Kd.R_lower ho6 (below_size (bm HB))); have n1_ := am (below_step (bm HB) hb); clear HB; revert n0_ n1_; intro HO267 HB; clear hb ho6; obtain ⟨Ao7, co7, eo7⟩ := Kd.R_slice HO267.out; subst eo7))
 go_loopg [11] k (fun kq v11 w' => ∃ (x5_1 : List Bool) (x11_1 : Int), v11 = .int .i64 x11_1 ∧ Aside0 (impl_lineOf.l0 kq a0 x5_1 (y265.length : Int) x11_1 = some r) ∧ Aside0 (kq ≤ k) ∧ Aside0 (Kd.R Kd.bool 4 w' w.heap.size (fun _ => True) (.slice Ao7 y265.length co7) x5_1) ∧ Aside0 (Below w.heap.size w w'))
 case atStart => exact ⟨(y265), (0), rfl, H', ⟨Nat.le_refl _⟩, ⟨Kd.rv HO267.out⟩, ⟨bm HB⟩⟩
 case round =>
  clear H'
  try clear p2
  try clear c3
  try clear c3b0
  try clear c3b1
  try clear c4
  try clear c4b0
  try clear c4b1
  try clear c5
  obtain ⟨x5_1, x11_1, rfl, HA, HK1, HO_5, HB⟩ := hrel
  have hl5_1 := (Kd.R_reads' HO_5.out).1
  rw [hl5_1] at HO_5
  (try simp only [hl5_1])
  cases gk with
  | zero => exact absurd HA.out (by simp [impl_lineOf.l0])
  | succ k1 =>
   have H := HA.out
   clear HA
   simp only [impl_lineOf.l0] at H
   by_cases c8 : x11_1 < (y265.length : Int)
   ·rw [if_pos c8] at H
    have c8b0 : decide (x11_1 < (y265.length : Int)) = true := decide_eq_true c8
    (try (have c8b0_x5_1 : decide (x11_1 < (x5_1.length : Int)) = true := by rw [← hl5_1]; exact c8b0))
    clear c8
    have q_ := ifs H
    clear H
    obtain ⟨c9, H⟩ := q_
    have c9b0 := eq_true c9
    have c9b1 : decide (0 ≤ x11_1) = true := decide_eq_true c9
    clear c9
    obtain ⟨ji10, hji10⟩ : ∃ j_ : Int, (shr .i64 a0 x11_1) = j_ := ⟨_, rfl⟩
    replace H : (if x11_1 < (x5_1.length : Int) then (impl_lineOf.l0 k1 a0 (x5_1.set (x11_1 : Int).toNat ((Go.bits .and .i64 (ji10) 1) == 1)) (y265.length : Int) (wrap64 (x11_1 + 1))) else (none)) = some r := by first | (rw [hji10] at H; exact H) | (simp only [hji10] at H ⊢; exact H)
    have hji10_ : (a0 / 2 ^ min x11_1.toNat 64) = ji10 := hji10
    have hji10z : x11_1 ≤ 64 → (a0 / 2 ^ x11_1.toNat) = ji10 := shr_small hji10
    have q_ := ifs H
    clear H
    obtain ⟨c11, H⟩ := q_
    have c11b0 : decide (x11_1 < (x5_1.length : Int)) = true := decide_eq_true c11
    clear c11
    obtain ⟨y268, hy268⟩ : ∃ y_ : List Bool, y_ = (x5_1.set (x11_1 : Int).toNat ((Go.bits .and .i64 (ji10) 1) == 1)) := ⟨_, rfl⟩
    replace H : (impl_lineOf.l0 k1 a0 y268 (y265.length : Int) (wrap64 (x11_1 + 1))) = some r := by first | (rw [hy268]; with_reducible exact H) | (have H2_ := (Option.bind_some _ _).symm.trans H; rw [hy268]; with_reducible exact H2_) | (have H2_ := (Option.bind_some _ _).symm.trans H; with_reducible exact H2_) | with_reducible exact H | (rw [hy268]; exact H) | exact H
    have Ny268 := am hy268
    clear hy268
    have H' := am H
    clear H
    have p12 : 0 ≤ (x11_1 : Int) := da
    have q12 : (x11_1 : Int) < ((x5_1.length : Int) : Int) := da
    obtain ⟨go12, co12, eo12, gb12, gl12, cl12, HG12⟩ := Kd.R_form HO_5.out (by omega)
    (first | cases eo12 | (injection eo12 with ea_ en_ ec_; (first | subst ea_ | (injection ea_ with ea_; subst ea_)); subst ec_; clear en_))
    have GB12 := am gb12
    have GG12 := am HG12
    clear gb12 gl12 HG12
    obtain ⟨hx12_0, hf12_0⟩ := Kd.R_celln false HO_5.out (x11_1 : Int) p12 q12
    replace p12 := eq_true p12
    replace q12 := eq_true q12
    have HP13 := Kd.R_putg HO_5.out (x11_1 : Int) ((Go.bits .and .i64 (ji10) 1) == 1)
    go_wp2_with (first | ((with_reducible refine gate_store (t := 4) (p := 21) rfl ?_); refine store_event (t := 4) (p := 21) (v := ?vo_w14) (w1 := (wr.setCell ⟨go12, (x11_1 : Int).toNat, none⟩ (.bool ((Go.bits .and .i64 (ji10) 1) == 1)))) ?hg ?ho ?hn ?hr ?_; (case ho => rfl); (case hg => rfl); (case hn => rfl); (case hr => first | (go_simp; done) | (go_simp; rfl)); intro w14 hw; have hg : wr.grownBy w14 (some go12) := (by rw [hw]; exact HP13.2); have hp_ : Kd.R Kd.bool 4 w14 w.heap.size (fun _ => True) (.slice (some ⟨go12, 0, none⟩) x5_1.length co7) y268 := (by rw [hw, Ny268.out]; exact HP13.1); clear HP13; have n0_ := am (hp_); have n1_ := am ((by rw [hw]; exact below_set (HB.out) GB12.out : Below w.heap.size w w14)); clear HO_5 HB; revert n0_ n1_; intro HO_5 HB; clear hg hw hp_))
    (try simp only [← hl5_1])
    go_roundg k1
    case measure => have := HK1.out; omega
    case rel => exact ⟨(y268), (wrap64 (x11_1 + 1)), rfl, H', ⟨by have := HK1.out; omega⟩, ⟨by (try simp only [hl5_1]); (with_reducible repeat (first | apply Kd.R_alloc | apply Kd.R_drewN | apply Kd.R_drew)); exact HO_5.out⟩, ⟨bm HB⟩⟩
   ·rw [if_neg c8] at H
    have c8b0 : decide (x11_1 < (y265.length : Int)) = false := decide_eq_false c8
    (try (have c8b0_x5_1 : decide (x11_1 < (x5_1.length : Int)) = false := by rw [← hl5_1]; exact c8b0))
    clear c8
    obtain rfl := Option.some.inj H
    go_wp2
    go_ret
    exact ⟨_, rfl, by (with_reducible repeat (first | apply Kd.R_alloc | apply Kd.R_drewN | apply Kd.R_drew)); exact HO_5.out, bm HB⟩
/-! ### impl_ClueOf: function 65 -/
def impl_ClueOf.l0 : Nat → List Bool → List Int → List Bool → Int → Int → Option (List Int)
 | 0, _, _, _, _, _ => none
 | k + 1, x0, x3, x10, x11, x12 => if x12 < x11 then (if 0 ≤ x12 then (if x12 < (x10.length : Int) then (if rdOf false x10 x12 = true then (if x12 > 0 then (if 0 ≤ (wrap64 (x12 - 1)) then (if (wrap64 (x12 - 1)) < (x0.length : Int) then (if rdOf false x0 (wrap64 (x12 - 1)) = true then (if 0 ≤ (wrap64 ((x3.length : Int) - 1)) then (if (wrap64 ((x3.length : Int) - 1)) < (x3.length : Int) then (impl_ClueOf.l0 k x0 (x3.set ((wrap64 ((x3.length : Int) - 1)) : Int).toNat (wrap64 ((rd x3 (wrap64 ((x3.length : Int) - 1))) + 1))) x10 x11 (wrap64 (x12 + 1))) else (none)) else (none)) else (if x3.length < 17592186044416 then (impl_ClueOf.l0 k x0 (x3 ++ [1]) x10 x11 (wrap64 (x12 + 1))) else (none))) else (none)) else (none)) else (if x3.length < 17592186044416 then (impl_ClueOf.l0 k x0 (x3 ++ [1]) x10 x11 (wrap64 (x12 + 1))) else (none))) else (impl_ClueOf.l0 k x0 x3 x10 x11 (wrap64 (x12 + 1)))) else (none)) else (none)) else (some x3)
def impl_ClueOf.f (k : Nat) (l0 : List Bool) : Option (List Int) := if (l0.length : Int) > 8 then (some ([] : List Int)) else (impl_ClueOf.l0 k l0 (([] : List Int)) l0 (l0.length : Int) 0)
set_option maxHeartbeats 8000000 in
set_option maxRecDepth 100000 in
theorem impl_ClueOf.calls (k : Nat) (A0 : Option Addr) (c0 : Nat) (l0 : List Bool) (r : List Int) (w : World) (hr0 : Kd.C Kd.bool w A0 l0.length l0) (hc0 : l0.length ≤ c0) (h : impl_ClueOf.f k l0 = some r) :
  Calls Try.prog 65 #[.slice A0 l0.length c0] w fun e w' => ∃ v0_ : Value, e = .returned (v0_) ∧ Kd.R (Kd.int .i64) 3 w' w.heap.size (fun _ => True) v0_ r ∧ Below w.heap.size w w' := by
 have HR0 := am hr0
 have HC0 := am hc0
 clear hr0 hc0
 have HB := am (Below.refl w.heap.size w)
 have H : (if (l0.length : Int) > 8 then (some ([] : List Int)) else (impl_ClueOf.l0 k l0 (([] : List Int)) l0 (l0.length : Int) 0)) = some r := h
 clear h
 by_cases c2 : (l0.length : Int) > 8
 ·rw [if_pos c2] at H
  have c2b0 : decide (8 < (l0.length : Int)) = true := decide_eq_true c2
  have c2b1 : decide (8 < l0.length) = true := decide_eq_true (by omega)
  clear c2
  obtain rfl := Option.some.inj H
  go_enter Try.func65, Try.ntmps65
  go_wp2
  go_ret
  exact ⟨_, rfl, by first | exact Kd.R_nil _ _ _ _ _ | exact Kd.N_nil _ _ _ _ _ | exact Kd.V_nil _ _ _ _ _ | exact Kd.Q_nil _ _ _ _ _ | exact Kd.S_nil _ _ _ _ _, bm HB⟩
 ·rw [if_neg c2] at H
  have c2b0 : decide (8 < (l0.length : Int)) = false := decide_eq_false c2
  have c2b1 : decide (8 < l0.length) = false := decide_eq_false (by omega)
  clear c2
  obtain ⟨y269, hy269⟩ : ∃ y_ : List Int, y_ = (([] : List Int)) := ⟨_, rfl⟩
  replace H : (impl_ClueOf.l0 k l0 y269 l0 (l0.length : Int) 0) = some r := by first | (rw [hy269]; with_reducible exact H) | (have H2_ := (Option.bind_some _ _).symm.trans H; rw [hy269]; with_reducible exact H2_) | (have H2_ := (Option.bind_some _ _).symm.trans H; with_reducible exact H2_) | with_reducible exact H | (rw [hy269]; exact H) | exact H
  have Ny269 := am hy269
  clear hy269
  have H' := am H
  clear H
  go_enter Try.func65, Try.ntmps65
  go_wp2_with (first | ((with_reducible refine gate_dst (N := 9) rfl ?_); refine Kd.R_lit (Kd.int .i64) _ 3 ?hg (N := 9) ?hd (xs := ([] : List Int)) (inner := []) (ok := fun _ => True) (okp := fun _ => True) ?hr ?hp (fun _ hk => hk) trivial (Below.refl _ _) (Nat.le_refl _) (by simp) ?_; (case hd => rfl); (case hg => rfl); (case hr => first | (go_simp; done) | (go_simp; rfl)); (case hp => exact (Reps.none _ _)); intro v270 w3 ho4 hb hg_ hnew_; clear hg_ hnew_; (first | rw [← Ny269.out] at ho4 | (simp only [Int.reduceToNat] at ho4; rw [← Ny269.out] at ho4)); have n0_ := am (Kd.R_lower ho4 (below_size (bm HB))); have n1_ := am (below_step (bm HB) hb); clear HB; revert n0_ n1_; intro HO271 HB; clear hb ho4))
  go_loopg [3, 12] k (fun kq v3 v12 w' => ∃ (x3_1 : List Int) (x12_1 : Int), v12 = .int .i64 x12_1 ∧ Aside0 (impl_ClueOf.l0 kq l0 x3_1 l0 (l0.length : Int) x12_1 = some r) ∧ Aside0 (kq ≤ k) ∧ Aside0 (Kd.R (Kd.int .i64) 3 w' w.heap.size (fun _ => True) v3 x3_1) ∧ Aside0 (Below w.heap.size w w'))
  case atStart => exact ⟨(y269), (0), rfl, H', ⟨Nat.le_refl _⟩, ⟨Kd.rv HO271.out⟩, ⟨bm HB⟩⟩
  case round =>
   clear H'
   try clear c2
   try clear c2b0
   try clear c2b1
   try clear p2
   obtain ⟨x3_1, x12_1, rfl, HA, HK1, HO_3, HB⟩ := hrel
   cases gk with
   | zero => exact absurd HA.out (by simp [impl_ClueOf.l0])
   | succ k1 =>
    have H := HA.out
    clear HA
    simp only [impl_ClueOf.l0] at H
    by_cases c5 : x12_1 < (l0.length : Int)
    ·rw [if_pos c5] at H
     have c5b0 : decide (x12_1 < (l0.length : Int)) = true := decide_eq_true c5
     clear c5
     have q_ := ifs H
     clear H
     obtain ⟨c6, H⟩ := q_
     have c6b0 : decide (0 ≤ x12_1) = true := decide_eq_true c6
     clear c6
     have q_ := ifs H
     clear H
     obtain ⟨c7, H⟩ := q_
     have c7b0 : decide (x12_1 < (l0.length : Int)) = true := decide_eq_true c7
     clear c7
     obtain ⟨bq8, hbq8⟩ : ∃ b_ : Bool, b_ = (rdOf false l0 x12_1) := ⟨_, rfl⟩
     replace H : (if bq8 = true then (if x12_1 > 0 then (if 0 ≤ (wrap64 (x12_1 - 1)) then (if (wrap64 (x12_1 - 1)) < (l0.length : Int) then (if rdOf false l0 (wrap64 (x12_1 - 1)) = true then (if 0 ≤ (wrap64 ((x3_1.length : Int) - 1)) then (if (wrap64 ((x3_1.length : Int) - 1)) < (x3_1.length : Int) then (impl_ClueOf.l0 k1 l0 (x3_1.set ((wrap64 ((x3_1.length : Int) - 1)) : Int).toNat (wrap64 ((rd x3_1 (wrap64 ((x3_1.length : Int) - 1))) + 1))) l0 (l0.length : Int) (wrap64 (x12_1 + 1))) else (none)) else (none)) else (if x3_1.length < 17592186044416 then (impl_ClueOf.l0 k1 l0 (x3_1 ++ [1]) l0 (l0.length : Int) (wrap64 (x12_1 + 1))) else (none))) else (none)) else (none)) else (if x3_1.length < 17592186044416 then (impl_ClueOf.l0 k1 l0 (x3_1 ++ [1]) l0 (l0.length : Int) (wrap64 (x12_1 + 1))) else (none))) else (impl_ClueOf.l0 k1 l0 x3_1 l0 (l0.length : Int) (wrap64 (x12_1 + 1)))) = some r := by rw [← hbq8] at H; exact H
     have Nbq8 := am hbq8
     clear hbq8
     by_cases c9 : bq8 = true
     ·subst c9
      rw [if_pos rfl] at H
      by_cases c10 : x12_1 > 0
      ·rw [if_pos c10] at H
       have c10b0 : decide (0 < x12_1) = true := decide_eq_true c10
       clear c10
       obtain ⟨ji11, hji11⟩ : ∃ j_ : Int, (wrap64 (x12_1 - 1)) = j_ := ⟨_, rfl⟩
       replace H : (if 0 ≤ (ji11) then (if (ji11) < (l0.length : Int) then (if rdOf false l0 (ji11) = true then (if 0 ≤ (wrap64 ((x3_1.length : Int) - 1)) then (if (wrap64 ((x3_1.length : Int) - 1)) < (x3_1.length : Int) then (impl_ClueOf.l0 k1 l0 (x3_1.set ((wrap64 ((x3_1.length : Int) - 1)) : Int).toNat (wrap64 ((rd x3_1 (wrap64 ((x3_1.length : Int) - 1))) + 1))) l0 (l0.length : Int) (wrap64 (x12_1 + 1))) else (none)) else (none)) else (if x3_1.length < 17592186044416 then (impl_ClueOf.l0 k1 l0 (x3_1 ++ [1]) l0 (l0.length : Int) (wrap64 (x12_1 + 1))) else (none))) else (none)) else (none)) = some r := by first | (rw [hji11] at H; exact H) | (simp only [hji11] at H ⊢; exact H)
       have hji11w : (IntKind.i64.wrap (x12_1 - 1)) = ji11 := (i64_w _).trans hji11
       have q_ := ifs H
       clear H
       obtain ⟨c12, H⟩ := q_
       have c12b0 : decide (0 ≤ (ji11)) = true := decide_eq_true c12
       clear c12
       have q_ := ifs H
       clear H
       obtain ⟨c13, H⟩ := q_
       have c13b0 : decide ((ji11) < (l0.length : Int)) = true := decide_eq_true c13
       clear c13
       obtain ⟨bq14, hbq14⟩ : ∃ b_ : Bool, b_ = (rdOf false l0 (ji11)) := ⟨_, rfl⟩
       replace H : (if bq14 = true then (if 0 ≤ (wrap64 ((x3_1.length : Int) - 1)) then (if (wrap64 ((x3_1.length : Int) - 1)) < (x3_1.length : Int) then (impl_ClueOf.l0 k1 l0 (x3_1.set ((wrap64 ((x3_1.length : Int) - 1)) : Int).toNat (wrap64 ((rd x3_1 (wrap64 ((x3_1.length : Int) - 1))) + 1))) l0 (l0.length : Int) (wrap64 (x12_1 + 1))) else (none)) else (none)) else (if x3_1.length < 17592186044416 then (impl_ClueOf.l0 k1 l0 (x3_1 ++ [1]) l0 (l0.length : Int) (wrap64 (x12_1 + 1))) else (none))) = some r := by rw [← hbq14] at H; exact H
       have Nbq14 := am hbq14
       clear hbq14
       by_cases c15 : bq14 = true
       ·subst c15
        rw [if_pos rfl] at H
        obtain ⟨ji16, hji16⟩ : ∃ j_ : Int, (wrap64 ((x3_1.length : Int) - 1)) = j_ := ⟨_, rfl⟩
        replace H : (if 0 ≤ (ji16) then (if (ji16) < (x3_1.length : Int) then (impl_ClueOf.l0 k1 l0 (x3_1.set ((ji16) : Int).toNat (wrap64 ((rd x3_1 (ji16)) + 1))) l0 (l0.length : Int) (wrap64 (x12_1 + 1))) else (none)) else (none)) = some r := by first | (rw [hji16] at H; exact H) | (simp only [hji16] at H ⊢; exact H)
        have hji16w : (IntKind.i64.wrap ((x3_1.length : Int) - 1)) = ji16 := (i64_w _).trans hji16
        have q_ := ifs H
        clear H
        obtain ⟨c17, H⟩ := q_
        have c17b0 : decide (0 ≤ (ji16)) = true := decide_eq_true c17
        clear c17
        have q_ := ifs H
        clear H
        obtain ⟨c18, H⟩ := q_
        have c18b0 : decide ((ji16) < (x3_1.length : Int)) = true := decide_eq_true c18
        clear c18
        obtain ⟨y275, hy275⟩ : ∃ y_ : List Int, y_ = (x3_1.set ((ji16) : Int).toNat (wrap64 ((rd x3_1 (ji16)) + 1))) := ⟨_, rfl⟩
        replace H : (impl_ClueOf.l0 k1 l0 y275 l0 (l0.length : Int) (wrap64 (x12_1 + 1))) = some r := by first | (rw [hy275]; with_reducible exact H) | (have H2_ := (Option.bind_some _ _).symm.trans H; rw [hy275]; with_reducible exact H2_) | (have H2_ := (Option.bind_some _ _).symm.trans H; with_reducible exact H2_) | with_reducible exact H | (rw [hy275]; exact H) | exact H
        have Ny275 := am hy275
        clear hy275
        have H' := am H
        clear H
        have p272 : 0 ≤ (x12_1 : Int) := da
        have q272 : x12_1 < (l0.length : Int) := da
        obtain ⟨ad272, e272, hx272_0⟩ := Kd.at_bool HR0.out x12_1 p272 q272
        (try rw [← Nbq8.out] at hx272_0)
        (try rw [← Nbq14.out] at hx272_0)
        cases e272
        replace hx272_0 := (HB.out.cell (World.block_lt_of_cell? w _ hx272_0)).trans hx272_0
        replace p272 := eq_true p272
        replace q272 := eq_true q272
        have p273 : 0 ≤ ((ji11) : Int) := da
        have q273 : (ji11) < (l0.length : Int) := da
        obtain ⟨ad273, e273, hx273_0⟩ := Kd.at_bool HR0.out (ji11) p273 q273
        (try rw [← Nbq8.out] at hx273_0)
        (try rw [← Nbq14.out] at hx273_0)
        obtain rfl : ad272 = ad273 := (by injection e273)
        replace hx273_0 := (HB.out.cell (World.block_lt_of_cell? w _ hx273_0)).trans hx273_0
        replace p273 := eq_true p273
        replace q273 := eq_true q273
        obtain ⟨Ao20, co20, eo20⟩ := Kd.R_slice HO_3.out
        subst eo20
        have p274 : 0 ≤ ((ji16) : Int) := da
        have q274 : (ji16) < (x3_1.length : Int) := da
        obtain ⟨ad274, e274, hx274_0⟩ := Kd.at_int (Kd.R_reads' HO_3.out).2.2 (ji16) p274 q274
        cases e274
        replace p274 := eq_true p274
        replace q274 := eq_true q274
        have p19 : 0 ≤ ((ji16) : Int) := da
        have q19 : ((ji16) : Int) < ((x3_1.length : Int) : Int) := da
        obtain ⟨go19, co19, eo19, gb19, gl19, cl19, HG19⟩ := Kd.R_form HO_3.out (by omega)
        (first | cases eo19 | (injection eo19 with ea_ en_ ec_; (first | subst ea_ | (injection ea_ with ea_; subst ea_)); subst ec_; clear en_))
        have GB19 := am gb19
        have GG19 := am HG19
        clear gb19 gl19 HG19
        (first | simp only [add_plain] at hx274_0 | skip)
        obtain ⟨hx19_0, hf19_0⟩ := Kd.R_celln 0 HO_3.out ((ji16) : Int) p19 q19
        replace p19 := eq_true p19
        replace q19 := eq_true q19
        have HP21 := Kd.R_putg HO_3.out ((ji16) : Int) (wrap64 ((rd x3_1 (ji16)) + 1))
        go_wp2_with (first | ((with_reducible refine gate_store (t := 3) (p := 40) rfl ?_); refine store_event (t := 3) (p := 40) (v := ?vo_w22) (w1 := (wr.setCell ⟨go19, ((ji16) : Int).toNat, none⟩ (.int .i64 (wrap64 ((rd x3_1 (ji16)) + 1))))) ?hg ?ho ?hn ?hr ?_; (case ho => rfl); (case hg => rfl); (case hn => rfl); (case hr => first | (go_simp; done) | (go_simp; rfl)); intro w22 hw; have hg : wr.grownBy w22 (some go19) := (by rw [hw]; exact HP21.2); have hp_ : Kd.R (Kd.int .i64) 3 w22 w.heap.size (fun _ => True) (.slice (some ⟨go19, 0, none⟩) x3_1.length co20) y275 := (by rw [hw, Ny275.out]; exact HP21.1); clear HP21; have n0_ := am (hp_); have n1_ := am ((by rw [hw]; exact below_set (HB.out) GB19.out : Below w.heap.size w w22)); clear HO_3 HB; revert n0_ n1_; intro HO_3 HB; clear hg hw hp_))
        go_roundg k1
        case measure => have := HK1.out; omega
        case rel => exact ⟨(y275), (wrap64 (x12_1 + 1)), rfl, H', ⟨by have := HK1.out; omega⟩, ⟨Kd.rv HO_3.out⟩, ⟨bm HB⟩⟩
       ·replace c15 := Bool.eq_false_iff.mpr c15
        subst c15
        rw [if_neg (show ¬ (false = true) by decide)] at H
        have q_ := ifs H
        clear H
        obtain ⟨c23, H⟩ := q_
        have LMc23 := am c23
        clear c23
        obtain ⟨y276, hy276⟩ : ∃ y_ : List Int, y_ = (x3_1 ++ [1]) := ⟨_, rfl⟩
        replace H : (impl_ClueOf.l0 k1 l0 y276 l0 (l0.length : Int) (wrap64 (x12_1 + 1))) = some r := by first | (rw [hy276]; with_reducible exact H) | (have H2_ := (Option.bind_some _ _).symm.trans H; rw [hy276]; with_reducible exact H2_) | (have H2_ := (Option.bind_some _ _).symm.trans H; with_reducible exact H2_) | with_reducible exact H | (rw [hy276]; exact H) | exact H
        have Ny276 := am hy276
        clear hy276
        have H' := am H
        clear H
        have p272 : 0 ≤ (x12_1 : Int) := da
        have q272 : x12_1 < (l0.length : Int) := da
        obtain ⟨ad272, e272, hx272_0⟩ := Kd.at_bool HR0.out x12_1 p272 q272
        (try rw [← Nbq8.out] at hx272_0)
        (try rw [← Nbq14.out] at hx272_0)
        cases e272
        replace hx272_0 := (HB.out.cell (World.block_lt_of_cell? w _ hx272_0)).trans hx272_0
        replace p272 := eq_true p272
        replace q272 := eq_true q272
        have p273 : 0 ≤ ((ji11) : Int) := da
        have q273 : (ji11) < (l0.length : Int) := da
        obtain ⟨ad273, e273, hx273_0⟩ := Kd.at_bool HR0.out (ji11) p273 q273
        (try rw [← Nbq8.out] at hx273_0)
        (try rw [← Nbq14.out] at hx273_0)
        obtain rfl : ad272 = ad273 := (by injection e273)
        replace hx273_0 := (HB.out.cell (World.block_lt_of_cell? w _ hx273_0)).trans hx273_0
        replace p273 := eq_true p273
        replace q273 := eq_true q273
        go_wp2_with (first | ((with_reducible refine gate_builtin (b := .append) (xs := #[.tmp 17, .tmp 18]) rfl ?_); at_builtin; refine Kd.R_append (Kd.int .i64) (w0 := w) w.heap.size rfl (.tmp 17) (.tmp 18) 36 3 (.int .i64 0) 8 rfl Try.underlying36 info3 rfl (by decide) (by omega) u3 x3_1 1 [.int .i64 1] (fun _ => True) (fun _ => False) rfl rfl ?aP (fun _ hk => hk.elim) ?aF ?aO ?aB ?aS ?aL ?_; (case aP => exact rfl); (case aB => exact (bm HB)); (case aF => exact (fun _ _ => trivial)); (case aO => exact (Kd.rv HO_3.out)); (case aS => exact (below_size (bm HB))); (case aL => have := LMc23.out; omega); intro v277 w24 ho hb hg hat; rw [← Ny276.out] at ho; have n0_ := am (hb); have n1_ := am (ho); clear HB HO_3; revert n0_ n1_; intro HB HO278; clear ho hb hg hat))
        go_roundg k1
        case measure => have := HK1.out; omega
        case rel => exact ⟨(y276), (wrap64 (x12_1 + 1)), rfl, H', ⟨by have := HK1.out; omega⟩, ⟨Kd.rv HO278.out⟩, ⟨bm HB⟩⟩
      ·rw [if_neg c10] at H
       have c10b0 : decide (0 < x12_1) = false := decide_eq_false c10
       clear c10
       have q_ := ifs H
       clear H
       obtain ⟨c25, H⟩ := q_
       have LMc25 := am c25
       clear c25
       obtain ⟨y279, hy279⟩ : ∃ y_ : List Int, y_ = (x3_1 ++ [1]) := ⟨_, rfl⟩
       replace H : (impl_ClueOf.l0 k1 l0 y279 l0 (l0.length : Int) (wrap64 (x12_1 + 1))) = some r := by first | (rw [hy279]; with_reducible exact H) | (have H2_ := (Option.bind_some _ _).symm.trans H; rw [hy279]; with_reducible exact H2_) | (have H2_ := (Option.bind_some _ _).symm.trans H; with_reducible exact H2_) | with_reducible exact H | (rw [hy279]; exact H) | exact H
       have Ny279 := am hy279
       clear hy279
       have H' := am H
       clear H
       have p272 : 0 ≤ (x12_1 : Int) := da
       have q272 : x12_1 < (l0.length : Int) := da
       obtain ⟨ad272, e272, hx272_0⟩ := Kd.at_bool HR0.out x12_1 p272 q272
       (try rw [← Nbq8.out] at hx272_0)
       cases e272
       replace hx272_0 := (HB.out.cell (World.block_lt_of_cell? w _ hx272_0)).trans hx272_0
       replace p272 := eq_true p272
       replace q272 := eq_true q272
       go_wp2_with (first | ((with_reducible refine gate_builtin (b := .append) (xs := #[.tmp 17, .tmp 18]) rfl ?_); at_builtin; refine Kd.R_append (Kd.int .i64) (w0 := w) w.heap.size rfl (.tmp 17) (.tmp 18) 36 3 (.int .i64 0) 8 rfl Try.underlying36 info3 rfl (by decide) (by omega) u3 x3_1 1 [.int .i64 1] (fun _ => True) (fun _ => False) rfl rfl ?aP (fun _ hk => hk.elim) ?aF ?aO ?aB ?aS ?aL ?_; (case aP => exact rfl); (case aB => exact (bm HB)); (case aF => exact (fun _ _ => trivial)); (case aO => exact (Kd.rv HO_3.out)); (case aS => exact (below_size (bm HB))); (case aL => have := LMc25.out; omega); intro v280 w26 ho hb hg hat; rw [← Ny279.out] at ho; have n0_ := am (hb); have n1_ := am (ho); clear HB HO_3; revert n0_ n1_; intro HB HO281; clear ho hb hg hat))
       go_roundg k1
       case measure => have := HK1.out; omega
       case rel => exact ⟨(y279), (wrap64 (x12_1 + 1)), rfl, H', ⟨by have := HK1.out; omega⟩, ⟨Kd.rv HO281.out⟩, ⟨bm HB⟩⟩
     ·replace c9 := Bool.eq_false_iff.mpr c9
      subst c9
      rw [if_neg (show ¬ (false = true) by decide)] at H
      have H' := am H
      clear H
      have p272 : 0 ≤ (x12_1 : Int) := da
      have q272 : x12_1 < (l0.length : Int) := da
      obtain ⟨ad272, e272, hx272_0⟩ := Kd.at_bool HR0.out x12_1 p272 q272
      (try rw [← Nbq8.out] at hx272_0)
      cases e272
      replace hx272_0 := (HB.out.cell (World.block_lt_of_cell? w _ hx272_0)).trans hx272_0
      replace p272 := eq_true p272
      replace q272 := eq_true q272
      go_wp2
      go_roundg k1
      case measure => have := HK1.out; omega
      case rel => exact ⟨(x3_1), (wrap64 (x12_1 + 1)), rfl, H', ⟨by have := HK1.out; omega⟩, ⟨Kd.rv HO_3.out⟩, ⟨bm HB⟩⟩
    ·rw [if_neg c5] at H
     have c5b0 : decide (x12_1 < (l0.length : Int)) = false := decide_eq_false c5
     clear c5
     obtain rfl := Option.some.inj H
     go_wp2
     go_ret
     exact ⟨_, rfl, by (with_reducible repeat (first | apply Kd.R_alloc | apply Kd.R_drewN | apply Kd.R_drew)); exact HO_3.out, bm HB⟩
end Go.Proofs.Ytapnohcfnclleaa.PFnPictureLines
