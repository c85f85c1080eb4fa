-- Made by a program of this session (the kit print, shortened, twice): the kit print itself does not give this text
import Derived.Test.YtapnohcfnclleaaV4
import Derived.Test.YtapnohcfnclleaaPFnPictureLinesx0
import Derived.Test.YtapnohcfnclleaaPFnPictureLinesx1
namespace Go.Proofs.Ytapnohcfnclleaa.PFnPictureLines
open Go.RowKit Go.Proofs.YtapnohcfnclleaaW.PrintWords Go.Proofs.YtapnohcfnclleaaW.PrintLast Go.Proofs.YtapnohcfnclleaaW.PrintMore
attribute [local go_sem] max2_int min2_int max_two min_two max_three min_three max_four min_four   -- for this text's walks alone
set_option linter.unusedVariables false
set_option linter.unusedSimpArgs false
/-! ### spec_l12Fits: function 82 -/
def spec_l12Fits.l0 : Nat → List Bool → List Int → Int → Option (Bool)
 | 0, _, _, _ => none
 | k + 1, x0, x1, x5 => if x5 < (x0.length : Int) then (if 0 ≤ x5 then (if x5 < (x1.length : Int) then (if (rd x1 x5) = 0 then (if rdOf false x0 x5 = true then (some false) else (if (rd x1 x5) = 1 then (some false) else (spec_l12Fits.l0 k x0 x1 (wrap64 (x5 + 1))))) else (if (rd x1 x5) = 1 then (if rdOf false x0 x5 = true then (spec_l12Fits.l0 k x0 x1 (wrap64 (x5 + 1))) else (some false)) else (spec_l12Fits.l0 k x0 x1 (wrap64 (x5 + 1))))) else (none)) else (none)) else (some true)
def spec_l12Fits.f (k : Nat) (l0 : List Bool) (l1 : List Int) : Option (Bool) := spec_l12Fits.l0 k l0 l1 0
set_option maxHeartbeats 8000000 in
set_option maxRecDepth 100000 in
theorem spec_l12Fits.calls (k : Nat) (A0 : Option Addr) (c0 : Nat) (l0 : List Bool) (A1 : Option Addr) (c1 : Nat) (l1 : List Int) (r : Bool) (w : World) (hr0 : Kd.C Kd.bool w A0 l0.length l0) (hc0 : l0.length ≤ c0) (hr1 : Kd.C (Kd.int .i64) w A1 l1.length l1) (hc1 : l1.length ≤ c1) (h : spec_l12Fits.f k l0 l1 = some r) :
  Calls Try.prog 82 #[.slice A0 l0.length c0, .slice A1 l1.length c1] w fun e w' => e = .returned (.bool r) ∧ Drawn0 w w' := by
 have HR0 := am hr0
 have HC0 := am hc0
 clear hr0 hc0
 have HR1 := am hr1
 have HC1 := am hc1
 clear hr1 hc1
 have H : (spec_l12Fits.l0 k l0 l1 0) = some r := h
 clear h
 have H' := am H
 clear H
 go_enter Try.func82, Try.ntmps82
 go_wp2
 go_loopg [5] k (fun kq v5 w' => ∃ (x5_1 : Int), v5 = .int .i64 x5_1 ∧ Aside0 (spec_l12Fits.l0 kq l0 l1 x5_1 = some r) ∧ Aside0 (kq ≤ k) ∧ Drawn0 w w')
 case atStart => exact ⟨(0), rfl, H', ⟨Nat.le_refl _⟩, by repeat (first | exact Drawn0.refl _ | apply Drawn0.step)⟩
 case round =>
  clear H'
  try clear c1
  try clear p2
  obtain ⟨x5_1, rfl, HA, HK1, ⟨m1, rfl⟩⟩ := hrel
  cases gk with
  | zero => exact absurd HA.out (by simp [spec_l12Fits.l0])
  | succ k1 =>
   have H := HA.out
   clear HA
   simp only [spec_l12Fits.l0] at H
   by_cases c3 : x5_1 < (l0.length : Int)
   ·rw [if_pos c3] at H
    have c3b0 : decide (x5_1 < (l0.length : Int)) = true := decide_eq_true c3
    clear c3
    have q_ := ifs H
    clear H
    obtain ⟨c4, H⟩ := q_
    have c4b0 : decide (0 ≤ x5_1) = true := decide_eq_true c4
    clear c4
    have q_ := ifs H
    clear H
    obtain ⟨c5, H⟩ := q_
    have c5b0 : decide (x5_1 < (l1.length : Int)) = true := decide_eq_true c5
    clear c5
    by_cases c6 : (rd l1 x5_1) = 0
    ·rw [if_pos c6] at H
     have c6b0 : ((rd l1 x5_1) == 0) = true := beq_iff_eq.mpr c6
     have c6b1 : ((rd l1 x5_1) != 0) = false := bne_eq_false_iff_eq.mpr c6
     clear c6
     obtain ⟨bq7, hbq7⟩ : ∃ b_ : Bool, b_ = (rdOf false l0 x5_1) := ⟨_, rfl⟩
     replace H : (if bq7 = true then (some false) else (if (rd l1 x5_1) = 1 then (some false) else (spec_l12Fits.l0 k1 l0 l1 (wrap64 (x5_1 + 1))))) = some r := by rw [← hbq7] at H; exact H
     have Nbq7 := am hbq7
     clear hbq7
     by_cases c8 : bq7 = true
     ·subst c8
      rw [if_pos rfl] at H
      obtain rfl := Option.some.inj H
      have p399 : 0 ≤ (x5_1 : Int) := da
      have q399 : x5_1 < (l1.length : Int) := da
      obtain ⟨ad399, e399, hx399_0⟩ := Kd.at_int HR1.out x5_1 p399 q399
      cases e399
      replace p399 := eq_true p399
      replace q399 := eq_true q399
      have p400 : 0 ≤ (x5_1 : Int) := da
      have q400 : x5_1 < (l0.length : Int) := da
      obtain ⟨ad400, e400, hx400_0⟩ := Kd.at_bool HR0.out x5_1 p400 q400
      (try rw [← Nbq7.out] at hx400_0)
      cases e400
      replace p400 := eq_true p400
      replace q400 := eq_true q400
      go_wp2
      go_ret
      exact ⟨by first | rfl | (simp; done) | (simp [*]; done), by repeat (first | exact Drawn0.refl _ | apply Drawn0.step)⟩
     ·replace c8 := Bool.eq_false_iff.mpr c8
      subst c8
      rw [if_neg (show ¬ (false = true) by decide)] at H
      by_cases c9 : (rd l1 x5_1) = 1
      ·rw [if_pos c9] at H
       have c9b0 : ((rd l1 x5_1) == 1) = true := beq_iff_eq.mpr c9
       have c9b1 : ((rd l1 x5_1) != 1) = false := bne_eq_false_iff_eq.mpr c9
       clear c9
       obtain rfl := Option.some.inj H
       have p399 : 0 ≤ (x5_1 : Int) := da
       have q399 : x5_1 < (l1.length : Int) := da
       obtain ⟨ad399, e399, hx399_0⟩ := Kd.at_int HR1.out x5_1 p399 q399
       cases e399
       replace p399 := eq_true p399
       replace q399 := eq_true q399
       have p400 : 0 ≤ (x5_1 : Int) := da
       have q400 : x5_1 < (l0.length : Int) := da
       obtain ⟨ad400, e400, hx400_0⟩ := Kd.at_bool HR0.out x5_1 p400 q400
       (try rw [← Nbq7.out] at hx400_0)
       cases e400
       replace p400 := eq_true p400
       replace q400 := eq_true q400
       have p401 : 0 ≤ (x5_1 : Int) := da
       have q401 : x5_1 < (l1.length : Int) := da
       obtain ⟨ad401, e401, hx401_0⟩ := Kd.at_int HR1.out x5_1 p401 q401
       obtain rfl : ad399 = ad401 := (by injection e401)
       replace p401 := eq_true p401
       replace q401 := eq_true q401
       have p402 : 0 ≤ (x5_1 : Int) := da
       have q402 : x5_1 < (l0.length : Int) := da
       obtain ⟨ad402, e402, hx402_0⟩ := Kd.at_bool HR0.out x5_1 p402 q402
       (try rw [← Nbq7.out] at hx402_0)
       obtain rfl : ad400 = ad402 := (by injection e402)
       replace p402 := eq_true p402
       replace q402 := eq_true q402
       go_wp2
       go_ret
       exact ⟨by first | rfl | (simp; done) | (simp [*]; done), by repeat (first | exact Drawn0.refl _ | apply Drawn0.step)⟩
      ·rw [if_neg c9] at H
       have c9b0 : ((rd l1 x5_1) == 1) = false := beq_eq_false_iff_ne.mpr c9
       have c9b1 : ((rd l1 x5_1) != 1) = true := bne_iff_ne.mpr c9
       have H' := am H
       clear H
       have p399 : 0 ≤ (x5_1 : Int) := da
       have q399 : x5_1 < (l1.length : Int) := da
       obtain ⟨ad399, e399, hx399_0⟩ := Kd.at_int HR1.out x5_1 p399 q399
       cases e399
       replace p399 := eq_true p399
       replace q399 := eq_true q399
       have p400 : 0 ≤ (x5_1 : Int) := da
       have q400 : x5_1 < (l0.length : Int) := da
       obtain ⟨ad400, e400, hx400_0⟩ := Kd.at_bool HR0.out x5_1 p400 q400
       (try rw [← Nbq7.out] at hx400_0)
       cases e400
       replace p400 := eq_true p400
       replace q400 := eq_true q400
       have p401 : 0 ≤ (x5_1 : Int) := da
       have q401 : x5_1 < (l1.length : Int) := da
       obtain ⟨ad401, e401, hx401_0⟩ := Kd.at_int HR1.out x5_1 p401 q401
       obtain rfl : ad399 = ad401 := (by injection e401)
       replace p401 := eq_true p401
       replace q401 := eq_true q401
       go_wp2
       go_roundg k1
       case measure => have := HK1.out; omega
       case rel => exact ⟨(wrap64 (x5_1 + 1)), rfl, H', ⟨by have := HK1.out; omega⟩, by repeat (first | exact Drawn0.refl _ | apply Drawn0.step)⟩
    ·rw [if_neg c6] at H
     have c6b0 : ((rd l1 x5_1) == 0) = false := beq_eq_false_iff_ne.mpr c6
     have c6b1 : ((rd l1 x5_1) != 0) = true := bne_iff_ne.mpr c6
     by_cases c10 : (rd l1 x5_1) = 1
     ·rw [if_pos c10] at H
      have c10b0 : ((rd l1 x5_1) == 1) = true := beq_iff_eq.mpr c10
      have c10b1 : ((rd l1 x5_1) != 1) = false := bne_eq_false_iff_eq.mpr c10
      clear c10
      obtain ⟨bq11, hbq11⟩ : ∃ b_ : Bool, b_ = (rdOf false l0 x5_1) := ⟨_, rfl⟩
      replace H : (if bq11 = true then (spec_l12Fits.l0 k1 l0 l1 (wrap64 (x5_1 + 1))) else (some false)) = some r := by rw [← hbq11] at H; exact H
      have Nbq11 := am hbq11
      clear hbq11
      by_cases c12 : bq11 = true
      ·subst c12
       rw [if_pos rfl] at H
       have H' := am H
       clear H
       have p399 : 0 ≤ (x5_1 : Int) := da
       have q399 : x5_1 < (l1.length : Int) := da
       obtain ⟨ad399, e399, hx399_0⟩ := Kd.at_int HR1.out x5_1 p399 q399
       cases e399
       replace p399 := eq_true p399
       replace q399 := eq_true q399
       have p403 : 0 ≤ (x5_1 : Int) := da
       have q403 : x5_1 < (l1.length : Int) := da
       obtain ⟨ad403, e403, hx403_0⟩ := Kd.at_int HR1.out x5_1 p403 q403
       obtain rfl : ad399 = ad403 := (by injection e403)
       replace p403 := eq_true p403
       replace q403 := eq_true q403
       have p404 : 0 ≤ (x5_1 : Int) := da
       have q404 : x5_1 < (l0.length : Int) := da
       obtain ⟨ad404, e404, hx404_0⟩ := Kd.at_bool HR0.out x5_1 p404 q404
       (try rw [← Nbq11.out] at hx404_0)
       cases e404
       replace p404 := eq_true p404
       replace q404 := eq_true q404
       go_wp2
       go_roundg k1
       case measure => have := HK1.out; omega
       case rel => exact ⟨(wrap64 (x5_1 + 1)), rfl, H', ⟨by have := HK1.out; omega⟩, by repeat (first | exact Drawn0.refl _ | apply Drawn0.step)⟩
      ·replace c12 := Bool.eq_false_iff.mpr c12
       subst c12
       rw [if_neg (show ¬ (false = true) by decide)] at H
       obtain rfl := Option.some.inj H
       have p399 : 0 ≤ (x5_1 : Int) := da
       have q399 : x5_1 < (l1.length : Int) := da
       obtain ⟨ad399, e399, hx399_0⟩ := Kd.at_int HR1.out x5_1 p399 q399
       cases e399
       replace p399 := eq_true p399
       replace q399 := eq_true q399
       have p403 : 0 ≤ (x5_1 : Int) := da
       have q403 : x5_1 < (l1.length : Int) := da
       obtain ⟨ad403, e403, hx403_0⟩ := Kd.at_int HR1.out x5_1 p403 q403
       obtain rfl : ad399 = ad403 := (by injection e403)
       replace p403 := eq_true p403
       replace q403 := eq_true q403
       have p404 : 0 ≤ (x5_1 : Int) := da
       have q404 : x5_1 < (l0.length : Int) := da
       obtain ⟨ad404, e404, hx404_0⟩ := Kd.at_bool HR0.out x5_1 p404 q404
       (try rw [← Nbq11.out] at hx404_0)
       cases e404
       replace p404 := eq_true p404
       replace q404 := eq_true q404
       go_wp2
       go_ret
       exact ⟨by first | rfl | (simp; done) | (simp [*]; done), by repeat (first | exact Drawn0.refl _ | apply Drawn0.step)⟩
     ·rw [if_neg c10] at H
      have c10b0 : ((rd l1 x5_1) == 1) = false := beq_eq_false_iff_ne.mpr c10
      have c10b1 : ((rd l1 x5_1) != 1) = true := bne_iff_ne.mpr c10
      have H' := am H
      clear H
      have p399 : 0 ≤ (x5_1 : Int) := da
      have q399 : x5_1 < (l1.length : Int) := da
      obtain ⟨ad399, e399, hx399_0⟩ := Kd.at_int HR1.out x5_1 p399 q399
      cases e399
      replace p399 := eq_true p399
      replace q399 := eq_true q399
      have p403 : 0 ≤ (x5_1 : Int) := da
      have q403 : x5_1 < (l1.length : Int) := da
      obtain ⟨ad403, e403, hx403_0⟩ := Kd.at_int HR1.out x5_1 p403 q403
      obtain rfl : ad399 = ad403 := (by injection e403)
      replace p403 := eq_true p403
      replace q403 := eq_true q403
      go_wp2
      go_roundg k1
      case measure => have := HK1.out; omega
      case rel => exact ⟨(wrap64 (x5_1 + 1)), rfl, H', ⟨by have := HK1.out; omega⟩, by repeat (first | exact Drawn0.refl _ | apply Drawn0.step)⟩
   ·rw [if_neg c3] at H
    have c3b0 : decide (x5_1 < (l0.length : Int)) = false := decide_eq_false c3
    clear c3
    obtain rfl := Option.some.inj H
    go_wp2
    go_ret
    exact ⟨by first | rfl | (simp; done) | (simp [*]; done), by repeat (first | exact Drawn0.refl _ | apply Drawn0.step)⟩
/-! ### spec_l8Same: function 51 -/
def spec_l8Same.l0 : Nat → List Int → List Int → Int → Option (Bool)
 | 0, _, _, _ => none
 | k + 1, x0, x1, x5 => if x5 < (x0.length : Int) then (if 0 ≤ x5 then (if x5 < (x1.length : Int) then (if (rd x0 x5) = (rd x1 x5) then (spec_l8Same.l0 k x0 x1 (wrap64 (x5 + 1))) else (some false)) else (none)) else (none)) else (some true)
def spec_l8Same.f (k : Nat) (l0 : List Int) (l1 : List Int) : Option (Bool) := if (l0.length : Int) = (l1.length : Int) then (spec_l8Same.l0 k l0 l1 0) else (some false)
set_option maxHeartbeats 8000000 in
set_option maxRecDepth 100000 in
theorem spec_l8Same.calls (k : Nat) (A0 : Option Addr) (c0 : Nat) (l0 : List Int) (A1 : Option Addr) (c1 : Nat) (l1 : List Int) (r : Bool) (w : World) (hr0 : Kd.C (Kd.int .i64) w A0 l0.length l0) (hc0 : l0.length ≤ c0) (hr1 : Kd.C (Kd.int .i64) w A1 l1.length l1) (hc1 : l1.length ≤ c1) (h : spec_l8Same.f k l0 l1 = some r) :
  Calls Try.prog 51 #[.slice A0 l0.length c0, .slice A1 l1.length c1] w fun e w' => e = .returned (.bool r) ∧ Drawn0 w w' := by
 have HR0 := am hr0
 have HC0 := am hc0
 clear hr0 hc0
 have HR1 := am hr1
 have HC1 := am hc1
 clear hr1 hc1
 have H : (if (l0.length : Int) = (l1.length : Int) then (spec_l8Same.l0 k l0 l1 0) else (some false)) = some r := h
 clear h
 by_cases c3 : (l0.length : Int) = (l1.length : Int)
 ·rw [if_pos c3] at H
  have c3b0 : ((l0.length : Int) == (l1.length : Int)) = true := beq_iff_eq.mpr c3
  have c3b1 : ((l0.length : Int) != (l1.length : Int)) = false := bne_eq_false_iff_eq.mpr c3
  have c3b2 : (l0.length == l1.length) = true := by first | simpa using c3 | (simp at c3 ⊢; omega)
  clear c3
  have H' := am H
  clear H
  go_enter Try.func51, Try.ntmps51
  go_wp2
  repeat (go_quiet (fail); try go_wp2)
  go_loopg [5] k (fun kq v5 w' => ∃ (x5_1 : Int), v5 = .int .i64 x5_1 ∧ Aside0 (spec_l8Same.l0 kq l0 l1 x5_1 = some r) ∧ Aside0 (kq ≤ k) ∧ Drawn0 w w')
  case atStart => exact ⟨(0), rfl, H', ⟨Nat.le_refl _⟩, by repeat (first | exact Drawn0.refl _ | apply Drawn0.step)⟩
  case round =>
   clear H'
   try clear c1
   try clear p2
   try clear c3
   try clear c3b0
   try clear c3b1
   try clear c3b2
   obtain ⟨x5_1, rfl, HA, HK1, ⟨m1, rfl⟩⟩ := hrel
   cases gk with
   | zero => exact absurd HA.out (by simp [spec_l8Same.l0])
   | succ k1 =>
    have H := HA.out
    clear HA
    simp only [spec_l8Same.l0] at H
    by_cases c4 : x5_1 < (l0.length : Int)
    ·rw [if_pos c4] at H
     have c4b0 : decide (x5_1 < (l0.length : Int)) = true := decide_eq_true c4
     clear c4
     have q_ := ifs H
     clear H
     obtain ⟨c5, H⟩ := q_
     have c5b0 : decide (0 ≤ x5_1) = true := decide_eq_true c5
     clear c5
     have q_ := ifs H
     clear H
     obtain ⟨c6, H⟩ := q_
     have c6b0 : decide (x5_1 < (l1.length : Int)) = true := decide_eq_true c6
     clear c6
     by_cases c7 : (rd l0 x5_1) = (rd l1 x5_1)
     ·rw [if_pos c7] at H
      have c7b0 : ((rd l0 x5_1) == (rd l1 x5_1)) = true := beq_iff_eq.mpr c7
      have c7b1 : ((rd l0 x5_1) != (rd l1 x5_1)) = false := bne_eq_false_iff_eq.mpr c7
      clear c7
      have H' := am H
      clear H
      have p405 : 0 ≤ (x5_1 : Int) := da
      have q405 : x5_1 < (l0.length : Int) := da
      obtain ⟨ad405, e405, hx405_0⟩ := Kd.at_int HR0.out x5_1 p405 q405
      cases e405
      replace p405 := eq_true p405
      replace q405 := eq_true q405
      have p406 : 0 ≤ (x5_1 : Int) := da
      have q406 : x5_1 < (l1.length : Int) := da
      obtain ⟨ad406, e406, hx406_0⟩ := Kd.at_int HR1.out x5_1 p406 q406
      cases e406
      replace p406 := eq_true p406
      replace q406 := eq_true q406
      go_wp2
      repeat (go_quiet (fail); try go_wp2)
      go_roundg k1
      case measure => have := HK1.out; omega
      case rel => exact ⟨(wrap64 (x5_1 + 1)), rfl, H', ⟨by have := HK1.out; omega⟩, by repeat (first | exact Drawn0.refl _ | apply Drawn0.step)⟩
     ·rw [if_neg c7] at H
      have c7b0 : ((rd l0 x5_1) == (rd l1 x5_1)) = false := beq_eq_false_iff_ne.mpr c7
      have c7b1 : ((rd l0 x5_1) != (rd l1 x5_1)) = true := bne_iff_ne.mpr c7
      obtain rfl := Option.some.inj H
      have p405 : 0 ≤ (x5_1 : Int) := da
      have q405 : x5_1 < (l0.length : Int) := da
      obtain ⟨ad405, e405, hx405_0⟩ := Kd.at_int HR0.out x5_1 p405 q405
      cases e405
      replace p405 := eq_true p405
      replace q405 := eq_true q405
      have p406 : 0 ≤ (x5_1 : Int) := da
      have q406 : x5_1 < (l1.length : Int) := da
      obtain ⟨ad406, e406, hx406_0⟩ := Kd.at_int HR1.out x5_1 p406 q406
      cases e406
      replace p406 := eq_true p406
      replace q406 := eq_true q406
      go_wp2
      repeat (go_quiet (fail); try go_wp2)
      go_ret
      exact ⟨by first | rfl | (simp; done) | (simp [*]; done), by repeat (first | exact Drawn0.refl _ | apply Drawn0.step)⟩
    ·rw [if_neg c4] at H
     have c4b0 : decide (x5_1 < (l0.length : Int)) = false := decide_eq_false c4
     clear c4
     obtain rfl := Option.some.inj H
     go_wp2
     repeat (go_quiet (fail); try go_wp2)
     go_ret
     exact ⟨by first | rfl | (simp; done) | (simp [*]; done), by repeat (first | exact Drawn0.refl _ | apply Drawn0.step)⟩
 ·rw [if_neg c3] at H
  have c3b0 : ((l0.length : Int) == (l1.length : Int)) = false := beq_eq_false_iff_ne.mpr c3
  have c3b1 : ((l0.length : Int) != (l1.length : Int)) = true := bne_iff_ne.mpr c3
  have c3b2 : (l0.length == l1.length) = false := by first | simpa using c3 | (simp at c3 ⊢; omega)
  obtain rfl := Option.some.inj H
  go_enter Try.func51, Try.ntmps51
  go_wp2
  repeat (go_quiet (fail); try go_wp2)
  go_ret
  exact ⟨by first | rfl | (simp; done) | (simp [*]; done), by repeat (first | exact Drawn0.refl _ | apply Drawn0.step)⟩
/-! ### spec_l12Same: function 83 -/
def spec_l12Same.f (k : Nat) (l0 : List Bool) (l1 : List Int) : Option (Bool) := (spec_ClueOf.f k l0).bind fun t407 => ((spec_l8Same.f k t407 l1).bind fun t410 => (some t410))
set_option maxHeartbeats 8000000 in
set_option maxRecDepth 100000 in
theorem spec_l12Same.calls (k : Nat) (A0 : Option Addr) (c0 : Nat) (l0 : List Bool) (A1 : Option Addr) (c1 : Nat) (l1 : List Int) (r : Bool) (w : World) (hr0 : Kd.C Kd.bool w A0 l0.length l0) (hc0 : l0.length ≤ c0) (hr1 : Kd.C (Kd.int .i64) w A1 l1.length l1) (hc1 : l1.length ≤ c1) (h : spec_l12Same.f k l0 l1 = some r) :
  Calls Try.prog 83 #[.slice A0 l0.length c0, .slice A1 l1.length c1] w fun e w' => e = .returned (.bool r) ∧ Below w.heap.size w w' := by
 have HR0 := am hr0
 have HC0 := am hc0
 clear hr0 hc0
 have HR1 := am hr1
 have HC1 := am hc1
 clear hr1 hc1
 have HB := am (Below.refl w.heap.size w)
 have H : ((spec_ClueOf.f k l0).bind fun t407 => ((spec_l8Same.f k t407 l1).bind fun t410 => (some t410))) = some r := h
 clear h
 replace H := Option.bind_eq_some_iff.mp H
 obtain ⟨t407, A30, H⟩ := H
 replace H : ((spec_l8Same.f k t407 l1).bind fun t410 => (some t410)) = some r := H
 have A3 := am A30
 clear A30
 replace H := Option.bind_eq_some_iff.mp H
 obtain ⟨t410, A40, H⟩ := H
 replace H : (some t410) = some r := H
 have A4 := am A40
 clear A40
 obtain rfl := Option.some.inj H
 go_enter Try.func83, Try.ntmps83
 go_wp2_with (first | ((with_reducible refine gate_callee (f := 62) rfl ?_); refine goesL_ (some 6) rfl rfl Try.func62 (by kernel_rfl) rfl #[.slice A0 l0.length c0] rfl (by (try simp only [List.map_toArray, List.map_cons, List.map_nil]); first | done | rfl | (simp only [List.length_drop, List.length_take]; rfl)) ?_; (with_reducible refine (spec_ClueOf.calls k _ _ l0 t407 _ ?side1 ?side2 A3.out).mono ?_); (case side1 => exact Kd.cv HR0.out); (case side2 => exact HC0.out); rintro e w5 ⟨v408, rfl, ho0, hb⟩; refine ⟨_, rfl, ?_⟩; have n0_ := am (Kd.R_lower ho0 (below_size (bm HB))); have n1_ := am (below_step (bm HB) hb); clear HB; revert n0_ n1_; intro HO409 HB; (try clear hb); (try clear hb2); (try clear hk); (try clear hi); (try clear ho0); obtain ⟨Ao6, co6, eo6⟩ := Kd.R_slice HO409.out; subst eo6) | ((with_reducible refine gate_callee (f := 51) rfl ?_); refine goesL_ (some 8) rfl rfl Try.func51 (by kernel_rfl) rfl #[.slice Ao6 t407.length co6, .slice A1 l1.length c1] rfl (by (try simp only [List.map_toArray, List.map_cons, List.map_nil]); first | done | rfl | (simp only [List.length_drop, List.length_take]; rfl)) ?_; (with_reducible refine (spec_l8Same.calls k _ _ t407 _ _ l1 t410 _ ?side1 ?side2 ?side3 ?side4 A4.out).mono ?_); (case side1 => exact Kd.cv (Kd.R_reads' HO409.out).2.2); (case side2 => exact (Kd.R_reads' HO409.out).2.1); (case side3 => repeat (first | exact (Kd.C_below HR1.out HB.out) | (with_reducible refine Kd.C_alloc ?_ _) | (with_reducible refine Kd.C_drewN ?_ _) | (with_reducible refine Kd.C_drew ?_))); (case side4 => exact HC1.out); rintro e w' ⟨rfl, ⟨nd, rfl⟩⟩; refine ⟨_, rfl, ?_⟩))
 go_ret
 exact ⟨rfl, bm HB⟩
end Go.Proofs.Ytapnohcfnclleaa.PFnPictureLines
