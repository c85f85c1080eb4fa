-- Made by a program of this session (a changed copy of the kit print): the kit print itself does not give this text
import Derived.Test.YtcghheaelgjnfaaPFnExactStarsFitx0
import Derived.Deep.RegionHeld3
import Derived.StillTailTactics
import Derived.Test.YtcghheaelgjnfaaV0
namespace Go.Proofs.Ytcghheaelgjnfaa.PFnExactStarsFit
open Go.RowKit Go.Proofs.YtcghheaelgjnfaaW.PrintWords Go.Proofs.YtcghheaelgjnfaaW.PrintLast Go.Proofs.YtcghheaelgjnfaaW.PrintMore
attribute [local go_sem] max2_int min2_int max_two min_two max_three min_three max_four min_four   -- for this text's walks alone
set_option linter.unusedVariables false
set_option linter.unusedSimpArgs false

/-! ### laws_toIntS: function 11 -/
def laws_toIntS.l0 : Nat → List Int → List Int → Int → Option (List Int)
  | 0, _, _, _ => none
  | k + 1, x0, x3, x4 => if x4 < (x0.length : Int) then (if 0 ≤ x4 then (if x4 < (x3.length : Int) then (laws_toIntS.l0 k x0 (x3.set (x4 : Int).toNat (rd x0 x4)) (wrap64 (x4 + 1))) else (none)) else (none)) else (some x3)
def laws_toIntS.f (k : Nat) (l0 : List Int) : Option (List Int) := if 0 ≤ (l0.length : Int) then (if ((l0.length : Int) : Int).toNat ≤ 35184372088832 then (laws_toIntS.l0 k l0 (List.replicate ((l0.length : Int) : Int).toNat 0) 0) else (none)) else (none)
theorem laws_toIntS.mono_l : ∀ k, (∀ y0 y1 y2, LeO (laws_toIntS.l0 k y0 y1 y2) (laws_toIntS.l0 (k + 1) y0 y1 y2))
  | 0 => fun _ _ _ r h => by simp [laws_toIntS.l0] at h
  | k + 1 => by
    have ih0 := laws_toIntS.mono_l k
    · intro y0 y1 y2
      unfold laws_toIntS.l0
      repeat' first
      | (with_reducible exact ih0 _ _ _)
      | (with_reducible exact LeO.refl _)
      | (with_reducible exact LeO.none _)
      | (with_reducible refine LeO.ite ?_ ?_)
      | (with_reducible refine LeO.bind ?_ (fun _ => ?_))
      | exact ih0 _ _ _
      | exact LeO.none _
      | refine LeO.ite ?_ ?_
      | refine LeO.bind ?_ (fun _ => ?_)
theorem laws_toIntS.mono : ∀ a0 k, LeO (laws_toIntS.f k a0) (laws_toIntS.f (k + 1) a0) := by
  intro a0 k
  have ih0 := laws_toIntS.mono_l k
  unfold laws_toIntS.f
  repeat' first
      | (with_reducible exact ih0 _ _ _)
      | (with_reducible exact LeO.refl _)
      | (with_reducible exact LeO.none _)
      | (with_reducible refine LeO.ite ?_ ?_)
      | (with_reducible refine LeO.bind ?_ (fun _ => ?_))
      | exact ih0 _ _ _
      | exact LeO.none _
      | refine LeO.ite ?_ ?_
      | refine LeO.bind ?_ (fun _ => ?_)
set_option maxHeartbeats 8000000 in
set_option maxRecDepth 100000 in
theorem laws_toIntS.calls (k : Nat) (A0 : Option Addr) (c0 : Nat) (l0 : List Int) (r : List Int) (w : World) (hr0 : Kd.C (Kd.int .i64) w A0 l0.length l0) (hc0 : l0.length ≤ c0) (h : laws_toIntS.f k l0 = some r) :
    Calls Try.prog 11 #[.slice A0 l0.length c0] w fun e w' => ∃ v0_ : Value, e = .returned (v0_) ∧ Kd.R (Kd.int .i64) 3 w' w.heap.size (fun _ => True) v0_ r ∧ Below w.heap.size w w' := by
  have HR0 := Aside0.mk hr0
  have HC0 := Aside0.mk hc0
  clear hr0 hc0
  have HB := Aside0.mk (Below.refl w.heap.size w)
  have H : (if 0 ≤ (l0.length : Int) then (if ((l0.length : Int) : Int).toNat ≤ 35184372088832 then (laws_toIntS.l0 k l0 (List.replicate ((l0.length : Int) : Int).toNat 0) 0) else (none)) else (none)) = some r := h
  clear h
  by_cases c2 : 0 ≤ (l0.length : Int)
  · rw [if_pos c2] at H
    have c2b0 := eq_true c2
    have c2b1 : decide (0 ≤ (l0.length : Int)) = true := decide_eq_true c2
    clear c2
    by_cases c3 : ((l0.length : Int) : Int).toNat ≤ 35184372088832
    · rw [if_pos c3] at H
      have c3b0 := eq_true c3
      have c3b1 : decide (((l0.length : Int) : Int).toNat ≤ 35184372088832) = true := decide_eq_true c3
      clear c3
      obtain ⟨y116, hy116⟩ : ∃ y_ : List Int, y_ = (List.replicate ((l0.length : Int) : Int).toNat 0) := ⟨_, rfl⟩
      replace H : (laws_toIntS.l0 k l0 y116 0) = some r := by first | (rw [hy116]; with_reducible exact H) | (have H2_ := (Option.bind_some _ _).symm.trans H; rw [hy116]; with_reducible exact H2_) | (have H2_ := (Option.bind_some _ _).symm.trans H; with_reducible exact H2_) | with_reducible exact H | (rw [hy116]; exact H) | exact H
      have Ny116 := Aside0.mk hy116
      clear hy116
      have H' := Aside0.mk H
      clear H
      go_enter Try.func11, Try.ntmps11
      go_wp2_with (first | ((with_reducible refine gate_dst (N := 7) rfl ?_); refine Kd.R_make (Kd.int .i64) _ 3 rfl (N := 7) rfl 22 _ _ rfl (l0.length : Int) rfl rfl Try.underlying22 (.int .i64 0) 8 info3 rfl (by decide) (by omega) 0 (ok := fun _ => True) (okp := fun _ => True) rfl (fun _ hk => hk) trivial (of_decide_eq_true (by first | (with_reducible assumption) | assumption)) (Nat.le_trans (Nat.mul_le_mul_right _ (of_decide_eq_true (by first | (with_reducible assumption) | assumption) : (l0.length : Int).toNat ≤ 35184372088832)) (by omega)) (Below.refl _ _) (Nat.le_refl _) ?_; intro v117 w4 ho5 hb hg_ hnew_; clear hg_ hnew_; (first | rw [← Ny116.out] at ho5 | (simp only [Int.reduceToNat] at ho5; rw [← Ny116.out] at ho5)); have n0_ := Aside0.mk (Kd.R_lower ho5 (below_size (by repeat (first | (with_reducible first | exact HB.out | apply below_alloc | apply pw_below_drewN | apply below_drew1) | exact HB.out)))); have n1_ := Aside0.mk (below_step (by repeat (first | (with_reducible first | exact HB.out | apply below_alloc | apply pw_below_drewN | apply below_drew1) | exact HB.out)) hb); clear HB; have HO118 := n0_; have HB := n1_; clear n0_ n1_; clear hb ho5))
      go_loopg [4] k (fun kq v4 w' => ∃ (x3_1 : List Int) (x4_1 : Int), v4 = .int .i64 x4_1 ∧ Aside0 (laws_toIntS.l0 kq l0 x3_1 x4_1 = some r) ∧ Aside0 (kq ≤ k) ∧ Aside0 (Kd.R (Kd.int .i64) 3 w' w.heap.size (fun _ => True) v117 x3_1) ∧ Aside0 (Below w.heap.size w w'))
      case atStart => exact ⟨(y116), (0), (by first | rfl | (simp; done) | (simp [*]; done)), H', ⟨Nat.le_refl _⟩, ⟨by (with_reducible repeat (first | apply Kd.R_alloc | apply Kd.R_drewN | apply Kd.R_drew)); exact HO118.out⟩, ⟨by repeat (first | (with_reducible first | exact HB.out | apply below_alloc | apply pw_below_drewN | apply below_drew1) | exact HB.out)⟩⟩
      case round =>
        clear H'
        try clear c1
        try clear c2
        try clear c2b0
        try clear c2b1
        try clear p2
        try clear c3
        try clear c3b0
        try clear c3b1
        obtain ⟨x3_1, x4_1, rfl, HA, HK1, HO_3, HB⟩ := hrel
        cases gk with
        | zero => exact absurd HA.out (by simp [laws_toIntS.l0])
        | succ k1 =>
          have H := HA.out
          clear HA
          simp only [laws_toIntS.l0] at H
          by_cases c6 : x4_1 < (l0.length : Int)
          · rw [if_pos c6] at H
            have c6b0 : decide (x4_1 < (l0.length : Int)) = true := decide_eq_true c6
            clear c6
            by_cases c7 : 0 ≤ x4_1
            · rw [if_pos c7] at H
              have c7b0 : decide (0 ≤ x4_1) = true := decide_eq_true c7
              clear c7
              by_cases c8 : x4_1 < (x3_1.length : Int)
              · rw [if_pos c8] at H
                have c8b0 : decide (x4_1 < (x3_1.length : Int)) = true := decide_eq_true c8
                clear c8
                obtain ⟨y120, hy120⟩ : ∃ y_ : List Int, y_ = (x3_1.set (x4_1 : Int).toNat (rd l0 x4_1)) := ⟨_, rfl⟩
                replace H : (laws_toIntS.l0 k1 l0 y120 (wrap64 (x4_1 + 1))) = some r := by first | (rw [hy120]; with_reducible exact H) | (have H2_ := (Option.bind_some _ _).symm.trans H; rw [hy120]; with_reducible exact H2_) | (have H2_ := (Option.bind_some _ _).symm.trans H; with_reducible exact H2_) | with_reducible exact H | (rw [hy120]; exact H) | exact H
                have Ny120 := Aside0.mk hy120
                clear hy120
                have H' := Aside0.mk H
                clear H
                have p119 : 0 ≤ (x4_1 : Int) := of_decide_eq_true (by first | (with_reducible assumption) | assumption)
                have q119 : x4_1 < (l0.length : Int) := of_decide_eq_true (by first | (with_reducible assumption) | assumption)
                obtain ⟨ad119, e119, hx119_0⟩ := Kd.at_int HR0.out x4_1 p119 q119
                cases e119
                replace hx119_0 := (HB.out.cell (World.block_lt_of_cell? w _ hx119_0)).trans hx119_0
                replace p119 := eq_true p119
                replace q119 := eq_true q119
                have p9 : 0 ≤ (x4_1 : Int) := of_decide_eq_true (by first | (with_reducible assumption) | assumption)
                have q9 : (x4_1 : Int) < ((x3_1.length : Int) : Int) := of_decide_eq_true (by first | (with_reducible assumption) | assumption)
                obtain ⟨go9, co9, eo9, gb9, gl9, cl9, HG9⟩ := Kd.R_form HO_3.out (by omega)
                (first | cases eo9 | (injection eo9 with ea_ en_ ec_; (first | subst ea_ | (injection ea_ with ea_; subst ea_)); subst ec_; clear en_))
                have GB9 := Aside0.mk gb9
                have GG9 := Aside0.mk HG9
                clear gb9 gl9 HG9
                obtain ⟨hx9_0, hf9_0⟩ := Kd.R_celln 0 HO_3.out (x4_1 : Int) p9 q9
                replace p9 := eq_true p9
                replace q9 := eq_true q9
                have HP10 := Kd.R_putg HO_3.out (x4_1 : Int) (rd l0 x4_1)
                go_wp2_with (first | ((with_reducible refine gate_store (t := 3) (p := 20) rfl ?_); refine store_event (t := 3) (p := 20) (v := ?vo_w11) (w1 := (wr.setCell ⟨go9, (x4_1 : Int).toNat, none⟩ (.int .i64 (rd l0 x4_1)))) ?hg ?ho ?hn ?hr ?_; (case ho => rfl); (case hg => rfl); (case hn => rfl); (case hr => first | (go_simp; done) | (go_simp; rfl)); intro w11 hw; have hg : wr.grownBy w11 (some go9) := (by rw [hw]; exact HP10.2); have hp_ : Kd.R (Kd.int .i64) 3 w11 w.heap.size (fun _ => True) (.slice (some ⟨go9, 0, none⟩) x3_1.length co9) y120 := (by rw [hw, Ny120.out]; exact HP10.1); clear HP10; have n0_ := Aside0.mk (hp_); have n1_ := Aside0.mk ((by rw [hw]; exact below_set (HB.out) GB9.out : Below w.heap.size w w11)); clear HO_3; clear HB; have HO_3 := n0_; have HB := n1_; clear n0_ n1_; clear hg hw hp_))
                go_roundg k1
                case measure => have := HK1.out; omega
                case rel => exact ⟨(y120), (wrap64 (x4_1 + 1)), (by first | rfl | (simp; done) | (simp [*]; done)), H', ⟨by have := HK1.out; omega⟩, ⟨by (with_reducible repeat (first | apply Kd.R_alloc | apply Kd.R_drewN | apply Kd.R_drew)); exact HO_3.out⟩, ⟨by repeat (first | (with_reducible first | exact HB.out | apply below_alloc | apply pw_below_drewN | apply below_drew1) | exact HB.out)⟩⟩
              · rw [if_neg c8] at H
                exact absurd H (by simp)
            · rw [if_neg c7] at H
              exact absurd H (by simp)
          · rw [if_neg c6] at H
            have c6b0 : decide (x4_1 < (l0.length : Int)) = false := decide_eq_false c6
            clear c6
            obtain rfl := Option.some.inj H
            go_wp2
            go_ret
            exact ⟨_, by first | rfl | (simp [errW_none, errW_some] <;> rfl) | (simp [*, errW_none, errW_some] <;> rfl), by (with_reducible repeat (first | apply Kd.R_alloc | apply Kd.R_drewN | apply Kd.R_drew)); exact HO_3.out, by repeat (first | (with_reducible first | exact HB.out | apply below_alloc | apply pw_below_drewN | apply below_drew1) | exact HB.out)⟩
    · rw [if_neg c3] at H
      exact absurd H (by simp)
  · rw [if_neg c2] at H
    exact absurd H (by simp)

/-! ### impl_AreasValid: function 27 -/
mutual
def impl_AreasValid.j0 : Nat → List Int → Int → Bool → Option (Bool)
  | 0, _, _, _ => none
  | k + 1, x0, x1, x20 => if x20 = true then (some false) else (impl_AreasValid.l0 k x1 x0 (x0.length : Int) 0)
def impl_AreasValid.l0 : Nat → Int → List Int → Int → Int → Option (Bool)
  | 0, _, _, _, _ => none
  | k + 1, x1, x21, x22, x23 => if x23 < x22 then (if 0 ≤ x23 then (if x23 < (x21.length : Int) then (if (rd x21 x23) < 0 then (some false) else (if (rd x21 x23) ≥ x1 then (some false) else (impl_AreasValid.l0 k x1 x21 x22 (wrap64 (x23 + 1))))) else (none)) else (none)) else (some true)
end
def impl_AreasValid.f (k : Nat) (l0 : List Int) (a1 : Int) : Option (Bool) := if a1 < 1 then (impl_AreasValid.j0 k l0 a1 true) else (if a1 > 6 then (impl_AreasValid.j0 k l0 a1 true) else (impl_AreasValid.j0 k l0 a1 ((l0.length : Int) != (wrap64 (a1 * a1)))))
theorem impl_AreasValid.mono_l : ∀ k, (∀ y0 y1 y2, LeO (impl_AreasValid.j0 k y0 y1 y2) (impl_AreasValid.j0 (k + 1) y0 y1 y2)) ∧ (∀ y0 y1 y2 y3, LeO (impl_AreasValid.l0 k y0 y1 y2 y3) (impl_AreasValid.l0 (k + 1) y0 y1 y2 y3))
  | 0 => ⟨fun _ _ _ r h => by simp [impl_AreasValid.j0] at h, fun _ _ _ _ r h => by simp [impl_AreasValid.l0] at h⟩
  | k + 1 => by
    obtain ⟨ih0, ih1⟩ := impl_AreasValid.mono_l k
    refine ⟨?_, ?_⟩
    · intro y0 y1 y2
      unfold impl_AreasValid.j0
      repeat' first
      | (with_reducible exact ih0 _ _ _)
      | (with_reducible exact ih1 _ _ _ _)
      | (with_reducible exact LeO.refl _)
      | (with_reducible exact LeO.none _)
      | (with_reducible refine LeO.ite ?_ ?_)
      | (with_reducible refine LeO.bind ?_ (fun _ => ?_))
      | exact ih0 _ _ _
      | exact ih1 _ _ _ _
      | exact LeO.none _
      | refine LeO.ite ?_ ?_
      | refine LeO.bind ?_ (fun _ => ?_)
    · intro y0 y1 y2 y3
      unfold impl_AreasValid.l0
      repeat' first
      | (with_reducible exact ih0 _ _ _)
      | (with_reducible exact ih1 _ _ _ _)
      | (with_reducible exact LeO.refl _)
      | (with_reducible exact LeO.none _)
      | (with_reducible refine LeO.ite ?_ ?_)
      | (with_reducible refine LeO.bind ?_ (fun _ => ?_))
      | exact ih0 _ _ _
      | exact ih1 _ _ _ _
      | exact LeO.none _
      | refine LeO.ite ?_ ?_
      | refine LeO.bind ?_ (fun _ => ?_)
theorem impl_AreasValid.mono : ∀ a0 a1 k, LeO (impl_AreasValid.f k a0 a1) (impl_AreasValid.f (k + 1) a0 a1) := by
  intro a0 a1 k
  obtain ⟨ih0, ih1⟩ := impl_AreasValid.mono_l k
  unfold impl_AreasValid.f
  repeat' first
      | (with_reducible exact ih0 _ _ _)
      | (with_reducible exact ih1 _ _ _ _)
      | (with_reducible exact LeO.refl _)
      | (with_reducible exact LeO.none _)
      | (with_reducible refine LeO.ite ?_ ?_)
      | (with_reducible refine LeO.bind ?_ (fun _ => ?_))
      | exact ih0 _ _ _
      | exact ih1 _ _ _ _
      | exact LeO.none _
      | refine LeO.ite ?_ ?_
      | refine LeO.bind ?_ (fun _ => ?_)
set_option maxHeartbeats 8000000 in
set_option maxRecDepth 100000 in
theorem impl_AreasValid.calls (k : Nat) (A0 : Option Addr) (c0 : Nat) (l0 : List Int) (a1 : Int) (r : Bool) (w : World) (hr0 : Kd.C (Kd.int .i64) w A0 l0.length l0) (hc0 : l0.length ≤ c0) (h : impl_AreasValid.f k l0 a1 = some r) :
    Calls Try.prog 27 #[.slice A0 l0.length c0, .int .i64 a1] w fun e w' => e = .returned (.bool r) ∧ Drawn0 w w' := by
  have HR0 := Aside0.mk hr0
  have HC0 := Aside0.mk hc0
  clear hr0 hc0
  have H : (if a1 < 1 then (impl_AreasValid.j0 k l0 a1 true) else (if a1 > 6 then (impl_AreasValid.j0 k l0 a1 true) else (impl_AreasValid.j0 k l0 a1 ((l0.length : Int) != (wrap64 (a1 * a1)))))) = some r := h
  clear h
  have HC3 := Aside0.mk H
  clear H
  go_enter Try.func27, Try.ntmps27
  go_upto_region 1 with (fail)
  go_cut [20] (fun v20 wc => ∃ (kq : Nat) (x20_2 : Bool), v20 = .bool x20_2 ∧ Aside0 (impl_AreasValid.j0 kq l0 a1 x20_2 = some r) ∧ Aside0 (kq ≤ k) ∧ Drawn0 w wc)
  case first =>
    have H := HC3.out
    clear HC3
    by_cases c4 : a1 < 1
    · rw [if_pos c4] at H
      have c4b0 : decide (a1 < 1) = true := decide_eq_true c4
      clear c4
      (first | rw [c4b0] | (simp only [i64_w, i32_w]; rw [c4b0]) | skip)
      have H' := Aside0.mk H
      clear H
      go_wp2
      go_meet
      case rel => exact ⟨_, (true), (by first | rfl | (simp; done) | (simp [*]; done)), H', ⟨by first | omega | exact Nat.le_refl _⟩, by repeat (first | exact Drawn0.refl _ | apply Drawn0.step)⟩
    · rw [if_neg c4] at H
      have c4b0 : decide (a1 < 1) = false := decide_eq_false c4
      clear c4
      (first | rw [c4b0] | (simp only [i64_w, i32_w]; rw [c4b0]) | skip)
      by_cases c5 : a1 > 6
      · rw [if_pos c5] at H
        have c5b0 : decide (6 < a1) = true := decide_eq_true c5
        clear c5
        have H' := Aside0.mk H
        clear H
        go_wp2
        go_meet
        case rel => exact ⟨_, (true), (by first | rfl | (simp; done) | (simp [*]; done)), H', ⟨by first | omega | exact Nat.le_refl _⟩, by repeat (first | exact Drawn0.refl _ | apply Drawn0.step)⟩
      · rw [if_neg c5] at H
        have c5b0 : decide (6 < a1) = false := decide_eq_false c5
        clear c5
        have H' := Aside0.mk H
        clear H
        go_wp2
        go_meet
        case rel => exact ⟨_, (((l0.length : Int) != (wrap64 (a1 * a1)))), (by first | rfl | (simp; done) | (simp [*]; done)), H', ⟨by first | omega | exact Nat.le_refl _⟩, by repeat (first | exact Drawn0.refl _ | apply Drawn0.step)⟩
  case rest =>
    clear HC3
    try clear c2
    try clear p2
    try clear c4
    try clear c4b0
    try clear c5
    try clear c5b0
    obtain ⟨kq, x20_2, rfl, HA, HJ2, ⟨mc2, rfl⟩⟩ := hcut
    cases kq with
    | zero => exact absurd HA.out (by simp [impl_AreasValid.j0])
    | succ kj2 =>
      have H := HA.out
      clear HA
      simp only [impl_AreasValid.j0] at H
      by_cases c6 : x20_2 = true
      · subst c6
        have H1 : (some false) = some r := by rw [if_pos rfl] at H; exact H
        clear H
        have H := H1
        clear H1
        obtain rfl := Option.some.inj H
        go_wp2
        go_ret
        exact ⟨by first | rfl | (simp; done) | (simp [*]; done), by repeat (first | exact Drawn0.refl _ | apply Drawn0.step)⟩
      · replace c6 := Bool.eq_false_iff.mpr c6
        subst c6
        have H1 : (impl_AreasValid.l0 kj2 a1 l0 (l0.length : Int) 0) = some r := by rw [if_neg (show ¬ (false = true) by decide)] at H; exact H
        clear H
        have H := H1
        clear H1
        have H' := Aside0.mk H
        clear H
        go_wp2
        go_loopg [23] kj2 (fun kq v23 w' => ∃ (x23_2 : Int), v23 = .int .i64 x23_2 ∧ Aside0 (impl_AreasValid.l0 kq a1 l0 (l0.length : Int) x23_2 = some r) ∧ Aside0 (kq ≤ kj2) ∧ Drawn0 w w')
        case atStart => exact ⟨(0), (by first | rfl | (simp; done) | (simp [*]; done)), H', ⟨Nat.le_refl _⟩, by repeat (first | exact Drawn0.refl _ | apply Drawn0.step)⟩
        case round =>
          clear H'
          try clear c2
          try clear p2
          try clear c4
          try clear c4b0
          try clear c5
          try clear c5b0
          try clear c6
          try clear p6
          try clear p2
          obtain ⟨x23_2, rfl, HA, HK2, ⟨m2, rfl⟩⟩ := hrel
          cases gk with
          | zero => exact absurd HA.out (by simp [impl_AreasValid.l0])
          | succ k2 =>
            have H := HA.out
            clear HA
            simp only [impl_AreasValid.l0] at H
            by_cases c7 : x23_2 < (l0.length : Int)
            · rw [if_pos c7] at H
              have c7b0 : decide (x23_2 < (l0.length : Int)) = true := decide_eq_true c7
              clear c7
              by_cases c8 : 0 ≤ x23_2
              · rw [if_pos c8] at H
                have c8b0 : decide (0 ≤ x23_2) = true := decide_eq_true c8
                clear c8
                by_cases c9 : x23_2 < (l0.length : Int)
                · rw [if_pos c9] at H
                  have c9b0 : decide (x23_2 < (l0.length : Int)) = true := decide_eq_true c9
                  clear c9
                  by_cases c10 : (rd l0 x23_2) < 0
                  · rw [if_pos c10] at H
                    have c10b0 : decide ((rd l0 x23_2) < 0) = true := decide_eq_true c10
                    clear c10
                    obtain rfl := Option.some.inj H
                    have p121 : 0 ≤ (x23_2 : Int) := of_decide_eq_true (by first | (with_reducible assumption) | assumption)
                    have q121 : x23_2 < (l0.length : Int) := of_decide_eq_true (by first | (with_reducible assumption) | assumption)
                    obtain ⟨ad121, e121, hx121_0⟩ := Kd.at_int HR0.out x23_2 p121 q121
                    cases e121
                    replace p121 := eq_true p121
                    replace q121 := eq_true q121
                    go_wp2
                    go_ret
                    exact ⟨by first | rfl | (simp; done) | (simp [*]; done), by repeat (first | exact Drawn0.refl _ | apply Drawn0.step)⟩
                  · rw [if_neg c10] at H
                    have c10b0 : decide ((rd l0 x23_2) < 0) = false := decide_eq_false c10
                    clear c10
                    by_cases c11 : (rd l0 x23_2) ≥ a1
                    · rw [if_pos c11] at H
                      have c11b0 : decide (a1 ≤ (rd l0 x23_2)) = true := decide_eq_true c11
                      clear c11
                      obtain rfl := Option.some.inj H
                      have p121 : 0 ≤ (x23_2 : Int) := of_decide_eq_true (by first | (with_reducible assumption) | assumption)
                      have q121 : x23_2 < (l0.length : Int) := of_decide_eq_true (by first | (with_reducible assumption) | assumption)
                      obtain ⟨ad121, e121, hx121_0⟩ := Kd.at_int HR0.out x23_2 p121 q121
                      cases e121
                      replace p121 := eq_true p121
                      replace q121 := eq_true q121
                      go_wp2
                      go_ret
                      exact ⟨by first | rfl | (simp; done) | (simp [*]; done), by repeat (first | exact Drawn0.refl _ | apply Drawn0.step)⟩
                    · rw [if_neg c11] at H
                      have c11b0 : decide (a1 ≤ (rd l0 x23_2)) = false := decide_eq_false c11
                      clear c11
                      have H' := Aside0.mk H
                      clear H
                      have p121 : 0 ≤ (x23_2 : Int) := of_decide_eq_true (by first | (with_reducible assumption) | assumption)
                      have q121 : x23_2 < (l0.length : Int) := of_decide_eq_true (by first | (with_reducible assumption) | assumption)
                      obtain ⟨ad121, e121, hx121_0⟩ := Kd.at_int HR0.out x23_2 p121 q121
                      cases e121
                      replace p121 := eq_true p121
                      replace q121 := eq_true q121
                      go_wp2
                      go_roundg k2
                      case measure => have := HJ2.out; have := HK2.out; omega
                      case rel => exact ⟨(wrap64 (x23_2 + 1)), (by first | rfl | (simp; done) | (simp [*]; done)), H', ⟨by have := HJ2.out; have := HK2.out; omega⟩, by repeat (first | exact Drawn0.refl _ | apply Drawn0.step)⟩
                · rw [if_neg c9] at H
                  exact absurd H (by simp)
              · rw [if_neg c8] at H
                exact absurd H (by simp)
            · rw [if_neg c7] at H
              have c7b0 : decide (x23_2 < (l0.length : Int)) = false := decide_eq_false c7
              clear c7
              obtain rfl := Option.some.inj H
              go_wp2
              go_ret
              exact ⟨by first | rfl | (simp; done) | (simp [*]; done), by repeat (first | exact Drawn0.refl _ | apply Drawn0.step)⟩

/-! ### impl_StarsFit: function 12 -/
--@import Derived.Test.YtcghheaelgjnfaaV0
open Go.Proofs.Ytcghheaelgjnfaa.My
--@import Derived.Deep.RegionHeld3
--@import Derived.StillTailTactics
def impl_StarsFit.l0 : Nat → List Int → Int → List Int → List Bool → List Bool → Int → Option Bool
  | 0, _, _, _, _, _, _ => none
  | k + 1, x0, x1, x2, c, u, r => if r < (x2.length : Int) then (if 0 ≤ r then (if rd x2 r < 0 then some false else (if rd x2 r ≥ x1 then some false else (if rd x2 r < 6 then (if rdOf false c (rd x2 r) = true then some false else (if 0 ≤ wrap64 (wrap64 (r * x1) + rd x2 r) then (if wrap64 (wrap64 (r * x1) + rd x2 r) < (x0.length : Int) then (if 0 ≤ rd x0 (wrap64 (wrap64 (r * x1) + rd x2 r)) then (if rd x0 (wrap64 (wrap64 (r * x1) + rd x2 r)) < 6 then (if rdOf false u (rd x0 (wrap64 (wrap64 (r * x1) + rd x2 r))) = true then some false else (if r > 0 then (if mx (wrap64 (rd x2 r - rd x2 (wrap64 (r - 1)))) (wrap64 (rd x2 (wrap64 (r - 1)) - rd x2 r)) < 2 then some false else (impl_StarsFit.l0 k x0 x1 x2 (c.set (rd x2 r).toNat true) (u.set (rd x0 (wrap64 (wrap64 (r * x1) + rd x2 r))).toNat true) (wrap64 (r + 1)))) else (impl_StarsFit.l0 k x0 x1 x2 (c.set (rd x2 r).toNat true) (u.set (rd x0 (wrap64 (wrap64 (r * x1) + rd x2 r))).toNat true) (wrap64 (r + 1))))) else none) else none) else none) else none)) else none))) else none) else some true
def impl_StarsFit.f (k : Nat) (l0 : List Int) (a1 : Int) (l2 : List Int) : Option Bool := (impl_AreasValid.f k l0 a1).bind fun b => (if b = true then (if (l2.length : Int) > a1 then some false else (impl_StarsFit.l0 k l0 a1 l2 [false, false, false, false, false, false] [false, false, false, false, false, false] 0)) else some false)
theorem impl_StarsFit.mono_l : ∀ k, (∀ y0 y1 y2 y3 y4 y5, LeO (impl_StarsFit.l0 k y0 y1 y2 y3 y4 y5) (impl_StarsFit.l0 (k + 1) y0 y1 y2 y3 y4 y5))
  | 0 => fun _ _ _ _ _ _ r h => by simp [impl_StarsFit.l0] at h
  | k + 1 => by
    have ih0 := impl_StarsFit.mono_l k
    · intro y0 y1 y2 y3 y4 y5
      unfold impl_StarsFit.l0
      repeat' first
      | (with_reducible exact ih0 _ _ _ _ _ _)
      | (with_reducible exact impl_AreasValid.mono _ _ _)
      | (with_reducible exact LeO.refl _)
      | (with_reducible exact LeO.none _)
      | (with_reducible refine LeO.ite ?_ ?_)
      | (with_reducible refine LeO.bind ?_ (fun _ => ?_))
      | exact ih0 _ _ _ _ _ _
      | exact impl_AreasValid.mono _ _ _
      | exact LeO.none _
      | refine LeO.ite ?_ ?_
      | refine LeO.bind ?_ (fun _ => ?_)
theorem impl_StarsFit.mono : ∀ a0 a1 a2 k, LeO (impl_StarsFit.f k a0 a1 a2) (impl_StarsFit.f (k + 1) a0 a1 a2) := by
  intro a0 a1 a2 k
  have ih0 := impl_StarsFit.mono_l k
  unfold impl_StarsFit.f
  repeat' first
      | (with_reducible exact ih0 _ _ _ _ _ _)
      | (with_reducible exact impl_AreasValid.mono _ _ _)
      | (with_reducible exact LeO.refl _)
      | (with_reducible exact LeO.none _)
      | (with_reducible refine LeO.ite ?_ ?_)
      | (with_reducible refine LeO.bind ?_ (fun _ => ?_))
      | exact ih0 _ _ _ _ _ _
      | exact impl_AreasValid.mono _ _ _
      | exact LeO.none _
      | refine LeO.ite ?_ ?_
      | refine LeO.bind ?_ (fun _ => ?_)
set_option maxHeartbeats 8000000 in
set_option maxRecDepth 100000 in
theorem impl_StarsFit.calls (k : Nat) (A0 : Option Addr) (c0 : Nat) (l0 : List Int) (a1 : Int) (A2 : Option Addr) (c2 : Nat) (l2 : List Int) (r : Bool) (w : World) (hr0 : Kd.C (Kd.int .i64) w A0 l0.length l0) (hc0 : l0.length ≤ c0) (hr2 : Kd.C (Kd.int .i64) w A2 l2.length l2) (hc2 : l2.length ≤ c2) (h : impl_StarsFit.f k l0 a1 l2 = some r) :
    Calls Try.prog 12 #[.slice A0 l0.length c0, .int .i64 a1, .slice A2 l2.length c2] w fun e w' => e = .returned (.bool r) ∧ Below w.heap.size w w' := by
  have hu39 := Try.underlying39
  unfold impl_StarsFit.f at h
  obtain ⟨b, hb, h⟩ := Option.bind_eq_some_iff.mp h
  have HA := Aside0.mk hb
  have HR0 := Aside0.mk hr0
  have HR2 := Aside0.mk hr2
  have HB := Aside0.mk (Below.refl w.heap.size w)
  clear hb hr0 hr2
  cases b with
  | false =>
    have e0 : false = r := Option.some.inj h
    subst e0
    clear h
    go_enter Try.func12, Try.ntmps12
    go_wp2_with (first | ((with_reducible refine gate_callee (f := 27) rfl ?_); refine goesL_ (some 13) rfl rfl Try.func27 (by kernel_rfl) rfl #[.slice A0 l0.length c0, .int .i64 a1] rfl (by (try simp only [List.map_toArray, List.map_cons, List.map_nil]); first | done | rfl) ?_; (with_reducible refine (impl_AreasValid.calls k A0 c0 l0 a1 _ _ HR0.out hc0 HA.out).mono ?_); rintro e wb ⟨rfl, hd⟩; have n1_ := Aside0.mk (drawn_below hd); clear HB; have HB := n1_; clear n1_ hd; refine ⟨_, rfl, ?_⟩))
    go_ret
    exact ⟨rfl, HB.out⟩
  | true =>
    replace h : (if (l2.length : Int) > a1 then some false else (impl_StarsFit.l0 k l0 a1 l2 [false, false, false, false, false, false] [false, false, false, false, false, false] 0)) = some r := h
    by_cases c1 : (l2.length : Int) > a1
    · rw [if_pos c1] at h
      have e0 : false = r := Option.some.inj h
      subst e0
      clear h
      have b1 : decide (a1 < (l2.length : Int)) = true := decide_eq_true c1
      clear c1
      go_enter Try.func12, Try.ntmps12
      go_wp2_with (first | ((with_reducible refine gate_callee (f := 27) rfl ?_); refine goesL_ (some 13) rfl rfl Try.func27 (by kernel_rfl) rfl #[.slice A0 l0.length c0, .int .i64 a1] rfl (by (try simp only [List.map_toArray, List.map_cons, List.map_nil]); first | done | rfl) ?_; (with_reducible refine (impl_AreasValid.calls k A0 c0 l0 a1 _ _ HR0.out hc0 HA.out).mono ?_); rintro e wb ⟨rfl, hd⟩; have n1_ := Aside0.mk (drawn_below hd); clear HB; have HB := n1_; clear n1_ hd; refine ⟨_, rfl, ?_⟩))
      go_ret
      exact ⟨rfl, HB.out⟩
    · rw [if_neg c1] at h
      have b1 : decide (a1 < (l2.length : Int)) = false := decide_eq_false c1
      clear c1
      have H' := Aside0.mk h
      clear h
      go_enter Try.func12, Try.ntmps12
      go_wp2_with (first | ((with_reducible refine gate_callee (f := 27) rfl ?_); refine goesL_ (some 13) rfl rfl Try.func27 (by kernel_rfl) rfl #[.slice A0 l0.length c0, .int .i64 a1] rfl (by (try simp only [List.map_toArray, List.map_cons, List.map_nil]); first | done | rfl) ?_; (with_reducible refine (impl_AreasValid.calls k A0 c0 l0 a1 _ _ HR0.out hc0 HA.out).mono ?_); rintro e wb ⟨rfl, hd⟩; have n1_ := Aside0.mk (drawn_below hd); clear HB; have HB := n1_; clear n1_ hd; refine ⟨_, rfl, ?_⟩))
      have HK0 : Aside0 (([false, false, false, false, false, false] : List Bool).length = 6 ∧ ([false, false, false, false, false, false] : List Bool).length = 6) := ⟨rfl, rfl⟩
      have HC := Aside0.mk (blk_alloc (blk_new wb (Obj.cells #[Value.bool false, Value.bool false, Value.bool false, Value.bool false, Value.bool false, Value.bool false] 39)) (Obj.cells #[Value.bool false, Value.bool false, Value.bool false, Value.bool false, Value.bool false, Value.bool false] 39))
      have HU : Aside0 (((wb.alloc (Obj.cells #[Value.bool false, Value.bool false, Value.bool false, Value.bool false, Value.bool false, Value.bool false] 39)).alloc (Obj.cells #[Value.bool false, Value.bool false, Value.bool false, Value.bool false, Value.bool false, Value.bool false] 39)).heap[wb.heap.size + 1]? = some (Obj.cells #[Value.bool false, Value.bool false, Value.bool false, Value.bool false, Value.bool false, Value.bool false] 39 (0, 0))) := ⟨by
        have h1 := blk_new (wb.alloc (Obj.cells #[Value.bool false, Value.bool false, Value.bool false, Value.bool false, Value.bool false, Value.bool false] 39)) (Obj.cells #[Value.bool false, Value.bool false, Value.bool false, Value.bool false, Value.bool false, Value.bool false] 39)
        simpa using h1⟩
      have HZ := Aside0.mk (below_size HB.out)
      go_loopg [25] k (fun kq v25 w' => ∃ (c u : List Bool) (i : Int), v25 = .int .i64 i ∧ Aside0 (impl_StarsFit.l0 kq l0 a1 l2 c u i = some r) ∧ Aside0 (kq ≤ k) ∧ Aside0 (c.length = 6 ∧ u.length = 6) ∧ Aside0 (w'.heap[wb.heap.size]? = some (Obj.cells (c.map Value.bool).toArray 39 (0, 0))) ∧ Aside0 (w'.heap[wb.heap.size + 1]? = some (Obj.cells (u.map Value.bool).toArray 39 (0, 0))) ∧ Aside0 (Below w.heap.size w w'))
      case atStart => exact ⟨_, _, 0, rfl, H', ⟨Nat.le_refl _⟩, HK0, HC, HU, ⟨(HB.out.alloc HB.out.size _).alloc (by have := HB.out.size; simp; omega) _⟩⟩
      case round =>
        clear H' HC HU HB HK0
        obtain ⟨c, u, i, rfl, HA, HK, HL, HC, HU, HB⟩ := hrel
        cases gk with
        | zero => exact absurd HA.out (by simp [impl_StarsFit.l0])
        | succ k1 =>
          have H := HA.out
          clear HA
          rw [impl_StarsFit.l0] at H
          by_cases c5 : i < (l2.length : Int)
          · rw [if_pos c5] at H
            have q5 := eq_true c5
            have c5b0 : decide (i < (l2.length : Int)) = true := decide_eq_true c5
            by_cases c6 : 0 ≤ i
            · rw [if_pos c6] at H
              have p5 := eq_true c6
              have p5b : decide (0 ≤ i) = true := decide_eq_true c6
              obtain ⟨ad, ead, hx0⟩ := Kd.at_int (Kd.C_below HR2.out HB.out) i c6 c5
              cases ead
              obtain ⟨v, hv⟩ : ∃ v, rd l2 i = v := ⟨_, rfl⟩
              rw [hv] at H hx0
              have Hv := Aside0.mk hv
              clear hv
              by_cases n1 : v < 0
              · rw [if_pos n1] at H
                have e0 : false = r := Option.some.inj H
                subst e0
                have d1 : decide (v < 0) = true := decide_eq_true n1
                clear H n1 c5 c6
                go_wp2
                go_quiet (fail)
                go_wp2
                go_ret
                exact ⟨rfl, by repeat (first | (with_reducible first | exact HB.out | apply below_alloc | apply pw_below_drewN | apply below_drew1) | exact HB.out)⟩
              · rw [if_neg n1] at H
                have d1 : decide (v < 0) = false := decide_eq_false n1
                by_cases n2 : v ≥ a1
                · rw [if_pos n2] at H
                  have e0 : false = r := Option.some.inj H
                  subst e0
                  have d2 : decide (a1 ≤ v) = true := decide_eq_true n2
                  clear H n1 n2 c5 c6
                  go_wp2
                  go_quiet (fail)
                  go_wp2
                  go_ret
                  exact ⟨rfl, by repeat (first | (with_reducible first | exact HB.out | apply below_alloc | apply pw_below_drewN | apply below_drew1) | exact HB.out)⟩
                · rw [if_neg n2] at H
                  have d2 : decide (a1 ≤ v) = false := decide_eq_false n2
                  by_cases n3 : v < 6
                  · rw [if_pos n3] at H
                    have p7 : (0 ≤ v) = True := eq_true (by omega)
                    have q7 : (v < 6) = True := eq_true n3
                    have hxc := bool_cell HC.out v (by omega) (by have := HL.out.1; omega)
                    by_cases n4 : rdOf false c v = true
                    · rw [if_pos n4] at H
                      have e0 : false = r := Option.some.inj H
                      subst e0
                      rw [n4] at hxc
                      clear H n1 n2 n3 n4 c5 c6
                      go_wp2
                      go_quiet (fail)
                      go_wp2
                      go_ret
                      exact ⟨rfl, by repeat (first | (with_reducible first | exact HB.out | apply below_alloc | apply pw_below_drewN | apply below_drew1) | exact HB.out)⟩
                    · rw [if_neg n4] at H
                      replace n4 := Bool.eq_false_iff.mpr n4
                      rw [n4] at hxc
                      obtain ⟨m, hm⟩ : ∃ m, wrap64 (i * a1) = m := ⟨_, rfl⟩
                      obtain ⟨j, hj⟩ : ∃ j, wrap64 (m + v) = j := ⟨_, rfl⟩
                      rw [hm, hj] at H
                      have hm' : IntKind.i64.wrap (i * a1) = m := by rw [i64_w]; exact hm
                      have hj' : IntKind.i64.wrap (m + v) = j := by rw [i64_w]; exact hj
                      by_cases n5 : 0 ≤ j
                      · rw [if_pos n5] at H
                        by_cases n6 : j < (l0.length : Int)
                        · rw [if_pos n6] at H
                          have p8 := eq_true n5
                          have q8 := eq_true n6
                          obtain ⟨ad0, ead0, hx1⟩ := Kd.at_int HR0.out j n5 n6
                          cases ead0
                          have hxs : ∀ n, ((wr.drewN n).setCell ⟨wb.heap.size, v.toNat, none⟩ (.bool true)).cell? (ad0.add j.toNat) = some (.int .i64 (rd l0 j)) := fun n => (((pw_below_drewN HB.out n).setCell HZ.out _).cell (World.block_lt_of_cell? w _ hx1)).trans hx1
                          replace hx1 := (HB.out.cell (World.block_lt_of_cell? w _ hx1)).trans hx1
                          obtain ⟨a, ha⟩ : ∃ a, rd l0 j = a := ⟨_, rfl⟩
                          rw [ha] at H hx1
                          simp only [ha] at hxs
                          have Ha := Aside0.mk ha
                          clear ha
                          by_cases n7 : 0 ≤ a
                          · rw [if_pos n7] at H
                            by_cases n8 : a < 6
                            · rw [if_pos n8] at H
                              have p9 := eq_true n7
                              have q9 := eq_true n8
                              have hxu := bool_cell HU.out a n7 (by have := HL.out.2; omega)
                              by_cases n9 : rdOf false u a = true
                              · rw [if_pos n9] at H
                                have e0 : false = r := Option.some.inj H
                                subst e0
                                rw [n9] at hxu
                                clear H n1 n2 n3 n4 n5 n6 n7 n8 n9 c5 c6
                                go_wp2
                                go_quiet (fail)
                                go_wp2
                                go_ret
                                exact ⟨rfl, by repeat (first | (with_reducible first | exact HB.out | apply below_alloc | apply pw_below_drewN | apply below_drew1) | exact HB.out)⟩
                              · rw [if_neg n9] at H
                                replace n9 := Bool.eq_false_iff.mpr n9
                                rw [n9] at hxu
                                have hfc : wr.frozen? ⟨wb.heap.size, v.toNat, none⟩ = false := blk_frozen HC.out _
                                have hfu : wr.frozen? ⟨wb.heap.size + 1, a.toNat, none⟩ = false := blk_frozen HU.out _
                                by_cases n10 : i > 0
                                · rw [if_pos n10] at H
                                  have d10 : decide (0 < i) = true := decide_eq_true n10
                                  have hi1 : wrap64 (i - 1) = i - 1 := by have := HR2.out.2.1; unfold wrap64; omega
                                  have hi1' : IntKind.i64.wrap (i - 1) = i - 1 := by rw [i64_w]; exact hi1
                                  rw [hi1] at H
                                  obtain ⟨i1, hi2⟩ : ∃ i1, i - 1 = i1 := ⟨_, rfl⟩
                                  have g1 : 0 ≤ i1 := by omega
                                  have g2 : i1 < (l2.length : Int) := by omega
                                  rw [hi2] at H hi1'
                                  have p11 := eq_true g1
                                  have q11 := eq_true g2
                                  obtain ⟨ad', ead', hx3⟩ := Kd.at_int (Kd.C_below HR2.out HB.out) i1 g1 g2
                                  obtain rfl : ad = ad' := (by injection ead')
                                  obtain ⟨v1, hv1⟩ : ∃ v, rd l2 i1 = v := ⟨_, rfl⟩
                                  rw [hv1] at H hx3
                                  obtain ⟨s1, hs1⟩ : ∃ s, wrap64 (v - v1) = s := ⟨_, rfl⟩
                                  obtain ⟨s2, hs2⟩ : ∃ s, wrap64 (v1 - v) = s := ⟨_, rfl⟩
                                  rw [hs1, hs2] at H
                                  have hs1' : IntKind.i64.wrap (v - v1) = s1 := by rw [i64_w]; exact hs1
                                  have hs2' : IntKind.i64.wrap (v1 - v) = s2 := by rw [i64_w]; exact hs2
                                  have Hv1 := Aside0.mk hv1
                                  clear hv1 hi1 ead'
                                  obtain ⟨s3, hs3⟩ : ∃ s, mx s1 s2 = s := ⟨_, rfl⟩
                                  rw [hs3] at H
                                  by_cases n12 : s1 < s2
                                  · have e3 : s3 = s2 := by rw [← hs3]; unfold mx; rw [if_pos n12]
                                    rw [e3] at H
                                    have z1 : (s2 ≤ s1) = False := eq_false (by omega)
                                    have z2 : (s1 < s2) = True := eq_true n12
                                    have z3 : decide (s1 < s2) = true := decide_eq_true n12
                                    clear hs3 e3
                                    by_cases n11 : s2 < 2
                                    · rw [if_pos n11] at H
                                      have e0 : false = r := Option.some.inj H
                                      subst e0
                                      have d11 : decide (s2 < 2) = true := decide_eq_true n11
                                      have d12 := eq_true n11
                                      clear H n1 n2 n3 n4 n5 n6 n7 n8 n9 n10 n11 n12 c5 c6 g1 g2
                                      go_wp2
                                      go_quiet (fail)
                                      go_wp2
                                      go_ret
                                      exact ⟨rfl, by repeat (first | (with_reducible first | exact HB.out | apply below_alloc | apply pw_below_drewN | apply below_drew1) | exact HB.out)⟩
                                    · rw [if_neg n11] at H
                                      have d11 : decide (s2 < 2) = false := decide_eq_false n11
                                      have d12 := eq_false n11
                                      have H' := Aside0.mk H
                                      clear H n1 n2 n3 n4 n5 n6 n7 n8 n9 n10 n11 n12 c5 c6 g1 g2
                                      go_wp2
                                      go_quiet (fail)
                                      go_wp2
                                      all_goals (go_region)
                                      go_wp2
                                      go_roundg k1
                                      case measure => have := HK.out; omega
                                      case rel => exact ⟨c.set v.toNat true, u.set a.toNat true, wrap64 (i + 1), by first | rfl | (simp; done) | (simp [*]; done), H', ⟨by have := HK.out; omega⟩, ⟨by rw [List.length_set, List.length_set]; exact HL.out⟩, ⟨by (with_reducible repeat (first | refine blk_drewN ?_ _ | refine blk_drew ?_)); refine blk_far ?_ (by simp) _; (with_reducible repeat (first | refine blk_drewN ?_ _ | refine blk_drew ?_)); exact bool_put (by (with_reducible repeat (first | refine blk_drewN ?_ _ | refine blk_drew ?_)); exact HC.out) v true⟩, ⟨by (with_reducible repeat (first | refine blk_drewN ?_ _ | refine blk_drew ?_)); refine bool_put ?_ a true; (with_reducible repeat (first | refine blk_drewN ?_ _ | refine blk_drew ?_)); exact blk_far (by (with_reducible repeat (first | refine blk_drewN ?_ _ | refine blk_drew ?_)); exact HU.out) (by simp) _⟩, ⟨by repeat (first | (with_reducible first | exact HB.out | apply below_alloc | apply pw_below_drewN | apply below_drew1 | refine below_set ?_ HZ.out | refine below_set ?_ (Nat.le_succ_of_le HZ.out)) | exact HB.out)⟩⟩
                                  · have e3 : s3 = s1 := by rw [← hs3]; unfold mx; rw [if_neg n12]
                                    rw [e3] at H
                                    have z1 : (s2 ≤ s1) = True := eq_true (by omega)
                                    have z2 : (s1 < s2) = False := eq_false n12
                                    have z3 : decide (s1 < s2) = false := decide_eq_false n12
                                    clear hs3 e3
                                    by_cases n11 : s1 < 2
                                    · rw [if_pos n11] at H
                                      have e0 : false = r := Option.some.inj H
                                      subst e0
                                      have d11 : decide (s1 < 2) = true := decide_eq_true n11
                                      have d12 := eq_true n11
                                      clear H n1 n2 n3 n4 n5 n6 n7 n8 n9 n10 n11 n12 c5 c6 g1 g2
                                      go_wp2
                                      go_quiet (fail)
                                      go_wp2
                                      go_ret
                                      exact ⟨rfl, by repeat (first | (with_reducible first | exact HB.out | apply below_alloc | apply pw_below_drewN | apply below_drew1) | exact HB.out)⟩
                                    · rw [if_neg n11] at H
                                      have d11 : decide (s1 < 2) = false := decide_eq_false n11
                                      have d12 := eq_false n11
                                      have H' := Aside0.mk H
                                      clear H n1 n2 n3 n4 n5 n6 n7 n8 n9 n10 n11 n12 c5 c6 g1 g2
                                      go_wp2
                                      go_quiet (fail)
                                      go_wp2
                                      all_goals (go_region)
                                      go_wp2
                                      go_roundg k1
                                      case measure => have := HK.out; omega
                                      case rel => exact ⟨c.set v.toNat true, u.set a.toNat true, wrap64 (i + 1), by first | rfl | (simp; done) | (simp [*]; done), H', ⟨by have := HK.out; omega⟩, ⟨by rw [List.length_set, List.length_set]; exact HL.out⟩, ⟨by (with_reducible repeat (first | refine blk_drewN ?_ _ | refine blk_drew ?_)); refine blk_far ?_ (by simp) _; (with_reducible repeat (first | refine blk_drewN ?_ _ | refine blk_drew ?_)); exact bool_put (by (with_reducible repeat (first | refine blk_drewN ?_ _ | refine blk_drew ?_)); exact HC.out) v true⟩, ⟨by (with_reducible repeat (first | refine blk_drewN ?_ _ | refine blk_drew ?_)); refine bool_put ?_ a true; (with_reducible repeat (first | refine blk_drewN ?_ _ | refine blk_drew ?_)); exact blk_far (by (with_reducible repeat (first | refine blk_drewN ?_ _ | refine blk_drew ?_)); exact HU.out) (by simp) _⟩, ⟨by repeat (first | (with_reducible first | exact HB.out | apply below_alloc | apply pw_below_drewN | apply below_drew1 | refine below_set ?_ HZ.out | refine below_set ?_ (Nat.le_succ_of_le HZ.out)) | exact HB.out)⟩⟩
                                · rw [if_neg n10] at H
                                  have d10 : decide (0 < i) = false := decide_eq_false n10
                                  have H' := Aside0.mk H
                                  clear H n1 n2 n3 n4 n5 n6 n7 n8 n9 n10 c5 c6
                                  go_wp2
                                  go_quiet (fail)
                                  go_wp2
                                  all_goals (go_region)
                                  go_wp2
                                  go_roundg k1
                                  case measure => have := HK.out; omega
                                  case rel => exact ⟨c.set v.toNat true, u.set a.toNat true, wrap64 (i + 1), by first | rfl | (simp; done) | (simp [*]; done), H', ⟨by have := HK.out; omega⟩, ⟨by rw [List.length_set, List.length_set]; exact HL.out⟩, ⟨by (with_reducible repeat (first | refine blk_drewN ?_ _ | refine blk_drew ?_)); refine blk_far ?_ (by simp) _; (with_reducible repeat (first | refine blk_drewN ?_ _ | refine blk_drew ?_)); exact bool_put (by (with_reducible repeat (first | refine blk_drewN ?_ _ | refine blk_drew ?_)); exact HC.out) v true⟩, ⟨by (with_reducible repeat (first | refine blk_drewN ?_ _ | refine blk_drew ?_)); refine bool_put ?_ a true; (with_reducible repeat (first | refine blk_drewN ?_ _ | refine blk_drew ?_)); exact blk_far (by (with_reducible repeat (first | refine blk_drewN ?_ _ | refine blk_drew ?_)); exact HU.out) (by simp) _⟩, ⟨by repeat (first | (with_reducible first | exact HB.out | apply below_alloc | apply pw_below_drewN | apply below_drew1 | refine below_set ?_ HZ.out | refine below_set ?_ (Nat.le_succ_of_le HZ.out)) | exact HB.out)⟩⟩
                            · rw [if_neg n8] at H
                              exact absurd H (by simp)
                          · rw [if_neg n7] at H
                            exact absurd H (by simp)
                        · rw [if_neg n6] at H
                          exact absurd H (by simp)
                      · rw [if_neg n5] at H
                        exact absurd H (by simp)
                  · rw [if_neg n3] at H
                    exact absurd H (by simp)
            · rw [if_neg c6] at H
              exact absurd H (by simp)
          · rw [if_neg c5] at H
            have c5b0 : decide (i < (l2.length : Int)) = false := decide_eq_false c5
            have e0 : true = r := Option.some.inj H
            subst e0
            clear H c5
            go_wp2_with fail
            go_ret
            exact ⟨rfl, HB.out⟩

/-! ### laws_eqIntS: function 13 -/
def laws_eqIntS.l0 : Nat → List Int → List Int → Int → Option (Bool)
  | 0, _, _, _ => none
  | k + 1, x0, x1, x5 => if x5 < (x0.length : Int) then (if 0 ≤ x5 then (if x5 < (x1.length : Int) then (if (rd x0 x5) = (rd x1 x5) then (laws_eqIntS.l0 k x0 x1 (wrap64 (x5 + 1))) else (some false)) else (none)) else (none)) else (some true)
def laws_eqIntS.f (k : Nat) (l0 : List Int) (l1 : List Int) : Option (Bool) := if (l0.length : Int) = (l1.length : Int) then (laws_eqIntS.l0 k l0 l1 0) else (some false)
theorem laws_eqIntS.mono_l : ∀ k, (∀ y0 y1 y2, LeO (laws_eqIntS.l0 k y0 y1 y2) (laws_eqIntS.l0 (k + 1) y0 y1 y2))
  | 0 => fun _ _ _ r h => by simp [laws_eqIntS.l0] at h
  | k + 1 => by
    have ih0 := laws_eqIntS.mono_l k
    · intro y0 y1 y2
      unfold laws_eqIntS.l0
      repeat' first
      | (with_reducible exact ih0 _ _ _)
      | (with_reducible exact LeO.refl _)
      | (with_reducible exact LeO.none _)
      | (with_reducible refine LeO.ite ?_ ?_)
      | (with_reducible refine LeO.bind ?_ (fun _ => ?_))
      | exact ih0 _ _ _
      | exact LeO.none _
      | refine LeO.ite ?_ ?_
      | refine LeO.bind ?_ (fun _ => ?_)
theorem laws_eqIntS.mono : ∀ a0 a1 k, LeO (laws_eqIntS.f k a0 a1) (laws_eqIntS.f (k + 1) a0 a1) := by
  intro a0 a1 k
  have ih0 := laws_eqIntS.mono_l k
  unfold laws_eqIntS.f
  repeat' first
      | (with_reducible exact ih0 _ _ _)
      | (with_reducible exact LeO.refl _)
      | (with_reducible exact LeO.none _)
      | (with_reducible refine LeO.ite ?_ ?_)
      | (with_reducible refine LeO.bind ?_ (fun _ => ?_))
      | exact ih0 _ _ _
      | exact LeO.none _
      | refine LeO.ite ?_ ?_
      | refine LeO.bind ?_ (fun _ => ?_)
set_option maxHeartbeats 8000000 in
set_option maxRecDepth 100000 in
theorem laws_eqIntS.calls (k : Nat) (A0 : Option Addr) (c0 : Nat) (l0 : List Int) (A1 : Option Addr) (c1 : Nat) (l1 : List Int) (r : Bool) (w : World) (hr0 : Kd.C (Kd.int .i64) w A0 l0.length l0) (hc0 : l0.length ≤ c0) (hr1 : Kd.C (Kd.int .i64) w A1 l1.length l1) (hc1 : l1.length ≤ c1) (h : laws_eqIntS.f k l0 l1 = some r) :
    Calls Try.prog 13 #[.slice A0 l0.length c0, .slice A1 l1.length c1] w fun e w' => e = .returned (.bool r) ∧ Drawn0 w w' := by
  have HR0 := Aside0.mk hr0
  have HC0 := Aside0.mk hc0
  clear hr0 hc0
  have HR1 := Aside0.mk hr1
  have HC1 := Aside0.mk hc1
  clear hr1 hc1
  have H : (if (l0.length : Int) = (l1.length : Int) then (laws_eqIntS.l0 k l0 l1 0) else (some false)) = some r := h
  clear h
  by_cases c3 : (l0.length : Int) = (l1.length : Int)
  · rw [if_pos c3] at H
    have c3b0 : ((l0.length : Int) == (l1.length : Int)) = true := beq_iff_eq.mpr c3
    have c3b1 : ((l0.length : Int) != (l1.length : Int)) = false := bne_eq_false_iff_eq.mpr c3
    have c3b2 : (l0.length == l1.length) = true := by first | simpa using c3 | (simp at c3 ⊢; omega)
    clear c3
    have H' := Aside0.mk H
    clear H
    go_enter Try.func13, Try.ntmps13
    go_wp2
    repeat (go_quiet (fail); try go_wp2)
    go_loopg [5] k (fun kq v5 w' => ∃ (x5_1 : Int), v5 = .int .i64 x5_1 ∧ Aside0 (laws_eqIntS.l0 kq l0 l1 x5_1 = some r) ∧ Aside0 (kq ≤ k) ∧ Drawn0 w w')
    case atStart => exact ⟨(0), (by first | rfl | (simp; done) | (simp [*]; done)), H', ⟨Nat.le_refl _⟩, by repeat (first | exact Drawn0.refl _ | apply Drawn0.step)⟩
    case round =>
      clear H'
      try clear c1
      try clear p2
      try clear c3
      try clear c3b0
      try clear c3b1
      try clear c3b2
      obtain ⟨x5_1, rfl, HA, HK1, ⟨m1, rfl⟩⟩ := hrel
      cases gk with
      | zero => exact absurd HA.out (by simp [laws_eqIntS.l0])
      | succ k1 =>
        have H := HA.out
        clear HA
        simp only [laws_eqIntS.l0] at H
        by_cases c4 : x5_1 < (l0.length : Int)
        · rw [if_pos c4] at H
          have c4b0 : decide (x5_1 < (l0.length : Int)) = true := decide_eq_true c4
          clear c4
          by_cases c5 : 0 ≤ x5_1
          · rw [if_pos c5] at H
            have c5b0 : decide (0 ≤ x5_1) = true := decide_eq_true c5
            clear c5
            by_cases c6 : x5_1 < (l1.length : Int)
            · rw [if_pos c6] at H
              have c6b0 : decide (x5_1 < (l1.length : Int)) = true := decide_eq_true c6
              clear c6
              by_cases c7 : (rd l0 x5_1) = (rd l1 x5_1)
              · rw [if_pos c7] at H
                have c7b0 : ((rd l0 x5_1) == (rd l1 x5_1)) = true := beq_iff_eq.mpr c7
                have c7b1 : ((rd l0 x5_1) != (rd l1 x5_1)) = false := bne_eq_false_iff_eq.mpr c7
                clear c7
                have H' := Aside0.mk H
                clear H
                have p122 : 0 ≤ (x5_1 : Int) := of_decide_eq_true (by first | (with_reducible assumption) | assumption)
                have q122 : x5_1 < (l0.length : Int) := of_decide_eq_true (by first | (with_reducible assumption) | assumption)
                obtain ⟨ad122, e122, hx122_0⟩ := Kd.at_int HR0.out x5_1 p122 q122
                cases e122
                replace p122 := eq_true p122
                replace q122 := eq_true q122
                have p123 : 0 ≤ (x5_1 : Int) := of_decide_eq_true (by first | (with_reducible assumption) | assumption)
                have q123 : x5_1 < (l1.length : Int) := of_decide_eq_true (by first | (with_reducible assumption) | assumption)
                obtain ⟨ad123, e123, hx123_0⟩ := Kd.at_int HR1.out x5_1 p123 q123
                cases e123
                replace p123 := eq_true p123
                replace q123 := eq_true q123
                go_wp2
                repeat (go_quiet (fail); try go_wp2)
                go_roundg k1
                case measure => have := HK1.out; omega
                case rel => exact ⟨(wrap64 (x5_1 + 1)), (by first | rfl | (simp; done) | (simp [*]; done)), H', ⟨by have := HK1.out; omega⟩, by repeat (first | exact Drawn0.refl _ | apply Drawn0.step)⟩
              · rw [if_neg c7] at H
                have c7b0 : ((rd l0 x5_1) == (rd l1 x5_1)) = false := beq_eq_false_iff_ne.mpr c7
                have c7b1 : ((rd l0 x5_1) != (rd l1 x5_1)) = true := bne_iff_ne.mpr c7
                obtain rfl := Option.some.inj H
                have p122 : 0 ≤ (x5_1 : Int) := of_decide_eq_true (by first | (with_reducible assumption) | assumption)
                have q122 : x5_1 < (l0.length : Int) := of_decide_eq_true (by first | (with_reducible assumption) | assumption)
                obtain ⟨ad122, e122, hx122_0⟩ := Kd.at_int HR0.out x5_1 p122 q122
                cases e122
                replace p122 := eq_true p122
                replace q122 := eq_true q122
                have p123 : 0 ≤ (x5_1 : Int) := of_decide_eq_true (by first | (with_reducible assumption) | assumption)
                have q123 : x5_1 < (l1.length : Int) := of_decide_eq_true (by first | (with_reducible assumption) | assumption)
                obtain ⟨ad123, e123, hx123_0⟩ := Kd.at_int HR1.out x5_1 p123 q123
                cases e123
                replace p123 := eq_true p123
                replace q123 := eq_true q123
                go_wp2
                repeat (go_quiet (fail); try go_wp2)
                go_ret
                exact ⟨by first | rfl | (simp; done) | (simp [*]; done), by repeat (first | exact Drawn0.refl _ | apply Drawn0.step)⟩
            · rw [if_neg c6] at H
              exact absurd H (by simp)
          · rw [if_neg c5] at H
            exact absurd H (by simp)
        · rw [if_neg c4] at H
          have c4b0 : decide (x5_1 < (l0.length : Int)) = false := decide_eq_false c4
          clear c4
          obtain rfl := Option.some.inj H
          go_wp2
          repeat (go_quiet (fail); try go_wp2)
          go_ret
          exact ⟨by first | rfl | (simp; done) | (simp [*]; done), by repeat (first | exact Drawn0.refl _ | apply Drawn0.step)⟩
  · rw [if_neg c3] at H
    have c3b0 : ((l0.length : Int) == (l1.length : Int)) = false := beq_eq_false_iff_ne.mpr c3
    have c3b1 : ((l0.length : Int) != (l1.length : Int)) = true := bne_iff_ne.mpr c3
    have c3b2 : (l0.length == l1.length) = false := by first | simpa using c3 | (simp at c3 ⊢; omega)
    obtain rfl := Option.some.inj H
    go_enter Try.func13, Try.ntmps13
    go_wp2
    repeat (go_quiet (fail); try go_wp2)
    go_ret
    exact ⟨by first | rfl | (simp; done) | (simp [*]; done), by repeat (first | exact Drawn0.refl _ | apply Drawn0.step)⟩

end Go.Proofs.Ytcghheaelgjnfaa.PFnExactStarsFit
