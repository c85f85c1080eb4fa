-- Made by a program of this session (a changed copy of the kit print): the kit print itself does not give this text
import Derived.Test.YtniinbnpdnajjaaPFnExactGridFormsx0
import Derived.Test.YtniinbnpdnajjaaPFnExactGridFormsx2
import Derived.Lib.LazyBuf
import Derived.Test.YtniinbnpdnajjaaV1
import Derived.Test.YtniinbnpdnajjaaV2
namespace Go.Proofs.Ytniinbnpdnajjaa.PFnExactGridForms
open Go.RowKit Go.Proofs.YtniinbnpdnajjaaW.PrintWords Go.Proofs.YtniinbnpdnajjaaW.PrintLast Go.Proofs.YtniinbnpdnajjaaW.PrintMore
attribute [local go_sem] max2_int min2_int max_two min_two max_three min_three max_four min_four   -- for this text's walks alone
set_option linter.unusedVariables false
set_option linter.unusedSimpArgs false

--@import Derived.Test.YtniinbnpdnajjaaV1
/-! ### impl_GridTurn: function 19 -/
mutual
def impl_GridTurn.l0 : Nat → List Int → Int → List Int → Int → Int → Option (List Int)
  | 0, _, _, _, _, _ => none
  | k + 1, x0, x1, x5, x15, x16 => if x16 < x15 then (impl_GridTurn.l1 k x0 x1 x5 x16 x15 x16 x1 0) else (some x5)
def impl_GridTurn.l1 : Nat → List Int → Int → List Int → Int → Int → Int → Int → Int → Option (List Int)
  | 0, _, _, _, _, _, _, _, _ => none
  | k + 1, x0, x1, x5, x6, x15, x16, x19, x20 => if x20 < x19 then (if 0 ≤ (wrap64 ((wrap64 ((wrap64 ((wrap64 (x1 - 1)) - x20)) * x1)) + x6)) then (if (wrap64 ((wrap64 ((wrap64 ((wrap64 (x1 - 1)) - x20)) * x1)) + x6)) < (x0.length : Int) then (if x5.length < 17592186044416 then (impl_GridTurn.l1 k x0 x1 (x5 ++ [rd x0 (wrap64 ((wrap64 ((wrap64 ((wrap64 (x1 - 1)) - x20)) * x1)) + x6))]) x6 x15 x16 x19 (wrap64 (x20 + 1))) else (none)) else (none)) else (none)) else (impl_GridTurn.l0 k x0 x1 x5 x15 (wrap64 (x16 + 1)))
end
def impl_GridTurn.f (k : Nat) (l0 : List Int) (a1 : Int) : Option (List Int) := (impl_GridValid.f k l0 a1).bind fun t130 => (if t130 = true then (if 0 ≤ (l0.length : Int) then (if ((l0.length : Int) : Int).toNat ≤ 35184372088832 then (impl_GridTurn.l0 k l0 a1 (([] : List Int)) a1 0) else (none)) else (none)) else (some ([] : List Int)))
theorem impl_GridTurn.mono_l : ∀ k, (∀ y0 y1 y2 y3 y4, LeO (impl_GridTurn.l0 k y0 y1 y2 y3 y4) (impl_GridTurn.l0 (k + 1) y0 y1 y2 y3 y4)) ∧ (∀ y0 y1 y2 y3 y4 y5 y6 y7, LeO (impl_GridTurn.l1 k y0 y1 y2 y3 y4 y5 y6 y7) (impl_GridTurn.l1 (k + 1) y0 y1 y2 y3 y4 y5 y6 y7))
  | 0 => ⟨fun _ _ _ _ _ r h => by simp [impl_GridTurn.l0] at h, fun _ _ _ _ _ _ _ _ r h => by simp [impl_GridTurn.l1] at h⟩
  | k + 1 => by
    obtain ⟨ih0, ih1⟩ := impl_GridTurn.mono_l k
    refine ⟨?_, ?_⟩
    · intro y0 y1 y2 y3 y4
      unfold impl_GridTurn.l0
      repeat' first
      | (with_reducible exact ih0 _ _ _ _ _)
      | (with_reducible exact ih1 _ _ _ _ _ _ _ _)
      | (with_reducible exact impl_GridValid.mono _ _ _)
      | (with_reducible exact LeO.refl _)
      | (with_reducible exact LeO.none _)
      | (with_reducible refine LeO.ite ?_ ?_)
      | (with_reducible refine LeO.bind ?_ (fun _ => ?_))
      | exact ih0 _ _ _ _ _
      | exact ih1 _ _ _ _ _ _ _ _
      | exact impl_GridValid.mono _ _ _
      | exact LeO.none _
      | refine LeO.ite ?_ ?_
      | refine LeO.bind ?_ (fun _ => ?_)
    · intro y0 y1 y2 y3 y4 y5 y6 y7
      unfold impl_GridTurn.l1
      repeat' first
      | (with_reducible exact ih0 _ _ _ _ _)
      | (with_reducible exact ih1 _ _ _ _ _ _ _ _)
      | (with_reducible exact impl_GridValid.mono _ _ _)
      | (with_reducible exact LeO.refl _)
      | (with_reducible exact LeO.none _)
      | (with_reducible refine LeO.ite ?_ ?_)
      | (with_reducible refine LeO.bind ?_ (fun _ => ?_))
      | exact ih0 _ _ _ _ _
      | exact ih1 _ _ _ _ _ _ _ _
      | exact impl_GridValid.mono _ _ _
      | exact LeO.none _
      | refine LeO.ite ?_ ?_
      | refine LeO.bind ?_ (fun _ => ?_)
theorem impl_GridTurn.mono : ∀ a0 a1 k, LeO (impl_GridTurn.f k a0 a1) (impl_GridTurn.f (k + 1) a0 a1) := by
  intro a0 a1 k
  obtain ⟨ih0, ih1⟩ := impl_GridTurn.mono_l k
  unfold impl_GridTurn.f
  repeat' first
      | (with_reducible exact ih0 _ _ _ _ _)
      | (with_reducible exact ih1 _ _ _ _ _ _ _ _)
      | (with_reducible exact impl_GridValid.mono _ _ _)
      | (with_reducible exact LeO.refl _)
      | (with_reducible exact LeO.none _)
      | (with_reducible refine LeO.ite ?_ ?_)
      | (with_reducible refine LeO.bind ?_ (fun _ => ?_))
      | exact ih0 _ _ _ _ _
      | exact ih1 _ _ _ _ _ _ _ _
      | exact impl_GridValid.mono _ _ _
      | exact LeO.none _
      | refine LeO.ite ?_ ?_
      | refine LeO.bind ?_ (fun _ => ?_)
set_option maxHeartbeats 8000000 in
set_option maxRecDepth 100000 in
theorem impl_GridTurn.calls (k : Nat) (A0 : Option Addr) (c0 : Nat) (l0 : List Int) (a1 : Int) (r : List Int) (w : World) (hr0 : Kd.C (Kd.int .i64) w A0 l0.length l0) (hc0 : l0.length ≤ c0) (h : impl_GridTurn.f k l0 a1 = some r) :
    Calls Try.prog 19 #[.slice A0 l0.length c0, .int .i64 a1] w fun e w' => ∃ v0_ : Value, e = .returned (v0_) ∧ Kd.R (Kd.int .i64) 3 w' w.heap.size (fun _ => True) v0_ r ∧ Below w.heap.size w w' := by
  have HR0 := Aside0.mk hr0
  have HC0 := Aside0.mk hc0
  clear hr0 hc0
  have HB := Aside0.mk (Below.refl w.heap.size w)
  have H : ((impl_GridValid.f k l0 a1).bind fun t130 => (if t130 = true then (if 0 ≤ (l0.length : Int) then (if ((l0.length : Int) : Int).toNat ≤ 35184372088832 then (impl_GridTurn.l0 k l0 a1 (([] : List Int)) a1 0) else (none)) else (none)) else (some ([] : List Int)))) = some r := h
  clear h
  replace H := Option.bind_eq_some_iff.mp H
  obtain ⟨t130, A30, H⟩ := H
  replace H : (if t130 = true then (if 0 ≤ (l0.length : Int) then (if ((l0.length : Int) : Int).toNat ≤ 35184372088832 then (impl_GridTurn.l0 k l0 a1 (([] : List Int)) a1 0) else (none)) else (none)) else (some ([] : List Int))) = some r := H
  have A3 := Aside0.mk A30
  clear A30
  by_cases c4 : t130 = true
  · subst c4
    have H1 : (if 0 ≤ (l0.length : Int) then (if ((l0.length : Int) : Int).toNat ≤ 35184372088832 then (impl_GridTurn.l0 k l0 a1 (([] : List Int)) a1 0) else (none)) else (none)) = some r := by rw [if_pos rfl] at H; exact H
    clear H
    have H := H1
    clear H1
    by_cases c5 : 0 ≤ (l0.length : Int)
    · rw [if_pos c5] at H
      have c5b0 := eq_true c5
      have c5b1 : decide (0 ≤ (l0.length : Int)) = true := decide_eq_true c5
      clear c5
      by_cases c6 : ((l0.length : Int) : Int).toNat ≤ 35184372088832
      · rw [if_pos c6] at H
        have c6b0 := eq_true c6
        have c6b1 : decide (((l0.length : Int) : Int).toNat ≤ 35184372088832) = true := decide_eq_true c6
        clear c6
        obtain ⟨y131, hy131⟩ : ∃ y_ : List Int, y_ = (([] : List Int)) := ⟨_, rfl⟩
        replace H : (impl_GridTurn.l0 k l0 a1 y131 a1 0) = some r := by first | (rw [hy131]; with_reducible exact H) | (have H2_ := (Option.bind_some _ _).symm.trans H; rw [hy131]; with_reducible exact H2_) | (have H2_ := (Option.bind_some _ _).symm.trans H; with_reducible exact H2_) | with_reducible exact H | (rw [hy131]; exact H) | exact H
        have Ny131 := Aside0.mk hy131
        clear hy131
        have H' := Aside0.mk H
        clear H
        go_enter Try.func19, Try.ntmps19
        go_wp2_with (first | ((with_reducible refine gate_callee (f := 54) rfl ?_); refine goesL_ (some 10) rfl rfl Try.func54 (by kernel_rfl) rfl #[.slice A0 l0.length c0, .int .i64 a1] rfl (by (try simp only [List.map_toArray, List.map_cons, List.map_nil]); first | done | rfl | (simp only [List.length_drop, List.length_take]; rfl)) ?_; (with_reducible refine (impl_GridValid.calls k _ _ l0 a1 true _ ?side1 ?side2 A3.out).mono ?_); (case side1 => repeat (first | exact HR0.out | (with_reducible refine Kd.C_alloc ?_ _) | (with_reducible refine Kd.C_drewN ?_ _) | (with_reducible refine Kd.C_drew ?_))); (case side2 => exact HC0.out); rintro e w' ⟨rfl, ⟨nd, rfl⟩⟩; refine ⟨_, rfl, ?_⟩) | ((with_reducible refine gate_dst (N := 14) rfl ?_); refine My.R_make0 (Kd.int .i64) _ 3 rfl (N := 14) rfl 25 _ _ rfl (l0.length : Int) rfl rfl Try.underlying25 (.int .i64 0) 8 info3 (by omega) (ok := fun _ => True) trivial (of_decide_eq_true (by first | (with_reducible assumption) | assumption)) (Nat.le_trans (Nat.mul_le_mul_right _ (of_decide_eq_true (by first | (with_reducible assumption) | assumption) : (l0.length : Int).toNat ≤ 35184372088832)) (by omega)) (Below.refl _ _) (Nat.le_refl _) ?_; intro v132 w7 ho8 hb hg_ hnew_; clear hg_ hnew_; (first | rw [← Ny131.out] at ho8 | (simp only [Int.reduceToNat] at ho8; rw [← Ny131.out] at ho8)); have n0_ := Aside0.mk (Kd.R_lower ho8 (below_size (by repeat (first | (with_reducible first | exact HB.out | apply below_alloc | apply pw_below_drewN | apply below_drew1) | exact HB.out)))); have n1_ := Aside0.mk (below_step (by repeat (first | (with_reducible first | exact HB.out | apply below_alloc | apply pw_below_drewN | apply below_drew1) | exact HB.out)) hb); clear HB; have HO133 := n0_; have HB := n1_; clear n0_ n1_; clear hb ho8))
        go_loopg [5, 16] k (fun kq v5 v16 w' => ∃ (x5_1 : List Int) (x16_1 : Int), v16 = .int .i64 x16_1 ∧ Aside0 (impl_GridTurn.l0 kq l0 a1 x5_1 a1 x16_1 = some r) ∧ Aside0 (kq ≤ k) ∧ Aside0 (Kd.R (Kd.int .i64) 3 w' w.heap.size (fun _ => True) v5 x5_1) ∧ Aside0 (Below w.heap.size w w'))
        case atStart => exact ⟨(y131), (0), (by first | rfl | (simp; done) | (simp [*]; done)), H', ⟨Nat.le_refl _⟩, ⟨by (with_reducible repeat (first | apply Kd.R_alloc | apply Kd.R_drewN | apply Kd.R_drew)); exact HO133.out⟩, ⟨by repeat (first | (with_reducible first | exact HB.out | apply below_alloc | apply pw_below_drewN | apply below_drew1) | exact HB.out)⟩⟩
        case round =>
          clear H'
          try clear c1
          try clear p2
          try clear c4
          try clear c5
          try clear c5b0
          try clear c5b1
          try clear c6
          try clear c6b0
          try clear c6b1
          obtain ⟨x5_1, x16_1, rfl, HA, HK1, HO_5, HB⟩ := hrel
          cases gk with
          | zero => exact absurd HA.out (by simp [impl_GridTurn.l0])
          | succ k1 =>
            have H := HA.out
            clear HA
            simp only [impl_GridTurn.l0] at H
            by_cases c9 : x16_1 < a1
            · rw [if_pos c9] at H
              have c9b0 : decide (x16_1 < a1) = true := decide_eq_true c9
              clear c9
              have H' := Aside0.mk H
              clear H
              go_wp2
              go_loopg [5, 20] k1 (fun kq v5 v20 w' => ∃ (x5_2 : List Int) (x20_2 : Int), v20 = .int .i64 x20_2 ∧ Aside0 (impl_GridTurn.l1 kq l0 a1 x5_2 x16_1 a1 x16_1 a1 x20_2 = some r) ∧ Aside0 (kq ≤ k1) ∧ Aside0 (Kd.R (Kd.int .i64) 3 w' w.heap.size (fun _ => True) v5 x5_2) ∧ Aside0 (Below w.heap.size w w'))
              case atStart => exact ⟨(x5_1), (0), (by first | rfl | (simp; done) | (simp [*]; done)), H', ⟨Nat.le_refl _⟩, ⟨by (with_reducible repeat (first | apply Kd.R_alloc | apply Kd.R_drewN | apply Kd.R_drew)); exact HO_5.out⟩, ⟨by repeat (first | (with_reducible first | exact HB.out | apply below_alloc | apply pw_below_drewN | apply below_drew1) | exact HB.out)⟩⟩
              case round =>
                clear H'
                try clear c1
                try clear p2
                try clear c4
                try clear c5
                try clear c5b0
                try clear c5b1
                try clear c6
                try clear c6b0
                try clear c6b1
                try clear c9
                try clear c9b0
                try clear p2
                obtain ⟨x5_2, x20_2, rfl, HA, HK2, HO_5, HB⟩ := hrel
                cases gk with
                | zero => exact absurd HA.out (by simp [impl_GridTurn.l1])
                | succ k2 =>
                  have H := HA.out
                  clear HA
                  simp only [impl_GridTurn.l1] at H
                  by_cases c10 : x20_2 < a1
                  · rw [if_pos c10] at H
                    have c10b0 : decide (x20_2 < a1) = true := decide_eq_true c10
                    clear c10
                    obtain ⟨ji11, hji11⟩ : ∃ j_ : Int, (wrap64 ((wrap64 ((wrap64 ((wrap64 (a1 - 1)) - x20_2)) * a1)) + x16_1)) = j_ := ⟨_, rfl⟩
                    replace H : (if 0 ≤ (ji11) then (if (ji11) < (l0.length : Int) then (if x5_2.length < 17592186044416 then (impl_GridTurn.l1 k2 l0 a1 (x5_2 ++ [rd l0 (ji11)]) x16_1 a1 x16_1 a1 (wrap64 (x20_2 + 1))) else (none)) else (none)) else (none)) = some r := by first | (rw [hji11] at H; exact H) | (simp only [hji11] at H ⊢; exact H)
                    have hji11w : (IntKind.i64.wrap ((wrap64 ((wrap64 ((wrap64 (a1 - 1)) - x20_2)) * a1)) + x16_1)) = ji11 := (i64_w _).trans hji11
                    by_cases c12 : 0 ≤ (ji11)
                    · rw [if_pos c12] at H
                      have c12b0 : decide (0 ≤ (ji11)) = true := decide_eq_true c12
                      clear c12
                      by_cases c13 : (ji11) < (l0.length : Int)
                      · rw [if_pos c13] at H
                        have c13b0 : decide ((ji11) < (l0.length : Int)) = true := decide_eq_true c13
                        clear c13
                        by_cases c14 : x5_2.length < 17592186044416
                        · rw [if_pos c14] at H
                          have LMc14 := Aside0.mk c14
                          clear c14
                          obtain ⟨y135, hy135⟩ : ∃ y_ : List Int, y_ = (x5_2 ++ [rd l0 (ji11)]) := ⟨_, rfl⟩
                          replace H : (impl_GridTurn.l1 k2 l0 a1 y135 x16_1 a1 x16_1 a1 (wrap64 (x20_2 + 1))) = some r := by first | (rw [hy135]; with_reducible exact H) | (have H2_ := (Option.bind_some _ _).symm.trans H; rw [hy135]; with_reducible exact H2_) | (have H2_ := (Option.bind_some _ _).symm.trans H; with_reducible exact H2_) | with_reducible exact H | (rw [hy135]; exact H) | exact H
                          have Ny135 := Aside0.mk hy135
                          clear hy135
                          have H' := Aside0.mk H
                          clear H
                          have p134 : 0 ≤ ((ji11) : Int) := of_decide_eq_true (by first | (with_reducible assumption) | assumption)
                          have q134 : (ji11) < (l0.length : Int) := of_decide_eq_true (by first | (with_reducible assumption) | assumption)
                          obtain ⟨ad134, e134, hx134_0⟩ := Kd.at_int HR0.out (ji11) p134 q134
                          cases e134
                          replace hx134_0 := (HB.out.cell (World.block_lt_of_cell? w _ hx134_0)).trans hx134_0
                          replace p134 := eq_true p134
                          replace q134 := eq_true q134
                          go_wp2_with (first | ((with_reducible refine gate_builtin (b := .append) (xs := #[.tmp 23, .tmp 35]) rfl ?_); at_builtin; refine Kd.R_append (Kd.int .i64) (w0 := w) w.heap.size rfl (.tmp 23) (.tmp 35) 25 3 (.int .i64 0) 8 rfl Try.underlying25 info3 rfl (by decide) (by omega) u5 x5_2 (rd l0 (ji11)) [.int .i64 (rd l0 (ji11))] (fun _ => True) (fun _ => False) rfl rfl ?aP (fun _ hk => hk.elim) ?aF ?aO ?aB ?aS ?aL ?_; (case aP => exact rfl); (case aB => exact (by repeat (first | (with_reducible first | exact HB.out | apply below_alloc | apply pw_below_drewN | apply below_drew1) | exact HB.out))); (case aF => exact (fun _ _ => trivial)); (case aO => exact (by (with_reducible repeat (first | apply Kd.R_alloc | apply Kd.R_drewN | apply Kd.R_drew)); exact HO_5.out)); (case aS => exact (below_size (by repeat (first | (with_reducible first | exact HB.out | apply below_alloc | apply pw_below_drewN | apply below_drew1) | exact HB.out)))); (case aL => have := LMc14.out; omega); intro v136 w15 ho hb hg hat; rw [← Ny135.out] at ho; have n0_ := Aside0.mk (hb); have n1_ := Aside0.mk (ho); clear HB; clear HO_5; have HB := n0_; have HO137 := n1_; clear n0_ n1_; clear ho hb hg hat))
                          go_roundg k2
                          case measure => have := HK1.out; have := HK2.out; omega
                          case rel => exact ⟨(y135), (wrap64 (x20_2 + 1)), (by first | rfl | (simp; done) | (simp [*]; done)), H', ⟨by have := HK1.out; have := HK2.out; omega⟩, ⟨by (with_reducible repeat (first | apply Kd.R_alloc | apply Kd.R_drewN | apply Kd.R_drew)); exact HO137.out⟩, ⟨by repeat (first | (with_reducible first | exact HB.out | apply below_alloc | apply pw_below_drewN | apply below_drew1) | exact HB.out)⟩⟩
                        · rw [if_neg c14] at H
                          exact absurd H (by simp)
                      · rw [if_neg c13] at H
                        exact absurd H (by simp)
                    · rw [if_neg c12] at H
                      exact absurd H (by simp)
                  · rw [if_neg c10] at H
                    have c10b0 : decide (x20_2 < a1) = false := decide_eq_false c10
                    clear c10
                    have H' := Aside0.mk H
                    clear H
                    go_wp2
                    go_roundg k2
                    case measure => have := HK1.out; have := HK2.out; omega
                    case rel => exact ⟨(x5_2), (wrap64 (x16_1 + 1)), (by first | rfl | (simp; done) | (simp [*]; done)), H', ⟨by have := HK1.out; have := HK2.out; omega⟩, ⟨by (with_reducible repeat (first | apply Kd.R_alloc | apply Kd.R_drewN | apply Kd.R_drew)); exact HO_5.out⟩, ⟨by repeat (first | (with_reducible first | exact HB.out | apply below_alloc | apply pw_below_drewN | apply below_drew1) | exact HB.out)⟩⟩
            · rw [if_neg c9] at H
              have c9b0 : decide (x16_1 < a1) = false := decide_eq_false c9
              clear c9
              obtain rfl := Option.some.inj H
              go_wp2
              go_ret
              exact ⟨_, by first | rfl | (simp [errW_none, errW_some] <;> rfl) | (simp [*, errW_none, errW_some] <;> rfl), by (with_reducible repeat (first | apply Kd.R_alloc | apply Kd.R_drewN | apply Kd.R_drew)); exact HO_5.out, by repeat (first | (with_reducible first | exact HB.out | apply below_alloc | apply pw_below_drewN | apply below_drew1) | exact HB.out)⟩
      · rw [if_neg c6] at H
        exact absurd H (by simp)
    · rw [if_neg c5] at H
      exact absurd H (by simp)
  · replace c4 := Bool.eq_false_iff.mpr c4
    subst c4
    have H1 : (some ([] : List Int)) = some r := by rw [if_neg (show ¬ (false = true) by decide)] at H; exact H
    clear H
    have H := H1
    clear H1
    obtain rfl := Option.some.inj H
    go_enter Try.func19, Try.ntmps19
    go_wp2_with (first | ((with_reducible refine gate_callee (f := 54) rfl ?_); refine goesL_ (some 10) rfl rfl Try.func54 (by kernel_rfl) rfl #[.slice A0 l0.length c0, .int .i64 a1] rfl (by (try simp only [List.map_toArray, List.map_cons, List.map_nil]); first | done | rfl | (simp only [List.length_drop, List.length_take]; rfl)) ?_; (with_reducible refine (impl_GridValid.calls k _ _ l0 a1 false _ ?side1 ?side2 A3.out).mono ?_); (case side1 => repeat (first | exact HR0.out | (with_reducible refine Kd.C_alloc ?_ _) | (with_reducible refine Kd.C_drewN ?_ _) | (with_reducible refine Kd.C_drew ?_))); (case side2 => exact HC0.out); rintro e w' ⟨rfl, ⟨nd, rfl⟩⟩; refine ⟨_, rfl, ?_⟩))
    go_ret
    exact ⟨_, by first | rfl | (simp [errW_none, errW_some] <;> rfl) | (simp [*, errW_none, errW_some] <;> rfl), by first | exact Kd.R_nil _ _ _ _ _ | exact Kd.N_nil _ _ _ _ _ | exact Kd.V_nil _ _ _ _ _ | exact Kd.Q_nil _ _ _ _ _ | exact Kd.S_nil _ _ _ _ _, by repeat (first | (with_reducible first | exact HB.out | apply below_alloc | apply pw_below_drewN | apply below_drew1) | exact HB.out)⟩

--@import Derived.Test.YtniinbnpdnajjaaV1
/-! ### impl_GridMirror: function 41 -/
mutual
def impl_GridMirror.l0 : Nat → List Int → Int → List Int → Int → Int → Option (List Int)
  | 0, _, _, _, _, _ => none
  | k + 1, x0, x1, x5, x15, x16 => if x16 < x15 then (impl_GridMirror.l1 k x0 x1 x5 x16 x15 x16 x1 0) else (some x5)
def impl_GridMirror.l1 : Nat → List Int → Int → List Int → Int → Int → Int → Int → Int → Option (List Int)
  | 0, _, _, _, _, _, _, _, _ => none
  | k + 1, x0, x1, x5, x6, x15, x16, x19, x20 => if x20 < x19 then (if 0 ≤ (wrap64 ((wrap64 ((wrap64 ((wrap64 (x6 * x1)) + x1)) - 1)) - x20)) then (if (wrap64 ((wrap64 ((wrap64 ((wrap64 (x6 * x1)) + x1)) - 1)) - x20)) < (x0.length : Int) then (if x5.length < 17592186044416 then (impl_GridMirror.l1 k x0 x1 (x5 ++ [rd x0 (wrap64 ((wrap64 ((wrap64 ((wrap64 (x6 * x1)) + x1)) - 1)) - x20))]) x6 x15 x16 x19 (wrap64 (x20 + 1))) else (none)) else (none)) else (none)) else (impl_GridMirror.l0 k x0 x1 x5 x15 (wrap64 (x16 + 1)))
end
def impl_GridMirror.f (k : Nat) (l0 : List Int) (a1 : Int) : Option (List Int) := (impl_GridValid.f k l0 a1).bind fun t138 => (if t138 = true then (if 0 ≤ (l0.length : Int) then (if ((l0.length : Int) : Int).toNat ≤ 35184372088832 then (impl_GridMirror.l0 k l0 a1 (([] : List Int)) a1 0) else (none)) else (none)) else (some ([] : List Int)))
theorem impl_GridMirror.mono_l : ∀ k, (∀ y0 y1 y2 y3 y4, LeO (impl_GridMirror.l0 k y0 y1 y2 y3 y4) (impl_GridMirror.l0 (k + 1) y0 y1 y2 y3 y4)) ∧ (∀ y0 y1 y2 y3 y4 y5 y6 y7, LeO (impl_GridMirror.l1 k y0 y1 y2 y3 y4 y5 y6 y7) (impl_GridMirror.l1 (k + 1) y0 y1 y2 y3 y4 y5 y6 y7))
  | 0 => ⟨fun _ _ _ _ _ r h => by simp [impl_GridMirror.l0] at h, fun _ _ _ _ _ _ _ _ r h => by simp [impl_GridMirror.l1] at h⟩
  | k + 1 => by
    obtain ⟨ih0, ih1⟩ := impl_GridMirror.mono_l k
    refine ⟨?_, ?_⟩
    · intro y0 y1 y2 y3 y4
      unfold impl_GridMirror.l0
      repeat' first
      | (with_reducible exact ih0 _ _ _ _ _)
      | (with_reducible exact ih1 _ _ _ _ _ _ _ _)
      | (with_reducible exact impl_GridValid.mono _ _ _)
      | (with_reducible exact LeO.refl _)
      | (with_reducible exact LeO.none _)
      | (with_reducible refine LeO.ite ?_ ?_)
      | (with_reducible refine LeO.bind ?_ (fun _ => ?_))
      | exact ih0 _ _ _ _ _
      | exact ih1 _ _ _ _ _ _ _ _
      | exact impl_GridValid.mono _ _ _
      | exact LeO.none _
      | refine LeO.ite ?_ ?_
      | refine LeO.bind ?_ (fun _ => ?_)
    · intro y0 y1 y2 y3 y4 y5 y6 y7
      unfold impl_GridMirror.l1
      repeat' first
      | (with_reducible exact ih0 _ _ _ _ _)
      | (with_reducible exact ih1 _ _ _ _ _ _ _ _)
      | (with_reducible exact impl_GridValid.mono _ _ _)
      | (with_reducible exact LeO.refl _)
      | (with_reducible exact LeO.none _)
      | (with_reducible refine LeO.ite ?_ ?_)
      | (with_reducible refine LeO.bind ?_ (fun _ => ?_))
      | exact ih0 _ _ _ _ _
      | exact ih1 _ _ _ _ _ _ _ _
      | exact impl_GridValid.mono _ _ _
      | exact LeO.none _
      | refine LeO.ite ?_ ?_
      | refine LeO.bind ?_ (fun _ => ?_)
theorem impl_GridMirror.mono : ∀ a0 a1 k, LeO (impl_GridMirror.f k a0 a1) (impl_GridMirror.f (k + 1) a0 a1) := by
  intro a0 a1 k
  obtain ⟨ih0, ih1⟩ := impl_GridMirror.mono_l k
  unfold impl_GridMirror.f
  repeat' first
      | (with_reducible exact ih0 _ _ _ _ _)
      | (with_reducible exact ih1 _ _ _ _ _ _ _ _)
      | (with_reducible exact impl_GridValid.mono _ _ _)
      | (with_reducible exact LeO.refl _)
      | (with_reducible exact LeO.none _)
      | (with_reducible refine LeO.ite ?_ ?_)
      | (with_reducible refine LeO.bind ?_ (fun _ => ?_))
      | exact ih0 _ _ _ _ _
      | exact ih1 _ _ _ _ _ _ _ _
      | exact impl_GridValid.mono _ _ _
      | exact LeO.none _
      | refine LeO.ite ?_ ?_
      | refine LeO.bind ?_ (fun _ => ?_)
set_option maxHeartbeats 8000000 in
set_option maxRecDepth 100000 in
theorem impl_GridMirror.calls (k : Nat) (A0 : Option Addr) (c0 : Nat) (l0 : List Int) (a1 : Int) (r : List Int) (w : World) (hr0 : Kd.C (Kd.int .i64) w A0 l0.length l0) (hc0 : l0.length ≤ c0) (h : impl_GridMirror.f k l0 a1 = some r) :
    Calls Try.prog 41 #[.slice A0 l0.length c0, .int .i64 a1] w fun e w' => ∃ v0_ : Value, e = .returned (v0_) ∧ Kd.R (Kd.int .i64) 3 w' w.heap.size (fun _ => True) v0_ r ∧ Below w.heap.size w w' := by
  have HR0 := Aside0.mk hr0
  have HC0 := Aside0.mk hc0
  clear hr0 hc0
  have HB := Aside0.mk (Below.refl w.heap.size w)
  have H : ((impl_GridValid.f k l0 a1).bind fun t138 => (if t138 = true then (if 0 ≤ (l0.length : Int) then (if ((l0.length : Int) : Int).toNat ≤ 35184372088832 then (impl_GridMirror.l0 k l0 a1 (([] : List Int)) a1 0) else (none)) else (none)) else (some ([] : List Int)))) = some r := h
  clear h
  replace H := Option.bind_eq_some_iff.mp H
  obtain ⟨t138, A30, H⟩ := H
  replace H : (if t138 = true then (if 0 ≤ (l0.length : Int) then (if ((l0.length : Int) : Int).toNat ≤ 35184372088832 then (impl_GridMirror.l0 k l0 a1 (([] : List Int)) a1 0) else (none)) else (none)) else (some ([] : List Int))) = some r := H
  have A3 := Aside0.mk A30
  clear A30
  by_cases c4 : t138 = true
  · subst c4
    have H1 : (if 0 ≤ (l0.length : Int) then (if ((l0.length : Int) : Int).toNat ≤ 35184372088832 then (impl_GridMirror.l0 k l0 a1 (([] : List Int)) a1 0) else (none)) else (none)) = some r := by rw [if_pos rfl] at H; exact H
    clear H
    have H := H1
    clear H1
    by_cases c5 : 0 ≤ (l0.length : Int)
    · rw [if_pos c5] at H
      have c5b0 := eq_true c5
      have c5b1 : decide (0 ≤ (l0.length : Int)) = true := decide_eq_true c5
      clear c5
      by_cases c6 : ((l0.length : Int) : Int).toNat ≤ 35184372088832
      · rw [if_pos c6] at H
        have c6b0 := eq_true c6
        have c6b1 : decide (((l0.length : Int) : Int).toNat ≤ 35184372088832) = true := decide_eq_true c6
        clear c6
        obtain ⟨y139, hy139⟩ : ∃ y_ : List Int, y_ = (([] : List Int)) := ⟨_, rfl⟩
        replace H : (impl_GridMirror.l0 k l0 a1 y139 a1 0) = some r := by first | (rw [hy139]; with_reducible exact H) | (have H2_ := (Option.bind_some _ _).symm.trans H; rw [hy139]; with_reducible exact H2_) | (have H2_ := (Option.bind_some _ _).symm.trans H; with_reducible exact H2_) | with_reducible exact H | (rw [hy139]; exact H) | exact H
        have Ny139 := Aside0.mk hy139
        clear hy139
        have H' := Aside0.mk H
        clear H
        go_enter Try.func41, Try.ntmps41
        go_wp2_with (first | ((with_reducible refine gate_callee (f := 54) rfl ?_); refine goesL_ (some 10) rfl rfl Try.func54 (by kernel_rfl) rfl #[.slice A0 l0.length c0, .int .i64 a1] rfl (by (try simp only [List.map_toArray, List.map_cons, List.map_nil]); first | done | rfl | (simp only [List.length_drop, List.length_take]; rfl)) ?_; (with_reducible refine (impl_GridValid.calls k _ _ l0 a1 true _ ?side1 ?side2 A3.out).mono ?_); (case side1 => repeat (first | exact HR0.out | (with_reducible refine Kd.C_alloc ?_ _) | (with_reducible refine Kd.C_drewN ?_ _) | (with_reducible refine Kd.C_drew ?_))); (case side2 => exact HC0.out); rintro e w' ⟨rfl, ⟨nd, rfl⟩⟩; refine ⟨_, rfl, ?_⟩) | ((with_reducible refine gate_dst (N := 14) rfl ?_); refine My.R_make0 (Kd.int .i64) _ 3 rfl (N := 14) rfl 25 _ _ rfl (l0.length : Int) rfl rfl Try.underlying25 (.int .i64 0) 8 info3 (by omega) (ok := fun _ => True) trivial (of_decide_eq_true (by first | (with_reducible assumption) | assumption)) (Nat.le_trans (Nat.mul_le_mul_right _ (of_decide_eq_true (by first | (with_reducible assumption) | assumption) : (l0.length : Int).toNat ≤ 35184372088832)) (by omega)) (Below.refl _ _) (Nat.le_refl _) ?_; intro v140 w7 ho8 hb hg_ hnew_; clear hg_ hnew_; (first | rw [← Ny139.out] at ho8 | (simp only [Int.reduceToNat] at ho8; rw [← Ny139.out] at ho8)); have n0_ := Aside0.mk (Kd.R_lower ho8 (below_size (by repeat (first | (with_reducible first | exact HB.out | apply below_alloc | apply pw_below_drewN | apply below_drew1) | exact HB.out)))); have n1_ := Aside0.mk (below_step (by repeat (first | (with_reducible first | exact HB.out | apply below_alloc | apply pw_below_drewN | apply below_drew1) | exact HB.out)) hb); clear HB; have HO141 := n0_; have HB := n1_; clear n0_ n1_; clear hb ho8))
        go_loopg [5, 16] k (fun kq v5 v16 w' => ∃ (x5_1 : List Int) (x16_1 : Int), v16 = .int .i64 x16_1 ∧ Aside0 (impl_GridMirror.l0 kq l0 a1 x5_1 a1 x16_1 = some r) ∧ Aside0 (kq ≤ k) ∧ Aside0 (Kd.R (Kd.int .i64) 3 w' w.heap.size (fun _ => True) v5 x5_1) ∧ Aside0 (Below w.heap.size w w'))
        case atStart => exact ⟨(y139), (0), (by first | rfl | (simp; done) | (simp [*]; done)), H', ⟨Nat.le_refl _⟩, ⟨by (with_reducible repeat (first | apply Kd.R_alloc | apply Kd.R_drewN | apply Kd.R_drew)); exact HO141.out⟩, ⟨by repeat (first | (with_reducible first | exact HB.out | apply below_alloc | apply pw_below_drewN | apply below_drew1) | exact HB.out)⟩⟩
        case round =>
          clear H'
          try clear p2
          try clear c4
          try clear c5
          try clear c5b0
          try clear c5b1
          try clear c6
          try clear c6b0
          try clear c6b1
          obtain ⟨x5_1, x16_1, rfl, HA, HK1, HO_5, HB⟩ := hrel
          cases gk with
          | zero => exact absurd HA.out (by simp [impl_GridMirror.l0])
          | succ k1 =>
            have H := HA.out
            clear HA
            simp only [impl_GridMirror.l0] at H
            by_cases c9 : x16_1 < a1
            · rw [if_pos c9] at H
              have c9b0 : decide (x16_1 < a1) = true := decide_eq_true c9
              clear c9
              have H' := Aside0.mk H
              clear H
              go_wp2
              go_loopg [5, 20] k1 (fun kq v5 v20 w' => ∃ (x5_2 : List Int) (x20_2 : Int), v20 = .int .i64 x20_2 ∧ Aside0 (impl_GridMirror.l1 kq l0 a1 x5_2 x16_1 a1 x16_1 a1 x20_2 = some r) ∧ Aside0 (kq ≤ k1) ∧ Aside0 (Kd.R (Kd.int .i64) 3 w' w.heap.size (fun _ => True) v5 x5_2) ∧ Aside0 (Below w.heap.size w w'))
              case atStart => exact ⟨(x5_1), (0), (by first | rfl | (simp; done) | (simp [*]; done)), H', ⟨Nat.le_refl _⟩, ⟨by (with_reducible repeat (first | apply Kd.R_alloc | apply Kd.R_drewN | apply Kd.R_drew)); exact HO_5.out⟩, ⟨by repeat (first | (with_reducible first | exact HB.out | apply below_alloc | apply pw_below_drewN | apply below_drew1) | exact HB.out)⟩⟩
              case round =>
                clear H'
                try clear p2
                try clear c4
                try clear c5
                try clear c5b0
                try clear c5b1
                try clear c6
                try clear c6b0
                try clear c6b1
                try clear c9
                try clear c9b0
                try clear p2
                obtain ⟨x5_2, x20_2, rfl, HA, HK2, HO_5, HB⟩ := hrel
                cases gk with
                | zero => exact absurd HA.out (by simp [impl_GridMirror.l1])
                | succ k2 =>
                  have H := HA.out
                  clear HA
                  simp only [impl_GridMirror.l1] at H
                  by_cases c10 : x20_2 < a1
                  · rw [if_pos c10] at H
                    have c10b0 : decide (x20_2 < a1) = true := decide_eq_true c10
                    clear c10
                    obtain ⟨ji11, hji11⟩ : ∃ j_ : Int, (wrap64 ((wrap64 ((wrap64 ((wrap64 (x16_1 * a1)) + a1)) - 1)) - x20_2)) = j_ := ⟨_, rfl⟩
                    replace H : (if 0 ≤ (ji11) then (if (ji11) < (l0.length : Int) then (if x5_2.length < 17592186044416 then (impl_GridMirror.l1 k2 l0 a1 (x5_2 ++ [rd l0 (ji11)]) x16_1 a1 x16_1 a1 (wrap64 (x20_2 + 1))) else (none)) else (none)) else (none)) = some r := by first | (rw [hji11] at H; exact H) | (simp only [hji11] at H ⊢; exact H)
                    have hji11w : (IntKind.i64.wrap ((wrap64 ((wrap64 ((wrap64 (x16_1 * a1)) + a1)) - 1)) - x20_2)) = ji11 := (i64_w _).trans hji11
                    by_cases c12 : 0 ≤ (ji11)
                    · rw [if_pos c12] at H
                      have c12b0 : decide (0 ≤ (ji11)) = true := decide_eq_true c12
                      clear c12
                      by_cases c13 : (ji11) < (l0.length : Int)
                      · rw [if_pos c13] at H
                        have c13b0 : decide ((ji11) < (l0.length : Int)) = true := decide_eq_true c13
                        clear c13
                        by_cases c14 : x5_2.length < 17592186044416
                        · rw [if_pos c14] at H
                          have LMc14 := Aside0.mk c14
                          clear c14
                          obtain ⟨y143, hy143⟩ : ∃ y_ : List Int, y_ = (x5_2 ++ [rd l0 (ji11)]) := ⟨_, rfl⟩
                          replace H : (impl_GridMirror.l1 k2 l0 a1 y143 x16_1 a1 x16_1 a1 (wrap64 (x20_2 + 1))) = some r := by first | (rw [hy143]; with_reducible exact H) | (have H2_ := (Option.bind_some _ _).symm.trans H; rw [hy143]; with_reducible exact H2_) | (have H2_ := (Option.bind_some _ _).symm.trans H; with_reducible exact H2_) | with_reducible exact H | (rw [hy143]; exact H) | exact H
                          have Ny143 := Aside0.mk hy143
                          clear hy143
                          have H' := Aside0.mk H
                          clear H
                          have p142 : 0 ≤ ((ji11) : Int) := of_decide_eq_true (by first | (with_reducible assumption) | assumption)
                          have q142 : (ji11) < (l0.length : Int) := of_decide_eq_true (by first | (with_reducible assumption) | assumption)
                          obtain ⟨ad142, e142, hx142_0⟩ := Kd.at_int HR0.out (ji11) p142 q142
                          cases e142
                          replace hx142_0 := (HB.out.cell (World.block_lt_of_cell? w _ hx142_0)).trans hx142_0
                          replace p142 := eq_true p142
                          replace q142 := eq_true q142
                          go_wp2_with (first | ((with_reducible refine gate_builtin (b := .append) (xs := #[.tmp 23, .tmp 35]) rfl ?_); at_builtin; refine Kd.R_append (Kd.int .i64) (w0 := w) w.heap.size rfl (.tmp 23) (.tmp 35) 25 3 (.int .i64 0) 8 rfl Try.underlying25 info3 rfl (by decide) (by omega) u5 x5_2 (rd l0 (ji11)) [.int .i64 (rd l0 (ji11))] (fun _ => True) (fun _ => False) rfl rfl ?aP (fun _ hk => hk.elim) ?aF ?aO ?aB ?aS ?aL ?_; (case aP => exact rfl); (case aB => exact (by repeat (first | (with_reducible first | exact HB.out | apply below_alloc | apply pw_below_drewN | apply below_drew1) | exact HB.out))); (case aF => exact (fun _ _ => trivial)); (case aO => exact (by (with_reducible repeat (first | apply Kd.R_alloc | apply Kd.R_drewN | apply Kd.R_drew)); exact HO_5.out)); (case aS => exact (below_size (by repeat (first | (with_reducible first | exact HB.out | apply below_alloc | apply pw_below_drewN | apply below_drew1) | exact HB.out)))); (case aL => have := LMc14.out; omega); intro v144 w15 ho hb hg hat; rw [← Ny143.out] at ho; have n0_ := Aside0.mk (hb); have n1_ := Aside0.mk (ho); clear HB; clear HO_5; have HB := n0_; have HO145 := n1_; clear n0_ n1_; clear ho hb hg hat))
                          go_roundg k2
                          case measure => have := HK1.out; have := HK2.out; omega
                          case rel => exact ⟨(y143), (wrap64 (x20_2 + 1)), (by first | rfl | (simp; done) | (simp [*]; done)), H', ⟨by have := HK1.out; have := HK2.out; omega⟩, ⟨by (with_reducible repeat (first | apply Kd.R_alloc | apply Kd.R_drewN | apply Kd.R_drew)); exact HO145.out⟩, ⟨by repeat (first | (with_reducible first | exact HB.out | apply below_alloc | apply pw_below_drewN | apply below_drew1) | exact HB.out)⟩⟩
                        · rw [if_neg c14] at H
                          exact absurd H (by simp)
                      · rw [if_neg c13] at H
                        exact absurd H (by simp)
                    · rw [if_neg c12] at H
                      exact absurd H (by simp)
                  · rw [if_neg c10] at H
                    have c10b0 : decide (x20_2 < a1) = false := decide_eq_false c10
                    clear c10
                    have H' := Aside0.mk H
                    clear H
                    go_wp2
                    go_roundg k2
                    case measure => have := HK1.out; have := HK2.out; omega
                    case rel => exact ⟨(x5_2), (wrap64 (x16_1 + 1)), (by first | rfl | (simp; done) | (simp [*]; done)), H', ⟨by have := HK1.out; have := HK2.out; omega⟩, ⟨by (with_reducible repeat (first | apply Kd.R_alloc | apply Kd.R_drewN | apply Kd.R_drew)); exact HO_5.out⟩, ⟨by repeat (first | (with_reducible first | exact HB.out | apply below_alloc | apply pw_below_drewN | apply below_drew1) | exact HB.out)⟩⟩
            · rw [if_neg c9] at H
              have c9b0 : decide (x16_1 < a1) = false := decide_eq_false c9
              clear c9
              obtain rfl := Option.some.inj H
              go_wp2
              go_ret
              exact ⟨_, by first | rfl | (simp [errW_none, errW_some] <;> rfl) | (simp [*, errW_none, errW_some] <;> rfl), by (with_reducible repeat (first | apply Kd.R_alloc | apply Kd.R_drewN | apply Kd.R_drew)); exact HO_5.out, by repeat (first | (with_reducible first | exact HB.out | apply below_alloc | apply pw_below_drewN | apply below_drew1) | exact HB.out)⟩
      · rw [if_neg c6] at H
        exact absurd H (by simp)
    · rw [if_neg c5] at H
      exact absurd H (by simp)
  · replace c4 := Bool.eq_false_iff.mpr c4
    subst c4
    have H1 : (some ([] : List Int)) = some r := by rw [if_neg (show ¬ (false = true) by decide)] at H; exact H
    clear H
    have H := H1
    clear H1
    obtain rfl := Option.some.inj H
    go_enter Try.func41, Try.ntmps41
    go_wp2_with (first | ((with_reducible refine gate_callee (f := 54) rfl ?_); refine goesL_ (some 10) rfl rfl Try.func54 (by kernel_rfl) rfl #[.slice A0 l0.length c0, .int .i64 a1] rfl (by (try simp only [List.map_toArray, List.map_cons, List.map_nil]); first | done | rfl | (simp only [List.length_drop, List.length_take]; rfl)) ?_; (with_reducible refine (impl_GridValid.calls k _ _ l0 a1 false _ ?side1 ?side2 A3.out).mono ?_); (case side1 => repeat (first | exact HR0.out | (with_reducible refine Kd.C_alloc ?_ _) | (with_reducible refine Kd.C_drewN ?_ _) | (with_reducible refine Kd.C_drew ?_))); (case side2 => exact HC0.out); rintro e w' ⟨rfl, ⟨nd, rfl⟩⟩; refine ⟨_, rfl, ?_⟩))
    go_ret
    exact ⟨_, by first | rfl | (simp [errW_none, errW_some] <;> rfl) | (simp [*, errW_none, errW_some] <;> rfl), by first | exact Kd.R_nil _ _ _ _ _ | exact Kd.N_nil _ _ _ _ _ | exact Kd.V_nil _ _ _ _ _ | exact Kd.Q_nil _ _ _ _ _ | exact Kd.S_nil _ _ _ _ _, by repeat (first | (with_reducible first | exact HB.out | apply below_alloc | apply pw_below_drewN | apply below_drew1) | exact HB.out)⟩

--@import Derived.Lib.LazyBuf
/-! ### slices_Clone_int_int: function 50 -/
def slices_Clone_int_int.f (l0 : List Int) : Option (List Int) := (some (([] : List Int) : List Int)).bind fun y146 => (if y146.length + l0.length < 17592186044416 then (some (y146 ++ l0)) else (none))
set_option maxHeartbeats 8000000 in
set_option maxRecDepth 100000 in
theorem slices_Clone_int_int.calls (A0 : Option Addr) (c0 : Nat) (l0 : List Int) (r : List Int) (w : World) (hr0 : Kd.C (Kd.int .i64) w A0 l0.length l0) (hc0 : l0.length ≤ c0) (h : slices_Clone_int_int.f l0 = some r) :
    Calls Try.prog 50 #[.slice A0 l0.length c0] w fun e w' => ∃ v0_ : Value, e = .returned (v0_) ∧ Kd.R (Kd.int .i64) 3 w' w.heap.size (fun _ => True) v0_ r ∧ Below w.heap.size w w' := by
  cases A0 with
  | none =>
    have hl : l0 = [] := by
      rcases Nat.eq_zero_or_pos l0.length with h0 | h0
      · exact List.eq_nil_of_length_eq_zero h0
      · obtain ⟨ad, e, _⟩ := hr0.2.2 h0
        cases e
    subst hl
    have HB := Aside0.mk (Below.refl w.heap.size w)
    have hr : r = [] := by
      have H : some ([] : List Int) = some r := h
      exact (Option.some.inj H).symm
    subst hr
    clear h hr0 hc0
    have hnil := fun (w_ : World) (a_ : Option Addr) (l_ c_ : Nat) => Go.run_eql_slice_nil (P := Try.prog) w_ 25 3 a_ l_ c_ Try.underlying25
    go_enter Try.func50, Try.ntmps50
    go_wp2
    go_ret
    exact ⟨_, by first | rfl | (simp; done), Kd.R_nil _ _ _ _ _, by repeat (first | (with_reducible first | exact HB.out | apply below_alloc | apply pw_below_drewN | apply below_drew1) | exact HB.out)⟩
  | some ad0 =>
    have HR0 := Aside0.mk hr0
    have HC0 := Aside0.mk hc0
    clear hr0 hc0
    have HB := Aside0.mk (Below.refl w.heap.size w)
    have H : ((some (([] : List Int) : List Int)).bind fun y146 => (if y146.length + l0.length < 17592186044416 then (some (y146 ++ l0)) else (none))) = some r := h
    clear h
    obtain ⟨y146, hy146⟩ : ∃ y_ : List Int, y_ = (([] : List Int)) := ⟨_, rfl⟩
    replace H : (if y146.length + l0.length < 17592186044416 then (some (y146 ++ l0)) else (none)) = some r := by first | (rw [hy146]; with_reducible exact H) | (have H2_ := (Option.bind_some _ _).symm.trans H; rw [hy146]; with_reducible exact H2_) | (have H2_ := (Option.bind_some _ _).symm.trans H; with_reducible exact H2_) | with_reducible exact H | (rw [hy146]; exact H) | exact H
    have Ny146 := Aside0.mk hy146
    clear hy146
    by_cases c2 : y146.length + l0.length < 17592186044416
    · rw [if_pos c2] at H
      have LMc2 := Aside0.mk c2
      clear c2
      obtain ⟨y149, hy149⟩ : ∃ y_ : List Int, y_ = (y146 ++ l0) := ⟨_, rfl⟩
      replace H : (some y149) = some r := by first | (rw [hy149]; with_reducible exact H) | (have H2_ := (Option.bind_some _ _).symm.trans H; rw [hy149]; with_reducible exact H2_) | (have H2_ := (Option.bind_some _ _).symm.trans H; with_reducible exact H2_) | with_reducible exact H | (rw [hy149]; exact H) | exact H
      have Ny149 := Aside0.mk hy149
      clear hy149
      obtain rfl := Option.some.inj H
      have hnil := fun (w_ : World) (a_ : Option Addr) (l_ c_ : Nat) => Go.run_eql_slice_nil (P := Try.prog) w_ 25 3 a_ l_ c_ Try.underlying25
      go_enter Try.func50, Try.ntmps50
      go_wp2_with (first | ((with_reducible refine gate_dst (N := 5) rfl ?_); refine Kd.R_lit (Kd.int .i64) _ 3 ?hg (N := 5) ?hd (xs := ([] : List Int)) (inner := []) (ok := fun _ => True) (okp := fun _ => True) ?hr ?hp (fun _ hk => hk) trivial (Below.refl _ _) (Nat.le_refl _) (by simp) ?_; (case hd => rfl); (case hg => rfl); (case hr => first | (go_simp; done) | (go_simp; rfl)); (case hp => exact (Reps.none _ _)); intro v147 w3 ho4 hb hg_ hnew_; clear hg_ hnew_; (first | rw [← Ny146.out] at ho4 | (simp only [Int.reduceToNat] at ho4; rw [← Ny146.out] at ho4)); have n0_ := Aside0.mk (Kd.R_lower ho4 (below_size (by repeat (first | (with_reducible first | exact HB.out | apply below_alloc | apply pw_below_drewN | apply below_drew1) | exact HB.out)))); have n1_ := Aside0.mk (below_step (by repeat (first | (with_reducible first | exact HB.out | apply below_alloc | apply pw_below_drewN | apply below_drew1) | exact HB.out)) hb); clear HB; have HO148 := n0_; have HB := n1_; clear n0_ n1_; clear hb ho4) | ((with_reducible refine gate_builtin (b := .append) (xs := #[.tmp 5, .tmp 6]) rfl ?_); at_builtin; refine Kd.R_append_rows (Kd.int .i64) (w0 := w) w.heap.size rfl (.tmp 5) (.tmp 6) 25 3 (.int .i64 0) 8 rfl Try.underlying25 info3 rfl (by decide) (by omega) v147 y146 l0 _ _ _ (fun _ => True) (fun _ => False) rfl rfl ?aO ?aR (fun _ _ h => h) (fun _ h => h.elim) ?aF ?aB ?aS ?aL ?_; (case aR => repeat (first | exact (Kd.C_below HR0.out HB.out) | (with_reducible refine Kd.C_alloc ?_ _) | (with_reducible refine Kd.C_drewN ?_ _) | (with_reducible refine Kd.C_drew ?_))); (case aB => exact (by repeat (first | (with_reducible first | exact HB.out | apply below_alloc | apply pw_below_drewN | apply below_drew1) | exact HB.out))); (case aF => exact (fun _ _ => trivial)); (case aO => exact (by (with_reducible repeat (first | apply Kd.R_alloc | apply Kd.R_drewN | apply Kd.R_drew)); exact HO148.out)); (case aS => exact (below_size (by repeat (first | (with_reducible first | exact HB.out | apply below_alloc | apply pw_below_drewN | apply below_drew1) | exact HB.out)))); (case aL => have := LMc2.out; omega); intro v150 w5 ho hb hg hat; rw [← Ny149.out] at ho; have n0_ := Aside0.mk (hb); have n1_ := Aside0.mk (ho); clear HB; clear HO148; have HB := n0_; have HO151 := n1_; clear n0_ n1_; clear ho hb hg hat))
      go_ret
      exact ⟨_, by first | rfl | (simp [errW_none, errW_some] <;> rfl) | (simp [*, errW_none, errW_some] <;> rfl), by (with_reducible repeat (first | apply Kd.R_alloc | apply Kd.R_drewN | apply Kd.R_drew)); exact HO151.out, by repeat (first | (with_reducible first | exact HB.out | apply below_alloc | apply pw_below_drewN | apply below_drew1) | exact HB.out)⟩
    · rw [if_neg c2] at H
      exact absurd H (by simp)

/-! ### impl_GridForms: function 29 -/
--@import Derived.Test.YtniinbnpdnajjaaV2
open Go.Proofs.Ytniinbnpdnajjaa.My
/-- As box_event, for a literal. -/
theorem box_event' {P : Program} {ops : Array Oper} {rest : List Oper} {o : Oper} {a : Act} {Q : Exit → Act → World → Prop} {W : World} (hgd : o.guard = none) {N : Tmp} (_hd : o.dst = some N) {cs : Array Value} {t : TypeId} {v : Nat → Value}
    (hrun : (execOp a.eval o).run P W = .ok (.value (v W.heap.size)) (W.alloc (.cells cs t (0, 0))))
    (h : ∀ g, g = W.heap.size → ∀ w1, w1.heap[g]? = some (.cells cs t (0, 0)) → Below W.heap.size W w1 → wpList P ops Q rest (a.put o.dst (v g)) w1) : wpList P ops Q (o :: rest) a W :=
  Kd.event_run hgd hrun (h _ rfl _ (blk_new W _) (below_alloc (Below.refl _ _) _))
mutual
def impl_GridForms.l0 : Nat → Int → List (List Int) → List (List Int) → Int → Int → Option (List (List Int))
  | 0, _, _, _, _, _ => none
  | k + 1, x1, x5, x18, x19, x20 => if x20 < x19 then (if 0 ≤ x20 then (if x20 < (x18.length : Int) then (impl_GridForms.l1 k x1 x5 (rd_L1 x18 x20) x18 x19 x20 0) else (none)) else (none)) else (some x5)
def impl_GridForms.l1 : Nat → Int → List (List Int) → List Int → List (List Int) → Int → Int → Int → Option (List (List Int))
  | 0, _, _, _, _, _, _, _ => none
  | k + 1, x1, x5, x7, x18, x19, x20, x24 => if x24 < 4 then (if x5.length < 5864062014805 then ((impl_GridTurn.f k x7 x1).bind fun t142 => (impl_GridForms.l1 k x1 (x5 ++ [x7]) t142 x18 x19 x20 (wrap64 (x24 + 1)))) else (none)) else (impl_GridForms.l0 k x1 x5 x18 x19 (wrap64 (x20 + 1)))
end
def impl_GridForms.f (k : Nat) (l0 : List Int) (a1 : Int) : Option (List (List Int)) := (impl_GridValid.f k l0 a1).bind fun t125 => (if t125 = true then ((slices_Clone_int_int.f l0).bind fun t129 => ((impl_GridMirror.f k l0 a1).bind fun t132 => ((some (([t129, t132] : List (List Int)) : List (List Int))).bind fun y135 => (impl_GridForms.l0 k a1 (([] : List (List Int))) y135 (y135.length : Int) 0)))) else (some ([] : List (List Int))))
theorem impl_GridForms.mono_l : ∀ k, (∀ y0 y1 y2 y3 y4, LeO (impl_GridForms.l0 k y0 y1 y2 y3 y4) (impl_GridForms.l0 (k + 1) y0 y1 y2 y3 y4)) ∧ (∀ y0 y1 y2 y3 y4 y5 y6, LeO (impl_GridForms.l1 k y0 y1 y2 y3 y4 y5 y6) (impl_GridForms.l1 (k + 1) y0 y1 y2 y3 y4 y5 y6))
  | 0 => ⟨fun _ _ _ _ _ r h => by simp [impl_GridForms.l0] at h, fun _ _ _ _ _ _ _ r h => by simp [impl_GridForms.l1] at h⟩
  | k + 1 => by
    obtain ⟨ih0, ih1⟩ := impl_GridForms.mono_l k
    refine ⟨?_, ?_⟩
    · intro y0 y1 y2 y3 y4
      unfold impl_GridForms.l0
      repeat' first
      | (with_reducible exact ih0 _ _ _ _ _)
      | (with_reducible exact ih1 _ _ _ _ _ _ _)
      | (with_reducible exact impl_GridTurn.mono _ _ _)
      | (with_reducible exact impl_GridMirror.mono _ _ _)
      | (with_reducible exact impl_GridValid.mono _ _ _)
      | (with_reducible exact LeO.refl _)
      | (with_reducible exact LeO.none _)
      | (with_reducible refine LeO.ite ?_ ?_)
      | (with_reducible refine LeO.bind ?_ (fun _ => ?_))
      | exact ih0 _ _ _ _ _
      | exact ih1 _ _ _ _ _ _ _
      | exact impl_GridTurn.mono _ _ _
      | exact impl_GridMirror.mono _ _ _
      | exact impl_GridValid.mono _ _ _
      | exact LeO.none _
      | refine LeO.ite ?_ ?_
      | refine LeO.bind ?_ (fun _ => ?_)
    · intro y0 y1 y2 y3 y4 y5 y6
      unfold impl_GridForms.l1
      repeat' first
      | (with_reducible exact ih0 _ _ _ _ _)
      | (with_reducible exact ih1 _ _ _ _ _ _ _)
      | (with_reducible exact impl_GridTurn.mono _ _ _)
      | (with_reducible exact impl_GridMirror.mono _ _ _)
      | (with_reducible exact impl_GridValid.mono _ _ _)
      | (with_reducible exact LeO.refl _)
      | (with_reducible exact LeO.none _)
      | (with_reducible refine LeO.ite ?_ ?_)
      | (with_reducible refine LeO.bind ?_ (fun _ => ?_))
      | exact ih0 _ _ _ _ _
      | exact ih1 _ _ _ _ _ _ _
      | exact impl_GridTurn.mono _ _ _
      | exact impl_GridMirror.mono _ _ _
      | exact impl_GridValid.mono _ _ _
      | exact LeO.none _
      | refine LeO.ite ?_ ?_
      | refine LeO.bind ?_ (fun _ => ?_)
theorem impl_GridForms.mono : ∀ a0 a1 k, LeO (impl_GridForms.f k a0 a1) (impl_GridForms.f (k + 1) a0 a1) := by
  intro a0 a1 k
  obtain ⟨ih0, ih1⟩ := impl_GridForms.mono_l k
  unfold impl_GridForms.f
  repeat' first
      | (with_reducible exact ih0 _ _ _ _ _)
      | (with_reducible exact ih1 _ _ _ _ _ _ _)
      | (with_reducible exact impl_GridTurn.mono _ _ _)
      | (with_reducible exact impl_GridMirror.mono _ _ _)
      | (with_reducible exact impl_GridValid.mono _ _ _)
      | (with_reducible exact LeO.refl _)
      | (with_reducible exact LeO.none _)
      | (with_reducible refine LeO.ite ?_ ?_)
      | (with_reducible refine LeO.bind ?_ (fun _ => ?_))
      | exact ih0 _ _ _ _ _
      | exact ih1 _ _ _ _ _ _ _
      | exact impl_GridTurn.mono _ _ _
      | exact impl_GridMirror.mono _ _ _
      | exact impl_GridValid.mono _ _ _
      | exact LeO.none _
      | refine LeO.ite ?_ ?_
      | refine LeO.bind ?_ (fun _ => ?_)
set_option maxHeartbeats 8000000 in
set_option maxRecDepth 100000 in
theorem impl_GridForms.calls (k : Nat) (A0 : Option Addr) (c0 : Nat) (l0 : List Int) (a1 : Int) (r : List (List Int)) (w : World) (hr0 : Kd.C (Kd.int .i64) w A0 l0.length l0) (hc0 : l0.length ≤ c0) (h : impl_GridForms.f k l0 a1 = some r) :
    Calls Try.prog 29 #[.slice A0 l0.length c0, .int .i64 a1] w fun e w' => ∃ v0_ : Value, e = .returned (v0_) ∧ Kd.S (Kd.slice 3 (Kd.int .i64)) 25 w' w.heap.size (fun _ => True) v0_ r ∧ Below w.heap.size w w' := by
  have hi25 : (Try.prog.info? 25).map (fun i => (i.zero, i.size, i.bytes)) = some (some (.slice none 0 0), 1, 24) := by kernel_rfl
  unfold impl_GridForms.f at h
  obtain ⟨b, hb, h⟩ := Option.bind_eq_some_iff.mp h
  have HA := Aside0.mk hb
  have HR0 := Aside0.mk hr0
  have HB := Aside0.mk (Below.refl w.heap.size w)
  clear hb hr0
  cases b with
  | false =>
    have e0 : [] = r := Option.some.inj h
    subst e0
    clear h
    go_enter Try.func29, Try.ntmps29
    go_wp2_with (first | ((with_reducible refine gate_callee (f := 54) rfl ?_); refine goesL_ (some 10) rfl rfl Try.func54 (by kernel_rfl) rfl #[.slice A0 l0.length c0, .int .i64 a1] rfl (by (try simp only [List.map_toArray, List.map_cons, List.map_nil]); first | done | rfl) ?_; (with_reducible refine (impl_GridValid.calls k A0 c0 l0 a1 _ _ (by (with_reducible repeat (first | apply Kd.C_alloc | apply Kd.C_drewN | apply Kd.C_drew)); exact (Kd.C_below HR0.out HB.out)) hc0 HA.out).mono ?_); rintro e wb ⟨rfl, hd⟩; have hb := drawn_below hd; have n0_ := Aside0.mk (below_step HB.out hb); (try clear HB); have HB := n0_; clear n0_; (try clear hb); (try clear hd); refine ⟨_, rfl, ?_⟩))
    go_ret
    exact ⟨_, rfl, Kd.S_nil _ _ _ _ _, HB.out⟩
  | true =>
    replace h : ((slices_Clone_int_int.f l0).bind fun t129 => ((impl_GridMirror.f k l0 a1).bind fun t132 => ((some (([t129, t132] : List (List Int)) : List (List Int))).bind fun y135 => (impl_GridForms.l0 k a1 (([] : List (List Int))) y135 (y135.length : Int) 0)))) = some r := h
    obtain ⟨lc, hlc, h⟩ := Option.bind_eq_some_iff.mp h
    obtain ⟨lm, hlm, h⟩ := Option.bind_eq_some_iff.mp h
    replace h : impl_GridForms.l0 k a1 [] [lc, lm] 2 0 = some r := h
    have HC := Aside0.mk hlc
    have HMM := Aside0.mk hlm
    have H' := Aside0.mk h
    clear hlc hlm h
    go_enter Try.func29, Try.ntmps29
    go_wp2_with (first | ((with_reducible refine gate_callee (f := 54) rfl ?_); refine goesL_ (some 10) rfl rfl Try.func54 (by kernel_rfl) rfl #[.slice A0 l0.length c0, .int .i64 a1] rfl (by (try simp only [List.map_toArray, List.map_cons, List.map_nil]); first | done | rfl) ?_; (with_reducible refine (impl_GridValid.calls k A0 c0 l0 a1 _ _ (by (with_reducible repeat (first | apply Kd.C_alloc | apply Kd.C_drewN | apply Kd.C_drew)); exact (Kd.C_below HR0.out HB.out)) hc0 HA.out).mono ?_); rintro e wb ⟨rfl, hd⟩; have hb := drawn_below hd; have n0_ := Aside0.mk (below_step HB.out hb); (try clear HB); have HB := n0_; clear n0_; (try clear hb); (try clear hd); refine ⟨_, rfl, ?_⟩) | ((with_reducible refine gate_callee (f := 50) rfl ?_); refine goesL_ (some 14) rfl rfl Try.func50 (by kernel_rfl) rfl #[.slice A0 l0.length c0] rfl (by (try simp only [List.map_toArray, List.map_cons, List.map_nil]); first | done | rfl) ?_; (with_reducible refine (slices_Clone_int_int.calls A0 c0 l0 lc _ (by (with_reducible repeat (first | apply Kd.C_alloc | apply Kd.C_drewN | apply Kd.C_drew)); exact (Kd.C_below HR0.out HB.out)) hc0 HC.out).mono ?_); rintro e wb ⟨vc, rfl, hoc, hb⟩; have n0_ := Aside0.mk (Kd.S_elder' HO.out (Kd.R_base hoc) hb); have n1_ := Aside0.mk (Kd.R_lower hoc HB.out.size); have n2_ := Aside0.mk (below_step HB.out hb); (try clear HO); (try clear HX); (try clear HB); have HO := n0_; have HX := n1_; have HB := n2_; clear n0_ n1_ n2_; (try clear hb); (try clear hoc); refine ⟨_, rfl, ?_⟩) | ((with_reducible refine gate_callee (f := 41) rfl ?_); refine goesL_ (some 17) rfl rfl Try.func41 (by kernel_rfl) rfl #[.slice A0 l0.length c0, .int .i64 a1] rfl (by (try simp only [List.map_toArray, List.map_cons, List.map_nil]); first | done | rfl) ?_; (with_reducible refine (impl_GridMirror.calls k A0 c0 l0 a1 lm _ (by (with_reducible repeat (first | apply Kd.C_alloc | apply Kd.C_drewN | apply Kd.C_drew)); exact (Kd.C_below HR0.out HB.out)) hc0 HMM.out).mono ?_); rintro e wb ⟨vm, rfl, hom, hb⟩; have n0_ := Aside0.mk (Kd.S_elder' HO.out (Kd.R_base hom) hb); have n1_ := Aside0.mk (Kd.R_elder' HX.out (Kd.R_base hom) hb); have n2_ := Aside0.mk (Kd.R_lower hom HB.out.size); have n3_ := Aside0.mk (below_step HB.out hb); (try clear HO); (try clear HX); (try clear HM); (try clear HB); have HO := n0_; have HX := n1_; have HM := n2_; have HB := n3_; clear n0_ n1_ n2_ n3_; (try clear hb); (try clear hom); obtain ⟨Ac, cc, ec⟩ := Kd.R_slice HX.out; subst ec; obtain ⟨Am, cm, em⟩ := Kd.R_slice HM.out; subst em; refine ⟨_, rfl, ?_⟩) | ((with_reducible refine gate_dst (N := 18) rfl ?_); refine box_event' ?hg (N := 18) ?hd (v := fun g => .slice (some ⟨g, 0, none⟩) 2 2) (cs := #[.slice Ac lc.length cc, .slice Am lm.length cm]) (t := 25) ?hr ?_; (case hd => rfl); (case hg => rfl); (case hr => first | (go_simp; done) | (go_simp; rfl)); intro gl hg w4 hbox hb; have HGL : Aside0 (w.heap.size ≤ gl) := ⟨by rw [hg]; exact HB.out.size⟩; have hoe := Kd.S_elderB HO.out gl (by rw [hg]; exact Nat.le_refl _); have n0_ := Aside0.mk (Kd.S_below hoe hb); have n1_ := Aside0.mk (Kd.R_below HX.out hb); have n2_ := Aside0.mk (Kd.R_below HM.out hb); have n3_ := Aside0.mk (hbox); have n4_ := Aside0.mk (below_step HB.out hb); (try clear HO); (try clear HX); (try clear HM); (try clear BL); (try clear HB); have HO := n0_; have HX := n1_; have HM := n2_; have BL := n3_; have HB := n4_; clear n0_ n1_ n2_ n3_ n4_; (try clear hb); (try clear hbox); (try clear hoe); (try clear hg)) | ((with_reducible refine gate_dst (N := 12) rfl ?_); refine Kd.R_lit (Kd.slice 3 (Kd.int .i64)) (w0 := w) w.heap.size 25 ?hg (N := 12) ?hd (xs := ([] : List (List Int))) (inner := []) (ok := fun _ => True) (okp := fun _ => True) ?hr ?hp (fun _ hk => hk) trivial HB.out HB.out.size (by simp) ?_; (case hd => rfl); (case hg => rfl); (case hr => first | (go_simp; done) | (go_simp; rfl)); (case hp => exact Reps.none _ _); intro vo w1 ho hb hg_ hnew_; have n0_ := Aside0.mk (S_of_nil ho); have n1_ := Aside0.mk (hb); (try clear HO); (try clear HB); have HO := n0_; have HB := n1_; clear n0_ n1_; (try clear ho); (try clear hb); (try clear hg_); (try clear hnew_)))
    go_loopg [5, 20] k (fun kq v5 v20 w' => ∃ (o : List (List Int)) (i : Int), v20 = .int .i64 i ∧ Aside0 (impl_GridForms.l0 kq a1 o [lc, lm] 2 i = some r) ∧ Aside0 (kq ≤ k) ∧ ((i = 0 ∧ Aside0 (Kd.S (Kd.slice 3 (Kd.int .i64)) 25 w' w.heap.size (fun k => (k ≠ gl ∧ some k ≠ (Value.slice Am lm.length cm).ownBlock) ∧ some k ≠ (Value.slice Ac lc.length cc).ownBlock) v5 o) ∧ Aside0 (Kd.R (Kd.int .i64) 3 w' w.heap.size (fun k => some k ≠ (Value.slice Am lm.length cm).ownBlock) (.slice Ac lc.length cc) lc) ∧ Aside0 (Kd.R (Kd.int .i64) 3 w' w.heap.size (fun _ => True) (.slice Am lm.length cm) lm) ∧ Aside0 (w'.heap[gl]? = some (Obj.cells #[.slice Ac lc.length cc, .slice Am lm.length cm] 25 (0, 0)))) ∨ (i = 1 ∧ Aside0 (Kd.S (Kd.slice 3 (Kd.int .i64)) 25 w' w.heap.size (fun k => k ≠ gl ∧ some k ≠ (Value.slice Am lm.length cm).ownBlock) v5 o) ∧ Aside0 (Kd.R (Kd.int .i64) 3 w' w.heap.size (fun _ => True) (.slice Am lm.length cm) lm) ∧ Aside0 (w'.heap[gl]? = some (Obj.cells #[.slice Ac lc.length cc, .slice Am lm.length cm] 25 (0, 0)))) ∨ (i = 2 ∧ Aside0 (Kd.S (Kd.slice 3 (Kd.int .i64)) 25 w' w.heap.size (fun _ => True) v5 o))) ∧ Aside0 (Below w.heap.size w w'))
    case atStart => exact ⟨[], 0, rfl, H', ⟨Nat.le_refl _⟩, Or.inl ⟨rfl, ⟨Kd.S_mono HO.out (fun k hk => ⟨⟨hk.2, hk.1.2⟩, hk.1.1.2⟩)⟩, ⟨Kd.R_mono HX.out (fun k hk => hk.2)⟩, HM, BL⟩, HB⟩
    case round =>
      clear H' HO HX HM BL HB
      obtain ⟨o, i, rfl, HA2, HK, hcase, HB⟩ := hrel
      cases gk with
      | zero => exact absurd HA2.out (by simp [impl_GridForms.l0])
      | succ k1 =>
        have H := HA2.out
        clear HA2
        rw [impl_GridForms.l0] at H
        rcases hcase with ⟨e_, HO, HX, HM, BL⟩ | ⟨e_, HO, HX, BL⟩ | ⟨e_, HO⟩
        · subst e_
          rw [if_pos (by decide), if_pos (by decide), if_pos (show (0 : Int) < (([lc, lm] : List (List Int)).length : Int) by simp)] at H
          have hcl := blk_cell BL.out 0
          have e7 : rd_L1 [lc, lm] 0 = lc := rfl
          rw [e7] at H
          have H' := Aside0.mk H
          clear H e7
          go_wp2
          go_loopg [5, 7, 24] k1 (fun kq v5 v7 v24 w' => ∃ (o : List (List Int)) (x : List Int) (j : Int), v24 = .int .i64 j ∧ Aside0 (impl_GridForms.l1 kq a1 o x [lc, lm] 2 0 j = some r) ∧ Aside0 (kq ≤ k1) ∧ Aside0 (Kd.S (Kd.slice 3 (Kd.int .i64)) 25 w' w.heap.size (fun k => (k ≠ gl ∧ some k ≠ (Value.slice Am lm.length cm).ownBlock) ∧ some k ≠ (v7 : Value).ownBlock) v5 o) ∧ Aside0 (Kd.R (Kd.int .i64) 3 w' w.heap.size (fun k => some k ≠ (Value.slice Am lm.length cm).ownBlock) v7 x) ∧ Aside0 (Kd.R (Kd.int .i64) 3 w' w.heap.size (fun _ => True) (.slice Am lm.length cm) lm) ∧ Aside0 (w'.heap[gl]? = some (Obj.cells #[.slice Ac lc.length cc, .slice Am lm.length cm] 25 (0, 0))) ∧ Aside0 (Below w.heap.size w w'))
          case atStart => exact ⟨o, lc, 0, rfl, H', ⟨Nat.le_refl _⟩, HO, HX, HM, BL, HB⟩
          case round =>
            clear H' HO HX HM BL HB hcl
            obtain ⟨o, x, j, rfl, HA2, HK2, HO, HX, HM, BL, HB⟩ := hrel
            cases gk with
            | zero => exact absurd HA2.out (by simp [impl_GridForms.l1])
            | succ k2 =>
              have H := HA2.out
              clear HA2
              rw [impl_GridForms.l1] at H
              by_cases c7 : j < 4
              · rw [if_pos c7] at H
                have b7 : decide (j < 4) = true := decide_eq_true c7
                by_cases c8 : o.length < 5864062014805
                · rw [if_pos c8] at H
                  have LM := Aside0.mk c8
                  replace H := Option.bind_eq_some_iff.mp H
                  obtain ⟨y, hy, H⟩ := H
                  have HY := Aside0.mk hy
                  have H' := Aside0.mk H
                  clear hy H c7 c8
                  obtain ⟨Ax, cx, ex⟩ := Kd.R_slice HX.out
                  subst ex
                  go_wp2_with (first | ((with_reducible refine gate_builtin (b := .append) (xs := #[.tmp 26, .tmp 28]) rfl ?_); at_builtin; refine Kd.S_append (Kd.slice 3 (Kd.int .i64)) (w0 := w) w.heap.size rfl (.tmp 26) (.tmp 28) 34 25 (.slice none 0 0) 24 rfl Try.underlying34 hi25 rfl (by decide) (by omega) u5 o x [.slice Ax x.length cx] (fun k => k ≠ gl ∧ some k ≠ (Value.slice Am lm.length cm).ownBlock) (fun k => some k = (Value.slice Ax x.length cx).ownBlock) rfl rfl ?aP (fun k hk => ⟨⟨fun e_ => (Kd.R_ne HX.out BL.out (by decide)) (by rw [← e_]; exact hk), HX.out.1 k hk.symm⟩, fun e_ => (R_apart HX.out (Kd.S_R HO.out) (by simp [Kd.int, Kd.scalar])).1 k hk.symm |>.2 e_⟩) ?aF ?aO ?aB ?aS ?aL ?_; (case aP => exact Kd.M_row (Kd.R_tight rfl HX.out)); (case aF => exact fun k hk => ⟨by have := lt_of_some BL.out; omega, Kd.fresh' (Kd.R_lt HM.out) k hk⟩); (case aO => exact Kd.S_mono HO.out (fun k hk => ⟨hk.1, hk.2⟩)); (case aB => exact HB.out); (case aS => exact HB.out.size); (case aL => have := LM.out; omega); intro v1 w1 ho hb hg hat; have n0_ := Aside0.mk (Kd.R_over' HX.out (Kd.S_typed HO.out) (by decide) hg); have n1_ := Aside0.mk (Kd.R_over' HM.out (Kd.S_typed HO.out) (by decide) hg); have n2_ := Aside0.mk (blk_grown BL.out hg (fun e_ => (HO.out.choose_spec.1 gl e_.symm).1.1 rfl)); have n3_ := Aside0.mk (ho); have n4_ := Aside0.mk (hb); (try clear HX); (try clear HM); (try clear BL); (try clear HO); (try clear HB); have HX := n0_; have HM := n1_; have BL := n2_; have HO := n3_; have HB := n4_; clear n0_ n1_ n2_ n3_ n4_; (try clear ho); (try clear hb); (try clear hg); (try clear hat)) | ((with_reducible refine gate_callee (f := 19) rfl ?_); refine goesL_ (some 32) rfl rfl Try.func19 (by kernel_rfl) rfl #[.slice Ax x.length cx, .int .i64 a1] rfl (by (try simp only [List.map_toArray, List.map_cons, List.map_nil]); first | done | rfl) ?_; (with_reducible refine (impl_GridTurn.calls k2 _ _ x a1 y _ (by (with_reducible repeat (first | apply Kd.C_alloc | apply Kd.C_drewN | apply Kd.C_drew)); exact (Kd.R_reads' HX.out).2.2) (Kd.R_reads' HX.out).2.1 HY.out).mono ?_); rintro e wb ⟨vy, rfl, hoy, hb⟩; have n0_ := Aside0.mk (Kd.S_elder' HO.out (Kd.R_base hoy) hb); have n1_ := Aside0.mk (Kd.R_mono (Kd.R_lower (Kd.R_new' hoy (Kd.R_lt HM.out)) HB.out.size) (fun k hk => hk.2)); have n2_ := Aside0.mk (Kd.R_below HM.out hb); have n3_ := Aside0.mk ((hb.block gl (lt_of_some BL.out)).trans BL.out); have n4_ := Aside0.mk (below_step HB.out hb); (try clear HO); (try clear HX); (try clear HM); (try clear BL); (try clear HB); have HO := n0_; have HX := n1_; have HM := n2_; have BL := n3_; have HB := n4_; clear n0_ n1_ n2_ n3_ n4_; (try clear hb); (try clear hoy); refine ⟨_, rfl, ?_⟩))
                  go_roundg k2
                  case measure => have := HK2.out; omega
                  case rel => exact ⟨o ++ [x], y, wrap64 (j + 1), rfl, H', ⟨by have := HK2.out; omega⟩, HO, HX, HM, BL, HB⟩
                · rw [if_neg c8] at H
                  exact absurd H (by simp)
              · rw [if_neg c7] at H
                have b7 : decide (j < 4) = false := decide_eq_false c7
                have w01 : wrap64 (0 + 1) = 1 := by decide +kernel
                rw [w01] at H
                have H' := Aside0.mk H
                clear H c7
                go_wp2
                go_roundg k2
                case measure => have := HK.out; have := HK2.out; omega
                case rel => exact ⟨o, 1, rfl, H', ⟨by have := HK.out; have := HK2.out; omega⟩, Or.inr (Or.inl ⟨rfl, ⟨Kd.S_mono HO.out (fun k hk => hk.1)⟩, HM, BL⟩), HB⟩
        · subst e_
          rw [if_pos (by decide), if_pos (by decide), if_pos (show (1 : Int) < (([lc, lm] : List (List Int)).length : Int) by simp)] at H
          replace HO : Aside0 (Kd.S (Kd.slice 3 (Kd.int .i64)) 25 wr w.heap.size (fun k => (k ≠ gl ∧ True) ∧ some k ≠ (Value.slice Am lm.length cm).ownBlock) u5 o) := ⟨Kd.S_mono HO.out (fun k hk => ⟨⟨hk.1, trivial⟩, hk.2⟩)⟩
          have hcl := blk_cell BL.out 1
          have e7 : rd_L1 [lc, lm] 1 = lm := rfl
          rw [e7] at H
          have H' := Aside0.mk H
          clear H e7
          go_wp2
          go_loopg [5, 7, 24] k1 (fun kq v5 v7 v24 w' => ∃ (o : List (List Int)) (x : List Int) (j : Int), v24 = .int .i64 j ∧ Aside0 (impl_GridForms.l1 kq a1 o x [lc, lm] 2 1 j = some r) ∧ Aside0 (kq ≤ k1) ∧ Aside0 (Kd.S (Kd.slice 3 (Kd.int .i64)) 25 w' w.heap.size (fun k => (k ≠ gl ∧ True) ∧ some k ≠ (v7 : Value).ownBlock) v5 o) ∧ Aside0 (Kd.R (Kd.int .i64) 3 w' w.heap.size (fun _ => True) v7 x) ∧ Aside0 (w'.heap[gl]? = some (Obj.cells #[.slice Ac lc.length cc, .slice Am lm.length cm] 25 (0, 0))) ∧ Aside0 (Below w.heap.size w w'))
          case atStart => exact ⟨o, lm, 0, rfl, H', ⟨Nat.le_refl _⟩, HO, HX, BL, HB⟩
          case round =>
            clear H' HO HX BL HB hcl
            obtain ⟨o, x, j, rfl, HA2, HK2, HO, HX, BL, HB⟩ := hrel
            cases gk with
            | zero => exact absurd HA2.out (by simp [impl_GridForms.l1])
            | succ k2 =>
              have H := HA2.out
              clear HA2
              rw [impl_GridForms.l1] at H
              by_cases c7 : j < 4
              · rw [if_pos c7] at H
                have b7 : decide (j < 4) = true := decide_eq_true c7
                by_cases c8 : o.length < 5864062014805
                · rw [if_pos c8] at H
                  have LM := Aside0.mk c8
                  replace H := Option.bind_eq_some_iff.mp H
                  obtain ⟨y, hy, H⟩ := H
                  have HY := Aside0.mk hy
                  have H' := Aside0.mk H
                  clear hy H c7 c8
                  obtain ⟨Ax, cx, ex⟩ := Kd.R_slice HX.out
                  subst ex
                  go_wp2_with (first | ((with_reducible refine gate_builtin (b := .append) (xs := #[.tmp 26, .tmp 28]) rfl ?_); at_builtin; refine Kd.S_append (Kd.slice 3 (Kd.int .i64)) (w0 := w) w.heap.size rfl (.tmp 26) (.tmp 28) 34 25 (.slice none 0 0) 24 rfl Try.underlying34 hi25 rfl (by decide) (by omega) u5 o x [.slice Ax x.length cx] (fun k => k ≠ gl ∧ True) (fun k => some k = (Value.slice Ax x.length cx).ownBlock) rfl rfl ?aP (fun k hk => ⟨⟨fun e_ => (Kd.R_ne HX.out BL.out (by decide)) (by rw [← e_]; exact hk), trivial⟩, fun e_ => (R_apart HX.out (Kd.S_R HO.out) (by simp [Kd.int, Kd.scalar])).1 k hk.symm |>.2 e_⟩) ?aF ?aO ?aB ?aS ?aL ?_; (case aP => exact Kd.M_row (Kd.R_tight rfl HX.out)); (case aF => exact fun k hk => ⟨by have := lt_of_some BL.out; omega, trivial⟩); (case aO => exact Kd.S_mono HO.out (fun k hk => ⟨hk.1, hk.2⟩)); (case aB => exact HB.out); (case aS => exact HB.out.size); (case aL => have := LM.out; omega); intro v1 w1 ho hb hg hat; have n0_ := Aside0.mk (Kd.R_over' HX.out (Kd.S_typed HO.out) (by decide) hg); have n1_ := Aside0.mk (blk_grown BL.out hg (fun e_ => (HO.out.choose_spec.1 gl e_.symm).1.1 rfl)); have n2_ := Aside0.mk (ho); have n3_ := Aside0.mk (hb); (try clear HX); (try clear BL); (try clear HO); (try clear HB); have HX := n0_; have BL := n1_; have HO := n2_; have HB := n3_; clear n0_ n1_ n2_ n3_; (try clear ho); (try clear hb); (try clear hg); (try clear hat)) | ((with_reducible refine gate_callee (f := 19) rfl ?_); refine goesL_ (some 32) rfl rfl Try.func19 (by kernel_rfl) rfl #[.slice Ax x.length cx, .int .i64 a1] rfl (by (try simp only [List.map_toArray, List.map_cons, List.map_nil]); first | done | rfl) ?_; (with_reducible refine (impl_GridTurn.calls k2 _ _ x a1 y _ (by (with_reducible repeat (first | apply Kd.C_alloc | apply Kd.C_drewN | apply Kd.C_drew)); exact (Kd.R_reads' HX.out).2.2) (Kd.R_reads' HX.out).2.1 HY.out).mono ?_); rintro e wb ⟨vy, rfl, hoy, hb⟩; have n0_ := Aside0.mk (Kd.S_elder' HO.out (Kd.R_base hoy) hb); have n1_ := Aside0.mk (Kd.R_lower hoy HB.out.size); have n2_ := Aside0.mk ((hb.block gl (lt_of_some BL.out)).trans BL.out); have n3_ := Aside0.mk (below_step HB.out hb); (try clear HO); (try clear HX); (try clear BL); (try clear HB); have HO := n0_; have HX := n1_; have BL := n2_; have HB := n3_; clear n0_ n1_ n2_ n3_; (try clear hb); (try clear hoy); refine ⟨_, rfl, ?_⟩))
                  go_roundg k2
                  case measure => have := HK2.out; omega
                  case rel => exact ⟨o ++ [x], y, wrap64 (j + 1), rfl, H', ⟨by have := HK2.out; omega⟩, HO, HX, BL, HB⟩
                · rw [if_neg c8] at H
                  exact absurd H (by simp)
              · rw [if_neg c7] at H
                have b7 : decide (j < 4) = false := decide_eq_false c7
                have w01 : wrap64 (1 + 1) = 2 := by decide +kernel
                rw [w01] at H
                have H' := Aside0.mk H
                clear H c7
                go_wp2
                go_roundg k2
                case measure => have := HK.out; have := HK2.out; omega
                case rel => exact ⟨o, 2, rfl, H', ⟨by have := HK.out; have := HK2.out; omega⟩, Or.inr (Or.inr ⟨rfl, ⟨Kd.S_mono HO.out (fun _ _ => trivial)⟩⟩), HB⟩
        · subst e_
          rw [if_neg (by decide)] at H
          obtain rfl := Option.some.inj H
          clear H
          go_wp2
          go_ret
          exact ⟨_, rfl, HO.out, HB.out⟩

end Go.Proofs.Ytniinbnpdnajjaa.PFnExactGridForms
