-- Made by a program of this session (a changed copy of the kit print): the kit print itself does not give this text
import Derived.Test.YtniinbnpdnajjaaPFnExactGridFormsx0
import Derived.Test.YtniinbnpdnajjaaPFnExactGridFormsx1
import Derived.Test.YtniinbnpdnajjaaPFnExactGridFormsx2
import Derived.Test.YtniinbnpdnajjaaPFnExactGridFormsx3
import Derived.Test.YtniinbnpdnajjaaV2
namespace Go.Proofs.Ytniinbnpdnajjaa.PFnExactGridForms
open Go.RowKit Go.Proofs.YtniinbnpdnajjaaW.PrintWords Go.Proofs.YtniinbnpdnajjaaW.PrintLast Go.Proofs.YtniinbnpdnajjaaW.PrintMore
attribute [local go_sem] max2_int min2_int max_two min_two max_three min_three max_four min_four   -- for this text's walks alone
set_option linter.unusedVariables false
set_option linter.unusedSimpArgs false

/-! ### laws_eqIntSS: function 30 -/
def laws_eqIntSS.l0 : Nat → List (List Int) → List (List Int) → Int → Option (Bool)
  | 0, _, _, _ => none
  | k + 1, x0, x1, x5 => if x5 < (x0.length : Int) then (if 0 ≤ x5 then (if x5 < (x1.length : Int) then ((laws_eqIntS.f k (rd_L1 x0 x5) (rd_L1 x1 x5)).bind fun t154 => (if t154 = true then (laws_eqIntSS.l0 k x0 x1 (wrap64 (x5 + 1))) else (some false))) else (none)) else (none)) else (some true)
def laws_eqIntSS.f (k : Nat) (l0 : List (List Int)) (l1 : List (List Int)) : Option (Bool) := if (l0.length : Int) = (l1.length : Int) then (laws_eqIntSS.l0 k l0 l1 0) else (some false)
theorem laws_eqIntSS.mono_l : ∀ k, (∀ y0 y1 y2, LeO (laws_eqIntSS.l0 k y0 y1 y2) (laws_eqIntSS.l0 (k + 1) y0 y1 y2))
  | 0 => fun _ _ _ r h => by simp [laws_eqIntSS.l0] at h
  | k + 1 => by
    have ih0 := laws_eqIntSS.mono_l k
    · intro y0 y1 y2
      unfold laws_eqIntSS.l0
      repeat' first
      | (with_reducible exact ih0 _ _ _)
      | (with_reducible exact laws_eqIntS.mono _ _ _)
      | (with_reducible exact LeO.refl _)
      | (with_reducible exact LeO.none _)
      | (with_reducible refine LeO.ite ?_ ?_)
      | (with_reducible refine LeO.bind ?_ (fun _ => ?_))
      | exact ih0 _ _ _
      | exact laws_eqIntS.mono _ _ _
      | exact LeO.none _
      | refine LeO.ite ?_ ?_
      | refine LeO.bind ?_ (fun _ => ?_)
theorem laws_eqIntSS.mono : ∀ a0 a1 k, LeO (laws_eqIntSS.f k a0 a1) (laws_eqIntSS.f (k + 1) a0 a1) := by
  intro a0 a1 k
  have ih0 := laws_eqIntSS.mono_l k
  unfold laws_eqIntSS.f
  repeat' first
      | (with_reducible exact ih0 _ _ _)
      | (with_reducible exact laws_eqIntS.mono _ _ _)
      | (with_reducible exact LeO.refl _)
      | (with_reducible exact LeO.none _)
      | (with_reducible refine LeO.ite ?_ ?_)
      | (with_reducible refine LeO.bind ?_ (fun _ => ?_))
      | exact ih0 _ _ _
      | exact laws_eqIntS.mono _ _ _
      | exact LeO.none _
      | refine LeO.ite ?_ ?_
      | refine LeO.bind ?_ (fun _ => ?_)
set_option maxHeartbeats 8000000 in
set_option maxRecDepth 100000 in
theorem laws_eqIntSS.calls (k : Nat) (A0 : Option Addr) (c0 : Nat) (l0 : List (List Int)) (A1 : Option Addr) (c1 : Nat) (l1 : List (List Int)) (r : Bool) (w : World) (hr0 : Kd.C (Kd.slice 3 (Kd.int .i64)) w A0 l0.length l0) (hc0 : l0.length ≤ c0) (hr1 : Kd.C (Kd.slice 3 (Kd.int .i64)) w A1 l1.length l1) (hc1 : l1.length ≤ c1) (h : laws_eqIntSS.f k l0 l1 = some r) :
    Calls Try.prog 30 #[.slice A0 l0.length c0, .slice A1 l1.length c1] w fun e w' => e = .returned (.bool r) ∧ Drawn0 w w' := by
  have HR0 := Aside0.mk hr0
  have HC0 := Aside0.mk hc0
  clear hr0 hc0
  have HR1 := Aside0.mk hr1
  have HC1 := Aside0.mk hc1
  clear hr1 hc1
  have H : (if (l0.length : Int) = (l1.length : Int) then (laws_eqIntSS.l0 k l0 l1 0) else (some false)) = some r := h
  clear h
  by_cases c3 : (l0.length : Int) = (l1.length : Int)
  · rw [if_pos c3] at H
    have c3b0 : ((l0.length : Int) == (l1.length : Int)) = true := beq_iff_eq.mpr c3
    have c3b1 : ((l0.length : Int) != (l1.length : Int)) = false := bne_eq_false_iff_eq.mpr c3
    have c3b2 : (l0.length == l1.length) = true := by first | simpa using c3 | (simp at c3 ⊢; omega)
    clear c3
    have H' := Aside0.mk H
    clear H
    go_enter Try.func30, Try.ntmps30
    go_wp2
    repeat (go_quiet (fail); try go_wp2)
    go_loopg [5] k (fun kq v5 w' => ∃ (x5_1 : Int), v5 = .int .i64 x5_1 ∧ Aside0 (laws_eqIntSS.l0 kq l0 l1 x5_1 = some r) ∧ Aside0 (kq ≤ k) ∧ Drawn0 w w')
    case atStart => exact ⟨(0), (by first | rfl | (simp; done) | (simp [*]; done)), H', ⟨Nat.le_refl _⟩, by repeat (first | exact Drawn0.refl _ | apply Drawn0.step)⟩
    case round =>
      clear H'
      try clear c1
      try clear p2
      try clear c3
      try clear c3b0
      try clear c3b1
      try clear c3b2
      obtain ⟨x5_1, rfl, HA, HK1, ⟨m1, rfl⟩⟩ := hrel
      cases gk with
      | zero => exact absurd HA.out (by simp [laws_eqIntSS.l0])
      | succ k1 =>
        have H := HA.out
        clear HA
        simp only [laws_eqIntSS.l0] at H
        by_cases c4 : x5_1 < (l0.length : Int)
        · rw [if_pos c4] at H
          have c4b0 : decide (x5_1 < (l0.length : Int)) = true := decide_eq_true c4
          clear c4
          by_cases c5 : 0 ≤ x5_1
          · rw [if_pos c5] at H
            have c5b0 : decide (0 ≤ x5_1) = true := decide_eq_true c5
            clear c5
            by_cases c6 : x5_1 < (l1.length : Int)
            · rw [if_pos c6] at H
              have c6b0 : decide (x5_1 < (l1.length : Int)) = true := decide_eq_true c6
              clear c6
              replace H := Option.bind_eq_some_iff.mp H
              obtain ⟨t154, A70, H⟩ := H
              replace H : (if t154 = true then (laws_eqIntSS.l0 k1 l0 l1 (wrap64 (x5_1 + 1))) else (some false)) = some r := H
              have A7 := Aside0.mk A70
              clear A70
              by_cases c8 : t154 = true
              · subst c8
                have H1 : (laws_eqIntSS.l0 k1 l0 l1 (wrap64 (x5_1 + 1))) = some r := by rw [if_pos rfl] at H; exact H
                clear H
                have H := H1
                clear H1
                have H' := Aside0.mk H
                clear H
                have p152 : 0 ≤ (x5_1 : Int) := of_decide_eq_true (by first | (with_reducible assumption) | assumption)
                have q152 : x5_1 < (l0.length : Int) := of_decide_eq_true (by first | (with_reducible assumption) | assumption)
                obtain ⟨ad152, A152_0, c152_0, e152, hx152_0, hl152_0, hi152_0⟩ := at_L1 HR0.out x5_1 p152 q152
                cases e152
                have HR152_0 := Aside0.mk hi152_0
                have HC152_0 := Aside0.mk hl152_0
                clear hi152_0 hl152_0
                replace p152 := eq_true p152
                replace q152 := eq_true q152
                have p153 : 0 ≤ (x5_1 : Int) := of_decide_eq_true (by first | (with_reducible assumption) | assumption)
                have q153 : x5_1 < (l1.length : Int) := of_decide_eq_true (by first | (with_reducible assumption) | assumption)
                obtain ⟨ad153, A153_0, c153_0, e153, hx153_0, hl153_0, hi153_0⟩ := at_L1 HR1.out x5_1 p153 q153
                cases e153
                have HR153_0 := Aside0.mk hi153_0
                have HC153_0 := Aside0.mk hl153_0
                clear hi153_0 hl153_0
                replace p153 := eq_true p153
                replace q153 := eq_true q153
                go_wp2_with (first | (go_at_call 25; (with_reducible refine (laws_eqIntS.calls k1 _ _ (rd_L1 l0 x5_1) _ _ (rd_L1 l1 x5_1) true _ ?side1 ?side2 ?side3 ?side4 A7.out).mono ?_); (case side1 => repeat (first | exact HR152_0.out | (with_reducible refine Kd.C_alloc ?_ _) | (with_reducible refine Kd.C_drewN ?_ _) | (with_reducible refine Kd.C_drew ?_))); (case side2 => exact HC152_0.out); (case side3 => repeat (first | exact HR153_0.out | (with_reducible refine Kd.C_alloc ?_ _) | (with_reducible refine Kd.C_drewN ?_ _) | (with_reducible refine Kd.C_drew ?_))); (case side4 => exact HC153_0.out); rintro e w' ⟨rfl, ⟨nd, rfl⟩⟩; (try first | exact ⟨rfl, _, World.drewN_drewN _ _ _⟩ | exact ⟨rfl, _, Eq.trans (World.drewN_drewN _ _ _) (congrArg (World.drewN _) (Nat.add_assoc _ _ _))⟩)))
                repeat (go_quiet (first | (go_at_call 25; (with_reducible refine (laws_eqIntS.calls k1 _ _ (rd_L1 l0 x5_1) _ _ (rd_L1 l1 x5_1) true _ ?side1 ?side2 ?side3 ?side4 A7.out).mono ?_); (case side1 => repeat (first | exact HR152_0.out | (with_reducible refine Kd.C_alloc ?_ _) | (with_reducible refine Kd.C_drewN ?_ _) | (with_reducible refine Kd.C_drew ?_))); (case side2 => exact HC152_0.out); (case side3 => repeat (first | exact HR153_0.out | (with_reducible refine Kd.C_alloc ?_ _) | (with_reducible refine Kd.C_drewN ?_ _) | (with_reducible refine Kd.C_drew ?_))); (case side4 => exact HC153_0.out); rintro e w' ⟨rfl, ⟨nd, rfl⟩⟩; (try first | exact ⟨rfl, _, World.drewN_drewN _ _ _⟩ | exact ⟨rfl, _, Eq.trans (World.drewN_drewN _ _ _) (congrArg (World.drewN _) (Nat.add_assoc _ _ _))⟩))); try go_wp2_with (first | (go_at_call 25; (with_reducible refine (laws_eqIntS.calls k1 _ _ (rd_L1 l0 x5_1) _ _ (rd_L1 l1 x5_1) true _ ?side1 ?side2 ?side3 ?side4 A7.out).mono ?_); (case side1 => repeat (first | exact HR152_0.out | (with_reducible refine Kd.C_alloc ?_ _) | (with_reducible refine Kd.C_drewN ?_ _) | (with_reducible refine Kd.C_drew ?_))); (case side2 => exact HC152_0.out); (case side3 => repeat (first | exact HR153_0.out | (with_reducible refine Kd.C_alloc ?_ _) | (with_reducible refine Kd.C_drewN ?_ _) | (with_reducible refine Kd.C_drew ?_))); (case side4 => exact HC153_0.out); rintro e w' ⟨rfl, ⟨nd, rfl⟩⟩; (try first | exact ⟨rfl, _, World.drewN_drewN _ _ _⟩ | exact ⟨rfl, _, Eq.trans (World.drewN_drewN _ _ _) (congrArg (World.drewN _) (Nat.add_assoc _ _ _))⟩))))
                go_roundg k1
                case measure => have := HK1.out; omega
                case rel => exact ⟨(wrap64 (x5_1 + 1)), (by first | rfl | (simp; done) | (simp [*]; done)), H', ⟨by have := HK1.out; omega⟩, by repeat (first | exact Drawn0.refl _ | apply Drawn0.step)⟩
              · replace c8 := Bool.eq_false_iff.mpr c8
                subst c8
                have H1 : (some false) = some r := by rw [if_neg (show ¬ (false = true) by decide)] at H; exact H
                clear H
                have H := H1
                clear H1
                obtain rfl := Option.some.inj H
                have p152 : 0 ≤ (x5_1 : Int) := of_decide_eq_true (by first | (with_reducible assumption) | assumption)
                have q152 : x5_1 < (l0.length : Int) := of_decide_eq_true (by first | (with_reducible assumption) | assumption)
                obtain ⟨ad152, A152_0, c152_0, e152, hx152_0, hl152_0, hi152_0⟩ := at_L1 HR0.out x5_1 p152 q152
                cases e152
                have HR152_0 := Aside0.mk hi152_0
                have HC152_0 := Aside0.mk hl152_0
                clear hi152_0 hl152_0
                replace p152 := eq_true p152
                replace q152 := eq_true q152
                have p153 : 0 ≤ (x5_1 : Int) := of_decide_eq_true (by first | (with_reducible assumption) | assumption)
                have q153 : x5_1 < (l1.length : Int) := of_decide_eq_true (by first | (with_reducible assumption) | assumption)
                obtain ⟨ad153, A153_0, c153_0, e153, hx153_0, hl153_0, hi153_0⟩ := at_L1 HR1.out x5_1 p153 q153
                cases e153
                have HR153_0 := Aside0.mk hi153_0
                have HC153_0 := Aside0.mk hl153_0
                clear hi153_0 hl153_0
                replace p153 := eq_true p153
                replace q153 := eq_true q153
                go_wp2_with (first | (go_at_call 25; (with_reducible refine (laws_eqIntS.calls k1 _ _ (rd_L1 l0 x5_1) _ _ (rd_L1 l1 x5_1) false _ ?side1 ?side2 ?side3 ?side4 A7.out).mono ?_); (case side1 => repeat (first | exact HR152_0.out | (with_reducible refine Kd.C_alloc ?_ _) | (with_reducible refine Kd.C_drewN ?_ _) | (with_reducible refine Kd.C_drew ?_))); (case side2 => exact HC152_0.out); (case side3 => repeat (first | exact HR153_0.out | (with_reducible refine Kd.C_alloc ?_ _) | (with_reducible refine Kd.C_drewN ?_ _) | (with_reducible refine Kd.C_drew ?_))); (case side4 => exact HC153_0.out); rintro e w' ⟨rfl, ⟨nd, rfl⟩⟩; (try first | exact ⟨rfl, _, World.drewN_drewN _ _ _⟩ | exact ⟨rfl, _, Eq.trans (World.drewN_drewN _ _ _) (congrArg (World.drewN _) (Nat.add_assoc _ _ _))⟩)))
                repeat (go_quiet (first | (go_at_call 25; (with_reducible refine (laws_eqIntS.calls k1 _ _ (rd_L1 l0 x5_1) _ _ (rd_L1 l1 x5_1) false _ ?side1 ?side2 ?side3 ?side4 A7.out).mono ?_); (case side1 => repeat (first | exact HR152_0.out | (with_reducible refine Kd.C_alloc ?_ _) | (with_reducible refine Kd.C_drewN ?_ _) | (with_reducible refine Kd.C_drew ?_))); (case side2 => exact HC152_0.out); (case side3 => repeat (first | exact HR153_0.out | (with_reducible refine Kd.C_alloc ?_ _) | (with_reducible refine Kd.C_drewN ?_ _) | (with_reducible refine Kd.C_drew ?_))); (case side4 => exact HC153_0.out); rintro e w' ⟨rfl, ⟨nd, rfl⟩⟩; (try first | exact ⟨rfl, _, World.drewN_drewN _ _ _⟩ | exact ⟨rfl, _, Eq.trans (World.drewN_drewN _ _ _) (congrArg (World.drewN _) (Nat.add_assoc _ _ _))⟩))); try go_wp2_with (first | (go_at_call 25; (with_reducible refine (laws_eqIntS.calls k1 _ _ (rd_L1 l0 x5_1) _ _ (rd_L1 l1 x5_1) false _ ?side1 ?side2 ?side3 ?side4 A7.out).mono ?_); (case side1 => repeat (first | exact HR152_0.out | (with_reducible refine Kd.C_alloc ?_ _) | (with_reducible refine Kd.C_drewN ?_ _) | (with_reducible refine Kd.C_drew ?_))); (case side2 => exact HC152_0.out); (case side3 => repeat (first | exact HR153_0.out | (with_reducible refine Kd.C_alloc ?_ _) | (with_reducible refine Kd.C_drewN ?_ _) | (with_reducible refine Kd.C_drew ?_))); (case side4 => exact HC153_0.out); rintro e w' ⟨rfl, ⟨nd, rfl⟩⟩; (try first | exact ⟨rfl, _, World.drewN_drewN _ _ _⟩ | exact ⟨rfl, _, Eq.trans (World.drewN_drewN _ _ _) (congrArg (World.drewN _) (Nat.add_assoc _ _ _))⟩))))
                go_ret
                exact ⟨by first | rfl | (simp; done) | (simp [*]; done), by repeat (first | exact Drawn0.refl _ | apply Drawn0.step)⟩
            · rw [if_neg c6] at H
              exact absurd H (by simp)
          · rw [if_neg c5] at H
            exact absurd H (by simp)
        · rw [if_neg c4] at H
          have c4b0 : decide (x5_1 < (l0.length : Int)) = false := decide_eq_false c4
          clear c4
          obtain rfl := Option.some.inj H
          go_wp2
          repeat (go_quiet (fail); try go_wp2)
          go_ret
          exact ⟨by first | rfl | (simp; done) | (simp [*]; done), by repeat (first | exact Drawn0.refl _ | apply Drawn0.step)⟩
  · rw [if_neg c3] at H
    have c3b0 : ((l0.length : Int) == (l1.length : Int)) = false := beq_eq_false_iff_ne.mpr c3
    have c3b1 : ((l0.length : Int) != (l1.length : Int)) = true := bne_iff_ne.mpr c3
    have c3b2 : (l0.length == l1.length) = false := by first | simpa using c3 | (simp at c3 ⊢; omega)
    obtain rfl := Option.some.inj H
    go_enter Try.func30, Try.ntmps30
    go_wp2
    repeat (go_quiet (fail); try go_wp2)
    go_ret
    exact ⟨by first | rfl | (simp; done) | (simp [*]; done), by repeat (first | exact Drawn0.refl _ | apply Drawn0.step)⟩

/-! ### laws_markIntSS: function 31 -/
--@import Derived.Test.YtniinbnpdnajjaaV2
open Go.Proofs.Ytniinbnpdnajjaa.My
def laws_markIntSS.l0 : Nat → List (List Int) → Int → Int → Option (Int × List (List Int))
  | 0, _, _, _ => none
  | k + 1, l0, q, i => if i < (l0.length : Int) then (if 0 ≤ i then ((laws_markIntS.f k (l0.getD i.toNat ([] : List Int)) q).bind fun z => (laws_markIntSS.l0 k (l0.set i.toNat z.2) z.1 (wrap64 (i + 1)))) else none) else some (q, l0)
def laws_markIntSS.f (k : Nat) (l0 : List (List Int)) (q : Int) : Option (Int × List (List Int)) := laws_markIntSS.l0 k l0 q 0
theorem laws_markIntSS.mono_l : ∀ k, (∀ y0 y1 y2, LeO (laws_markIntSS.l0 k y0 y1 y2) (laws_markIntSS.l0 (k + 1) y0 y1 y2))
  | 0 => fun _ _ _ r h => by simp [laws_markIntSS.l0] at h
  | k + 1 => by
    have ih0 := laws_markIntSS.mono_l k
    · intro y0 y1 y2
      unfold laws_markIntSS.l0
      repeat' first
      | (with_reducible exact ih0 _ _ _)
      | (with_reducible exact laws_markIntS.mono _ _ _)
      | (with_reducible exact LeO.refl _)
      | (with_reducible exact LeO.none _)
      | (with_reducible refine LeO.ite ?_ ?_)
      | (with_reducible refine LeO.bind ?_ (fun _ => ?_))
      | exact ih0 _ _ _
      | exact laws_markIntS.mono _ _ _
      | exact LeO.none _
      | refine LeO.ite ?_ ?_
      | refine LeO.bind ?_ (fun _ => ?_)
theorem laws_markIntSS.mono : ∀ a0 a1 k, LeO (laws_markIntSS.f k a0 a1) (laws_markIntSS.f (k + 1) a0 a1) := by
  intro a0 a1 k
  have ih0 := laws_markIntSS.mono_l k
  unfold laws_markIntSS.f
  repeat' first
      | (with_reducible exact ih0 _ _ _)
      | (with_reducible exact laws_markIntS.mono _ _ _)
      | (with_reducible exact LeO.refl _)
      | (with_reducible exact LeO.none _)
      | (with_reducible refine LeO.ite ?_ ?_)
      | (with_reducible refine LeO.bind ?_ (fun _ => ?_))
      | exact ih0 _ _ _
      | exact laws_markIntS.mono _ _ _
      | exact LeO.none _
      | refine LeO.ite ?_ ?_
      | refine LeO.bind ?_ (fun _ => ?_)
set_option maxHeartbeats 8000000 in
set_option maxRecDepth 100000 in
theorem laws_markIntSS.calls (k : Nat) (P0_ : Nat → Prop) (u : Value) (l0 : List (List Int)) (a1 : Int) (r1 : Int) (r2 : List (List Int)) (w0 w : World) (hB : Below w0.heap.size w0 w) (ho0 : Kd.S (Kd.slice 3 (Kd.int .i64)) 25 w w0.heap.size P0_ u l0) (h : laws_markIntSS.f k l0 a1 = some (r1, r2)) :
    Calls Try.prog 31 #[u, .int .i64 a1] w fun e w' => e = .returned (.int .i64 r1) ∧ Kd.S (Kd.slice 3 (Kd.int .i64)) 25 w' w0.heap.size P0_ u r2 ∧ Below w0.heap.size w0 w' ∧ Kept w w' P0_ := by
  unfold laws_markIntSS.f at h
  have HO := Aside0.mk ho0
  have HB := Aside0.mk hB
  have H' := Aside0.mk h
  clear ho0 hB h
  obtain ⟨A0, c0, e0⟩ := Kd.S_slice HO.out
  subst e0
  go_enter Try.func31, Try.ntmps31
  go_wp2_with fail
  go_loopg [1, 5] k (fun kq v1 v5 w' => ∃ (l : List (List Int)) (q i : Int), v1 = .int .i64 q ∧ v5 = .int .i64 i ∧ Aside0 (laws_markIntSS.l0 kq l q i = some (r1, r2)) ∧ Aside0 (kq ≤ k) ∧ Aside0 (l.length = l0.length) ∧ Aside0 (Kd.S (Kd.slice 3 (Kd.int .i64)) 25 w' w0.heap.size P0_ (.slice A0 l0.length c0) l) ∧ Aside0 (Below w0.heap.size w0 w') ∧ Aside0 (Kept w w' P0_))
  case atStart => exact ⟨l0, a1, 0, rfl, rfl, H', ⟨Nat.le_refl _⟩, ⟨rfl⟩, HO, HB, ⟨Kept.refl _ _⟩⟩
  case round =>
    clear H' HO HB
    obtain ⟨l, q, i, rfl, rfl, HA, HK, HL, HO, HB, HKp⟩ := hrel
    cases gk with
    | zero => exact absurd HA.out (by simp [laws_markIntSS.l0])
    | succ k1 =>
      have H := HA.out
      clear HA
      rw [laws_markIntSS.l0] at H
      by_cases c5 : i < (l.length : Int)
      · rw [if_pos c5] at H
        have c5' : i < (l0.length : Int) := by have := HL.out; omega
        have b5 : decide (i < (l0.length : Int)) = true := decide_eq_true c5'
        by_cases c6 : 0 ≤ i
        · rw [if_pos c6] at H
          replace H := Option.bind_eq_some_iff.mp H
          obtain ⟨⟨q2, x2⟩, hx, H⟩ := H
          have HX := Aside0.mk hx
          have H' := Aside0.mk H
          clear H hx
          obtain ⟨g, cap, eg, bg1, bg2, bg3⟩ := Kd.S_form HO.out (by have := HL.out; omega)
          obtain ⟨eA, eL, eC⟩ := (Value.slice.injEq _ _ _ _ _ _).mp eg
          subst eA
          subst eC
          have p5 := eq_true c6
          have q5 := eq_true c5'
          obtain ⟨oki, c, hcl, hM, hcc, hok, hH⟩ := Kd.S_lend HO.out ([] : List Int) i c6 c5'
          obtain ⟨vi, ec, hvi⟩ := hM
          subst ec
          have hcell := hcc 0 vi rfl
          rw [Nat.add_zero, show (Kd.slice 3 (Kd.int .i64)).sz = 1 from rfl, Nat.mul_one] at hcell
          have HV := Aside0.mk hvi
          have HH := Aside0.mk hH
          have HOK := Aside0.mk hok
          have HM : Aside0 (∀ (W : World) (x : List Int), Kd.R (Kd.int .i64) 3 W w0.heap.size oki vi x → (Kd.slice 3 (Kd.int .i64)).M W w0.heap.size oki x [vi]) := ⟨fun W x hx => ⟨vi, rfl, hx⟩⟩
          clear hcc hcl hvi hH hok bg1 bg2 bg3 eg eL c5 c5' c6
          go_wp2_with (first | ((with_reducible refine gate_callee (f := 26) rfl ?_); refine goesL_ (some 17) rfl rfl Try.func26 (by kernel_rfl) rfl #[vi, .int .i64 q] rfl (by (try simp only [List.map_toArray, List.map_cons, List.map_nil]); first | done | rfl) ?_; (with_reducible refine (laws_markIntS.calls k1 oki vi (l.getD i.toNat []) q q2 x2 w0 _ HB.out HV.out HX.out).mono ?_); rintro e wb ⟨rfl, hr, hb, hk⟩; have hr2 := Kd.R_reok rfl hr (fun k_ e_ => HV.out.1 k_ e_); have ho2 := Kd.H_back (Kd.H_step HH.out (fun k _ hn hlt => hk.2 k hlt hn)) (HM.out _ _ hr2) (fun k hk_ => hk_); have HO2 := Aside0.mk ho2; have HB2 := Aside0.mk hb; have HK2 := Aside0.mk (HKp.out.then_ hk (fun k hk_ => .inl (HOK.out k hk_).1)); clear hr hr2 ho2 hb hk; refine ⟨_, rfl, ?_⟩))
          go_roundg k1
          case measure => have := HK.out; omega
          case rel => exact ⟨l.set i.toNat x2, q2, wrap64 (i + 1), rfl, rfl, H', ⟨by have := HK.out; omega⟩, ⟨by rw [List.length_set]; exact HL.out⟩, HO2, HB2, HK2⟩
        · rw [if_neg c6] at H
          exact absurd H (by simp)
      · rw [if_neg c5] at H
        have c5b0 : decide (i < (l0.length : Int)) = false := decide_eq_false (by have := HL.out; omega)
        have e0 := Option.some.inj H
        have e1 : q = r1 := congrArg Prod.fst e0
        have e2 : l = r2 := congrArg Prod.snd e0
        subst e1
        subst e2
        clear H c5 e0
        go_wp2
        go_ret
        exact ⟨rfl, HO.out, HB.out, HKp.out⟩

/-! ### laws_heldIntS: function 27 -/
def laws_heldIntS.l0 : Nat → List Int → Int → Int → Option (Int)
  | 0, _, _, _ => none
  | k + 1, x0, x1, x5 => if x5 < (x0.length : Int) then (if 0 ≤ x5 then (if (rd x0 x5) = x1 then (laws_heldIntS.l0 k x0 (wrap64 (x1 + 1)) (wrap64 (x5 + 1))) else (some (-1))) else (none)) else (some x1)
def laws_heldIntS.f (k : Nat) (l0 : List Int) (a1 : Int) : Option (Int) := laws_heldIntS.l0 k l0 a1 0
theorem laws_heldIntS.mono_l : ∀ k, (∀ y0 y1 y2, LeO (laws_heldIntS.l0 k y0 y1 y2) (laws_heldIntS.l0 (k + 1) y0 y1 y2))
  | 0 => fun _ _ _ r h => by simp [laws_heldIntS.l0] at h
  | k + 1 => by
    have ih0 := laws_heldIntS.mono_l k
    · intro y0 y1 y2
      unfold laws_heldIntS.l0
      repeat' first
      | (with_reducible exact ih0 _ _ _)
      | (with_reducible exact LeO.refl _)
      | (with_reducible exact LeO.none _)
      | (with_reducible refine LeO.ite ?_ ?_)
      | (with_reducible refine LeO.bind ?_ (fun _ => ?_))
      | exact ih0 _ _ _
      | exact LeO.none _
      | refine LeO.ite ?_ ?_
      | refine LeO.bind ?_ (fun _ => ?_)
theorem laws_heldIntS.mono : ∀ a0 a1 k, LeO (laws_heldIntS.f k a0 a1) (laws_heldIntS.f (k + 1) a0 a1) := by
  intro a0 a1 k
  have ih0 := laws_heldIntS.mono_l k
  unfold laws_heldIntS.f
  repeat' first
      | (with_reducible exact ih0 _ _ _)
      | (with_reducible exact LeO.refl _)
      | (with_reducible exact LeO.none _)
      | (with_reducible refine LeO.ite ?_ ?_)
      | (with_reducible refine LeO.bind ?_ (fun _ => ?_))
      | exact ih0 _ _ _
      | exact LeO.none _
      | refine LeO.ite ?_ ?_
      | refine LeO.bind ?_ (fun _ => ?_)
set_option maxHeartbeats 8000000 in
set_option maxRecDepth 100000 in
theorem laws_heldIntS.calls (k : Nat) (A0 : Option Addr) (c0 : Nat) (l0 : List Int) (a1 : Int) (r : Int) (w : World) (hr0 : Kd.C (Kd.int .i64) w A0 l0.length l0) (hc0 : l0.length ≤ c0) (h : laws_heldIntS.f k l0 a1 = some r) :
    Calls Try.prog 27 #[.slice A0 l0.length c0, .int .i64 a1] w fun e w' => e = .returned (.int .i64 r) ∧ Drawn0 w w' := by
  have HR0 := Aside0.mk hr0
  have HC0 := Aside0.mk hc0
  clear hr0 hc0
  have H : (laws_heldIntS.l0 k l0 a1 0) = some r := h
  clear h
  have H' := Aside0.mk H
  clear H
  go_enter Try.func27, Try.ntmps27
  go_wp2
  go_loopg [1, 5] k (fun kq v1 v5 w' => ∃ (x1_1 : Int) (x5_1 : Int), v1 = .int .i64 x1_1 ∧ v5 = .int .i64 x5_1 ∧ Aside0 (laws_heldIntS.l0 kq l0 x1_1 x5_1 = some r) ∧ Aside0 (kq ≤ k) ∧ Drawn0 w w')
  case atStart => exact ⟨(a1), (0), (by first | rfl | (simp; done) | (simp [*]; done)), (by first | rfl | (simp; done) | (simp [*]; done)), H', ⟨Nat.le_refl _⟩, by repeat (first | exact Drawn0.refl _ | apply Drawn0.step)⟩
  case round =>
    clear H'
    try clear c2
    try clear p2
    obtain ⟨x1_1, x5_1, rfl, rfl, HA, HK1, ⟨m1, rfl⟩⟩ := hrel
    cases gk with
    | zero => exact absurd HA.out (by simp [laws_heldIntS.l0])
    | succ k1 =>
      have H := HA.out
      clear HA
      simp only [laws_heldIntS.l0] at H
      by_cases c3 : x5_1 < (l0.length : Int)
      · rw [if_pos c3] at H
        have c3b0 : decide (x5_1 < (l0.length : Int)) = true := decide_eq_true c3
        clear c3
        by_cases c4 : 0 ≤ x5_1
        · rw [if_pos c4] at H
          have c4b0 : decide (0 ≤ x5_1) = true := decide_eq_true c4
          clear c4
          by_cases c5 : (rd l0 x5_1) = x1_1
          · rw [if_pos c5] at H
            have c5b0 : ((rd l0 x5_1) == x1_1) = true := beq_iff_eq.mpr c5
            have c5b1 : ((rd l0 x5_1) != x1_1) = false := bne_eq_false_iff_eq.mpr c5
            clear c5
            have H' := Aside0.mk H
            clear H
            have p155 : 0 ≤ (x5_1 : Int) := of_decide_eq_true (by first | (with_reducible assumption) | assumption)
            have q155 : x5_1 < (l0.length : Int) := of_decide_eq_true (by first | (with_reducible assumption) | assumption)
            obtain ⟨ad155, e155, hx155_0⟩ := Kd.at_int HR0.out x5_1 p155 q155
            cases e155
            replace p155 := eq_true p155
            replace q155 := eq_true q155
            go_wp2
            go_roundg k1
            case measure => have := HK1.out; omega
            case rel => exact ⟨(wrap64 (x1_1 + 1)), (wrap64 (x5_1 + 1)), (by first | rfl | (simp; done) | (simp [*]; done)), (by first | rfl | (simp; done) | (simp [*]; done)), H', ⟨by have := HK1.out; omega⟩, by repeat (first | exact Drawn0.refl _ | apply Drawn0.step)⟩
          · rw [if_neg c5] at H
            have c5b0 : ((rd l0 x5_1) == x1_1) = false := beq_eq_false_iff_ne.mpr c5
            have c5b1 : ((rd l0 x5_1) != x1_1) = true := bne_iff_ne.mpr c5
            obtain rfl := Option.some.inj H
            have p155 : 0 ≤ (x5_1 : Int) := of_decide_eq_true (by first | (with_reducible assumption) | assumption)
            have q155 : x5_1 < (l0.length : Int) := of_decide_eq_true (by first | (with_reducible assumption) | assumption)
            obtain ⟨ad155, e155, hx155_0⟩ := Kd.at_int HR0.out x5_1 p155 q155
            cases e155
            replace p155 := eq_true p155
            replace q155 := eq_true q155
            go_wp2
            go_ret
            exact ⟨by first | rfl | (simp; done) | (simp [*]; done), by repeat (first | exact Drawn0.refl _ | apply Drawn0.step)⟩
        · rw [if_neg c4] at H
          exact absurd H (by simp)
      · rw [if_neg c3] at H
        have c3b0 : decide (x5_1 < (l0.length : Int)) = false := decide_eq_false c3
        clear c3
        obtain rfl := Option.some.inj H
        go_wp2
        go_ret
        exact ⟨by first | rfl | (simp; done) | (simp [*]; done), by repeat (first | exact Drawn0.refl _ | apply Drawn0.step)⟩

/-! ### laws_heldIntSS: function 32 -/
def laws_heldIntSS.l0 : Nat → List (List Int) → Int → Int → Option (Int)
  | 0, _, _, _ => none
  | k + 1, x0, x1, x5 => if x5 < (x0.length : Int) then (if 0 ≤ x5 then ((laws_heldIntS.f k (rd_L1 x0 x5) x1).bind fun t157 => (if t157 < 0 then (some (-1)) else (laws_heldIntSS.l0 k x0 t157 (wrap64 (x5 + 1))))) else (none)) else (some x1)
def laws_heldIntSS.f (k : Nat) (l0 : List (List Int)) (a1 : Int) : Option (Int) := laws_heldIntSS.l0 k l0 a1 0
theorem laws_heldIntSS.mono_l : ∀ k, (∀ y0 y1 y2, LeO (laws_heldIntSS.l0 k y0 y1 y2) (laws_heldIntSS.l0 (k + 1) y0 y1 y2))
  | 0 => fun _ _ _ r h => by simp [laws_heldIntSS.l0] at h
  | k + 1 => by
    have ih0 := laws_heldIntSS.mono_l k
    · intro y0 y1 y2
      unfold laws_heldIntSS.l0
      repeat' first
      | (with_reducible exact ih0 _ _ _)
      | (with_reducible exact laws_heldIntS.mono _ _ _)
      | (with_reducible exact LeO.refl _)
      | (with_reducible exact LeO.none _)
      | (with_reducible refine LeO.ite ?_ ?_)
      | (with_reducible refine LeO.bind ?_ (fun _ => ?_))
      | exact ih0 _ _ _
      | exact laws_heldIntS.mono _ _ _
      | exact LeO.none _
      | refine LeO.ite ?_ ?_
      | refine LeO.bind ?_ (fun _ => ?_)
theorem laws_heldIntSS.mono : ∀ a0 a1 k, LeO (laws_heldIntSS.f k a0 a1) (laws_heldIntSS.f (k + 1) a0 a1) := by
  intro a0 a1 k
  have ih0 := laws_heldIntSS.mono_l k
  unfold laws_heldIntSS.f
  repeat' first
      | (with_reducible exact ih0 _ _ _)
      | (with_reducible exact laws_heldIntS.mono _ _ _)
      | (with_reducible exact LeO.refl _)
      | (with_reducible exact LeO.none _)
      | (with_reducible refine LeO.ite ?_ ?_)
      | (with_reducible refine LeO.bind ?_ (fun _ => ?_))
      | exact ih0 _ _ _
      | exact laws_heldIntS.mono _ _ _
      | exact LeO.none _
      | refine LeO.ite ?_ ?_
      | refine LeO.bind ?_ (fun _ => ?_)
set_option maxHeartbeats 8000000 in
set_option maxRecDepth 100000 in
theorem laws_heldIntSS.calls (k : Nat) (A0 : Option Addr) (c0 : Nat) (l0 : List (List Int)) (a1 : Int) (r : Int) (w : World) (hr0 : Kd.C (Kd.slice 3 (Kd.int .i64)) w A0 l0.length l0) (hc0 : l0.length ≤ c0) (h : laws_heldIntSS.f k l0 a1 = some r) :
    Calls Try.prog 32 #[.slice A0 l0.length c0, .int .i64 a1] w fun e w' => e = .returned (.int .i64 r) ∧ Drawn0 w w' := by
  have HR0 := Aside0.mk hr0
  have HC0 := Aside0.mk hc0
  clear hr0 hc0
  have H : (laws_heldIntSS.l0 k l0 a1 0) = some r := h
  clear h
  have H' := Aside0.mk H
  clear H
  go_enter Try.func32, Try.ntmps32
  go_wp2
  go_loopg [1, 5] k (fun kq v1 v5 w' => ∃ (x1_1 : Int) (x5_1 : Int), v1 = .int .i64 x1_1 ∧ v5 = .int .i64 x5_1 ∧ Aside0 (laws_heldIntSS.l0 kq l0 x1_1 x5_1 = some r) ∧ Aside0 (kq ≤ k) ∧ Drawn0 w w')
  case atStart => exact ⟨(a1), (0), (by first | rfl | (simp; done) | (simp [*]; done)), (by first | rfl | (simp; done) | (simp [*]; done)), H', ⟨Nat.le_refl _⟩, by repeat (first | exact Drawn0.refl _ | apply Drawn0.step)⟩
  case round =>
    clear H'
    try clear p2
    obtain ⟨x1_1, x5_1, rfl, rfl, HA, HK1, ⟨m1, rfl⟩⟩ := hrel
    cases gk with
    | zero => exact absurd HA.out (by simp [laws_heldIntSS.l0])
    | succ k1 =>
      have H := HA.out
      clear HA
      simp only [laws_heldIntSS.l0] at H
      by_cases c3 : x5_1 < (l0.length : Int)
      · rw [if_pos c3] at H
        have c3b0 : decide (x5_1 < (l0.length : Int)) = true := decide_eq_true c3
        clear c3
        by_cases c4 : 0 ≤ x5_1
        · rw [if_pos c4] at H
          have c4b0 : decide (0 ≤ x5_1) = true := decide_eq_true c4
          clear c4
          replace H := Option.bind_eq_some_iff.mp H
          obtain ⟨t157, A50, H⟩ := H
          replace H : (if t157 < 0 then (some (-1)) else (laws_heldIntSS.l0 k1 l0 t157 (wrap64 (x5_1 + 1)))) = some r := H
          have A5 := Aside0.mk A50
          clear A50
          by_cases c6 : t157 < 0
          · rw [if_pos c6] at H
            have c6b0 : decide (t157 < 0) = true := decide_eq_true c6
            clear c6
            obtain rfl := Option.some.inj H
            have p156 : 0 ≤ (x5_1 : Int) := of_decide_eq_true (by first | (with_reducible assumption) | assumption)
            have q156 : x5_1 < (l0.length : Int) := of_decide_eq_true (by first | (with_reducible assumption) | assumption)
            obtain ⟨ad156, A156_0, c156_0, e156, hx156_0, hl156_0, hi156_0⟩ := at_L1 HR0.out x5_1 p156 q156
            cases e156
            have HR156_0 := Aside0.mk hi156_0
            have HC156_0 := Aside0.mk hl156_0
            clear hi156_0 hl156_0
            replace p156 := eq_true p156
            replace q156 := eq_true q156
            go_wp2_with (first | ((with_reducible refine gate_callee (f := 27) rfl ?_); refine goesL_ (some 17) rfl rfl Try.func27 (by kernel_rfl) rfl #[.slice A156_0 (rd_L1 l0 x5_1).length c156_0, .int .i64 x1_1] rfl (by (try simp only [List.map_toArray, List.map_cons, List.map_nil]); first | done | rfl | (simp only [List.length_drop, List.length_take]; rfl)) ?_; (with_reducible refine (laws_heldIntS.calls k1 _ _ (rd_L1 l0 x5_1) x1_1 t157 _ ?side1 ?side2 A5.out).mono ?_); (case side1 => repeat (first | exact HR156_0.out | (with_reducible refine Kd.C_alloc ?_ _) | (with_reducible refine Kd.C_drewN ?_ _) | (with_reducible refine Kd.C_drew ?_))); (case side2 => exact HC156_0.out); rintro e w' ⟨rfl, ⟨nd, rfl⟩⟩; refine ⟨_, rfl, ?_⟩))
            go_ret
            exact ⟨by first | rfl | (simp; done) | (simp [*]; done), by repeat (first | exact Drawn0.refl _ | apply Drawn0.step)⟩
          · rw [if_neg c6] at H
            have c6b0 : decide (t157 < 0) = false := decide_eq_false c6
            clear c6
            have H' := Aside0.mk H
            clear H
            have p156 : 0 ≤ (x5_1 : Int) := of_decide_eq_true (by first | (with_reducible assumption) | assumption)
            have q156 : x5_1 < (l0.length : Int) := of_decide_eq_true (by first | (with_reducible assumption) | assumption)
            obtain ⟨ad156, A156_0, c156_0, e156, hx156_0, hl156_0, hi156_0⟩ := at_L1 HR0.out x5_1 p156 q156
            cases e156
            have HR156_0 := Aside0.mk hi156_0
            have HC156_0 := Aside0.mk hl156_0
            clear hi156_0 hl156_0
            replace p156 := eq_true p156
            replace q156 := eq_true q156
            go_wp2_with (first | ((with_reducible refine gate_callee (f := 27) rfl ?_); refine goesL_ (some 17) rfl rfl Try.func27 (by kernel_rfl) rfl #[.slice A156_0 (rd_L1 l0 x5_1).length c156_0, .int .i64 x1_1] rfl (by (try simp only [List.map_toArray, List.map_cons, List.map_nil]); first | done | rfl | (simp only [List.length_drop, List.length_take]; rfl)) ?_; (with_reducible refine (laws_heldIntS.calls k1 _ _ (rd_L1 l0 x5_1) x1_1 t157 _ ?side1 ?side2 A5.out).mono ?_); (case side1 => repeat (first | exact HR156_0.out | (with_reducible refine Kd.C_alloc ?_ _) | (with_reducible refine Kd.C_drewN ?_ _) | (with_reducible refine Kd.C_drew ?_))); (case side2 => exact HC156_0.out); rintro e w' ⟨rfl, ⟨nd, rfl⟩⟩; refine ⟨_, rfl, ?_⟩))
            go_roundg k1
            case measure => have := HK1.out; omega
            case rel => exact ⟨(t157), (wrap64 (x5_1 + 1)), (by first | rfl | (simp; done) | (simp [*]; done)), (by first | rfl | (simp; done) | (simp [*]; done)), H', ⟨by have := HK1.out; omega⟩, by repeat (first | exact Drawn0.refl _ | apply Drawn0.step)⟩
        · rw [if_neg c4] at H
          exact absurd H (by simp)
      · rw [if_neg c3] at H
        have c3b0 : decide (x5_1 < (l0.length : Int)) = false := decide_eq_false c3
        clear c3
        obtain rfl := Option.some.inj H
        go_wp2
        go_ret
        exact ⟨by first | rfl | (simp; done) | (simp [*]; done), by repeat (first | exact Drawn0.refl _ | apply Drawn0.step)⟩

/-! ### laws_FnExactGridForms: function 5 -/
--@import Derived.Test.YtniinbnpdnajjaaV2
open Go.Proofs.Ytniinbnpdnajjaa.My
def laws_FnExactGridForms.f (k : Nat) (l0 : List Int) (a1 : Int) : Option Bool := if (l0.length : Int) > 1048576 then some true else ((laws_toIntS.f k l0).bind fun x => ((spec_GridForms.f k x a1).bind fun wf => ((impl_GridForms.f k x a1).bind fun g => ((laws_eqIntSS.f k g wf).bind fun e1 => (if e1 = true then ((laws_eqIntS.f k x x).bind fun e2 => (if e2 = true then ((laws_markIntS.f k x 1).bind fun kx => (if 0 ≤ kx.1 then ((laws_markIntSS.f k g 1).bind fun kg => (if 0 ≤ kg.1 then ((laws_heldIntSS.f k kg.2 1).bind fun q => (if q = kg.1 then some true else none)) else none)) else none)) else none)) else none)))))
theorem laws_FnExactGridForms.mono : ∀ a0 a1 k, LeO (laws_FnExactGridForms.f k a0 a1) (laws_FnExactGridForms.f (k + 1) a0 a1) := by
  intro a0 a1 k
  unfold laws_FnExactGridForms.f
  repeat' first
      | (with_reducible exact laws_toIntS.mono _ _)
      | (with_reducible exact spec_GridForms.mono _ _ _)
      | (with_reducible exact impl_GridForms.mono _ _ _)
      | (with_reducible exact laws_eqIntSS.mono _ _ _)
      | (with_reducible exact laws_eqIntS.mono _ _ _)
      | (with_reducible exact laws_markIntS.mono _ _ _)
      | (with_reducible exact laws_markIntSS.mono _ _ _)
      | (with_reducible exact laws_heldIntSS.mono _ _ _)
      | (with_reducible exact LeO.refl _)
      | (with_reducible exact LeO.none _)
      | (with_reducible refine LeO.ite ?_ ?_)
      | (with_reducible refine LeO.bind ?_ (fun _ => ?_))
      | exact laws_toIntS.mono _ _
      | exact spec_GridForms.mono _ _ _
      | exact impl_GridForms.mono _ _ _
      | exact laws_eqIntSS.mono _ _ _
      | exact laws_eqIntS.mono _ _ _
      | exact laws_markIntS.mono _ _ _
      | exact laws_markIntSS.mono _ _ _
      | exact laws_heldIntSS.mono _ _ _
      | exact LeO.none _
      | refine LeO.ite ?_ ?_
      | refine LeO.bind ?_ (fun _ => ?_)
def laws_FnExactGridForms.Pure : Prop := ∀ (l0 : List Int) (a1 : Int), l0.length ≤ maxLen → l0.length * 8 ≤ 140737488351232 → (∀ x ∈ l0, (Lit.int .i64 x).wf = true) → (Lit.int .i64 a1).wf = true → ∃ k, laws_FnExactGridForms.f k l0 a1 = some true
set_option maxHeartbeats 8000000 in
set_option maxRecDepth 100000 in
theorem laws_FnExactGridForms.calls (k : Nat) (A0 : Option Addr) (c0 : Nat) (l0 : List Int) (a1 : Int) (r : Bool) (w : World) (hr0 : Kd.C (Kd.int .i64) w A0 l0.length l0) (hc0 : l0.length ≤ c0) (h : laws_FnExactGridForms.f k l0 a1 = some r) :
    Calls Try.prog 5 #[.slice A0 l0.length c0, .int .i64 a1] w fun e w' => e = .returned (.bool r) ∧ Below w.heap.size w w' := by
  have HR0 := Aside0.mk hr0
  have HB := Aside0.mk (Below.refl w.heap.size w)
  unfold laws_FnExactGridForms.f at h
  clear hr0
  by_cases c1 : (l0.length : Int) > 1048576
  · rw [if_pos c1] at h
    obtain rfl := Option.some.inj h
    have b1 : decide (1048576 < (l0.length : Int)) = true := decide_eq_true c1
    have b1' : decide (1048576 < l0.length) = true := decide_eq_true (by omega)
    clear h c1
    go_enter Try.func5, Try.ntmps5
    go_wp2
    go_ret
    exact ⟨rfl, HB.out⟩
  · rw [if_neg c1] at h
    have b1 : decide (1048576 < (l0.length : Int)) = false := decide_eq_false c1
    have b1' : decide (1048576 < l0.length) = false := decide_eq_false (by omega)
    clear c1
    obtain ⟨x, hx, h⟩ := Option.bind_eq_some_iff.mp h
    obtain ⟨wf, hw, h⟩ := Option.bind_eq_some_iff.mp h
    obtain ⟨g, hg, h⟩ := Option.bind_eq_some_iff.mp h
    obtain ⟨e1, he1, h⟩ := Option.bind_eq_some_iff.mp h
    by_cases c2 : e1 = true
    rotate_left
    · rw [if_neg c2] at h
      exact absurd h (by simp)
    rw [if_pos c2] at h
    subst c2
    obtain ⟨e2, he2, h⟩ := Option.bind_eq_some_iff.mp h
    by_cases c3 : e2 = true
    rotate_left
    · rw [if_neg c3] at h
      exact absurd h (by simp)
    rw [if_pos c3] at h
    subst c3
    obtain ⟨kx, hkx, h⟩ := Option.bind_eq_some_iff.mp h
    by_cases c4 : 0 ≤ kx.1
    rotate_left
    · rw [if_neg c4] at h
      exact absurd h (by simp)
    rw [if_pos c4] at h
    obtain ⟨kg, hkg, h⟩ := Option.bind_eq_some_iff.mp h
    by_cases c5 : 0 ≤ kg.1
    rotate_left
    · rw [if_neg c5] at h
      exact absurd h (by simp)
    rw [if_pos c5] at h
    obtain ⟨q, hq, h⟩ := Option.bind_eq_some_iff.mp h
    by_cases c6 : q = kg.1
    rotate_left
    · rw [if_neg c6] at h
      exact absurd h (by simp)
    rw [if_pos c6] at h
    subst c6
    obtain rfl := Option.some.inj h
    have d4 : decide (kx.1 < 0) = false := decide_eq_false (by omega)
    have d5 : decide (kg.1 < 0) = false := decide_eq_false (by omega)
    have HT := Aside0.mk hx
    have HW0 := Aside0.mk hw
    have HG0 := Aside0.mk hg
    have HE1 := Aside0.mk he1
    have HE2 := Aside0.mk he2
    have HM1 : Aside0 (laws_markIntS.f k x 1 = some (kx.1, kx.2)) := ⟨hkx⟩
    have HM2 : Aside0 (laws_markIntSS.f k g 1 = some (kg.1, kg.2)) := ⟨hkg⟩
    have HQ := Aside0.mk hq
    clear hx hw hg he1 he2 hkx hkg hq h c4 c5
    go_enter Try.func5, Try.ntmps5
    go_wp2_with (first | ((with_reducible refine gate_callee (f := 23) rfl ?_); refine goesL_ (some 16) rfl rfl Try.func23 (by kernel_rfl) rfl #[.slice A0 l0.length c0] rfl (by (try simp only [List.map_toArray, List.map_cons, List.map_nil]); first | done | rfl) ?_; (with_reducible refine (laws_toIntS.calls k A0 c0 l0 x _ (Kd.C_below HR0.out HB.out) hc0 HT.out).mono ?_); rintro e wb ⟨vA, rfl, ho, hb⟩; obtain ⟨loA, hiA, ho1, hd1⟩ := ownR_new (b := w.heap.size) ho hb HB.out.size; have n0_ := Aside0.mk (ho1); have n1_ := Aside0.mk (below_step HB.out hb); (try clear HA); (try clear HB); have HA := n0_; have HB := n1_; clear n0_ n1_; (try clear ho); (try clear hb); (try clear ho1); (try clear hd1); obtain ⟨AA, cA, eA⟩ := Kd.R_slice HA.out.row; subst eA; refine ⟨_, rfl, ?_⟩) | ((with_reducible refine gate_callee (f := 28) rfl ?_); refine goesL_ (some 18) rfl rfl Try.func28 (by kernel_rfl) rfl #[.slice AA x.length cA, .int .i64 a1] rfl (by (try simp only [List.map_toArray, List.map_cons, List.map_nil]); first | done | rfl) ?_; (with_reducible refine (spec_GridForms.calls k AA cA x a1 wf _ HA.out.reads.2.2 HA.out.reads.2.1 HW0.out).mono ?_); rintro e wb ⟨vW, rfl, ho, hb⟩; obtain ⟨loW, hiW, ho1, hd1⟩ := own_new (b := w.heap.size) ho hb HB.out.size; have n0_ := Aside0.mk (ho1); have n1_ := Aside0.mk (below_step HB.out hb); (try clear HW); (try clear HB); have HW := n0_; have HB := n1_; clear n0_ n1_; (try clear ho); (try clear hb); (try clear ho1); (try clear hd1); obtain ⟨AW, cW, eW⟩ := Kd.S_slice HW.out.row; subst eW; refine ⟨_, rfl, ?_⟩) | ((with_reducible refine gate_callee (f := 23) rfl ?_); refine goesL_ (some 20) rfl rfl Try.func23 (by kernel_rfl) rfl #[.slice A0 l0.length c0] rfl (by (try simp only [List.map_toArray, List.map_cons, List.map_nil]); first | done | rfl) ?_; (with_reducible refine (laws_toIntS.calls k A0 c0 l0 x _ (Kd.C_below HR0.out HB.out) hc0 HT.out).mono ?_); rintro e wb ⟨vX, rfl, ho, hb⟩; obtain ⟨loX, hiX, ho1, hd1⟩ := ownR_new (b := w.heap.size) ho hb HB.out.size; have DWX := Aside0.mk (hd1 _ HW.out.top); have n0_ := Aside0.mk (ho1); have n1_ := Aside0.mk (below_step HB.out hb); have n2_ := Aside0.mk (HW.out.below hb); (try clear HX); (try clear HB); (try clear HW); have HX := n0_; have HB := n1_; have HW := n2_; clear n0_ n1_ n2_; (try clear ho); (try clear hb); (try clear ho1); (try clear hd1); obtain ⟨AX, cX, eX⟩ := Kd.R_slice HX.out.row; subst eX; refine ⟨_, rfl, ?_⟩) | ((with_reducible refine gate_callee (f := 29) rfl ?_); refine goesL_ (some 23) rfl rfl Try.func29 (by kernel_rfl) rfl #[.slice AX x.length cX, .int .i64 a1] rfl (by (try simp only [List.map_toArray, List.map_cons, List.map_nil]); first | done | rfl) ?_; (with_reducible refine (impl_GridForms.calls k AX cX x a1 g _ HX.out.reads.2.2 HX.out.reads.2.1 HG0.out).mono ?_); rintro e wb ⟨vG, rfl, ho, hb⟩; obtain ⟨loG, hiG, ho1, hd1⟩ := own_new (b := w.heap.size) ho hb HB.out.size; have DWG := Aside0.mk (hd1 _ HW.out.top); have DXG := Aside0.mk (hd1 _ HX.out.top); have n0_ := Aside0.mk (ho1); have n1_ := Aside0.mk (below_step HB.out hb); have n2_ := Aside0.mk (HW.out.below hb); have n3_ := Aside0.mk (HX.out.below hb); (try clear HG); (try clear HB); (try clear HW); (try clear HX); have HG := n0_; have HB := n1_; have HW := n2_; have HX := n3_; clear n0_ n1_ n2_ n3_; (try clear ho); (try clear hb); (try clear ho1); (try clear hd1); obtain ⟨AG, cG, eG⟩ := Kd.S_slice HG.out.row; subst eG; refine ⟨_, rfl, ?_⟩) | ((with_reducible refine gate_callee (f := 30) rfl ?_); refine goesL_ (some 26) rfl rfl Try.func30 (by kernel_rfl) rfl #[.slice AG g.length cG, .slice AW wf.length cW] rfl (by (try simp only [List.map_toArray, List.map_cons, List.map_nil]); first | done | rfl) ?_; (with_reducible refine (laws_eqIntSS.calls k AG cG g AW cW wf true _ HG.out.reads.2.2 HG.out.reads.2.1 HW.out.reads.2.2 HW.out.reads.2.1 HE1.out).mono ?_); rintro e wb ⟨rfl, hd⟩; have hb := drawn_below hd; have n0_ := Aside0.mk (below_step HB.out hb); have n1_ := Aside0.mk (HW.out.below hb); have n2_ := Aside0.mk (HX.out.below hb); have n3_ := Aside0.mk (HG.out.below hb); (try clear HB); (try clear HW); (try clear HX); (try clear HG); have HB := n0_; have HW := n1_; have HX := n2_; have HG := n3_; clear n0_ n1_ n2_ n3_; (try clear hb); (try clear hd); refine ⟨_, rfl, ?_⟩) | ((with_reducible refine gate_callee (f := 23) rfl ?_); refine goesL_ (some 30) rfl rfl Try.func23 (by kernel_rfl) rfl #[.slice A0 l0.length c0] rfl (by (try simp only [List.map_toArray, List.map_cons, List.map_nil]); first | done | rfl) ?_; (with_reducible refine (laws_toIntS.calls k A0 c0 l0 x _ (Kd.C_below HR0.out HB.out) hc0 HT.out).mono ?_); rintro e wb ⟨vY, rfl, ho, hb⟩; obtain ⟨loY, hiY, ho1, hd1⟩ := ownR_new (b := w.heap.size) ho hb HB.out.size; have n0_ := Aside0.mk (ho1); have n1_ := Aside0.mk (below_step HB.out hb); have n2_ := Aside0.mk (HW.out.below hb); have n3_ := Aside0.mk (HX.out.below hb); have n4_ := Aside0.mk (HG.out.below hb); (try clear HY); (try clear HB); (try clear HW); (try clear HX); (try clear HG); have HY := n0_; have HB := n1_; have HW := n2_; have HX := n3_; have HG := n4_; clear n0_ n1_ n2_ n3_ n4_; (try clear ho); (try clear hb); (try clear ho1); (try clear hd1); obtain ⟨AY, cY, eY⟩ := Kd.R_slice HY.out.row; subst eY; refine ⟨_, rfl, ?_⟩) | ((with_reducible refine gate_callee (f := 25) rfl ?_); refine goesL_ (some 31) rfl rfl Try.func25 (by kernel_rfl) rfl #[.slice AX x.length cX, .slice AY x.length cY] rfl (by (try simp only [List.map_toArray, List.map_cons, List.map_nil]); first | done | rfl) ?_; (with_reducible refine (laws_eqIntS.calls k AX cX x AY cY x true _ HX.out.reads.2.2 HX.out.reads.2.1 HY.out.reads.2.2 HY.out.reads.2.1 HE2.out).mono ?_); rintro e wb ⟨rfl, hd⟩; have hb := drawn_below hd; have n0_ := Aside0.mk (below_step HB.out hb); have n1_ := Aside0.mk (HW.out.below hb); have n2_ := Aside0.mk (HX.out.below hb); have n3_ := Aside0.mk (HG.out.below hb); have n4_ := Aside0.mk (HY.out.below hb); (try clear HB); (try clear HW); (try clear HX); (try clear HG); (try clear HY); have HB := n0_; have HW := n1_; have HX := n2_; have HG := n3_; have HY := n4_; clear n0_ n1_ n2_ n3_ n4_; (try clear hb); (try clear hd); refine ⟨_, rfl, ?_⟩) | ((with_reducible refine gate_callee (f := 26) rfl ?_); refine goesL_ (some 35) rfl rfl Try.func26 (by kernel_rfl) rfl #[.slice AX x.length cX, .int .i64 1] rfl (by (try simp only [List.map_toArray, List.map_cons, List.map_nil]); first | done | rfl) ?_; (with_reducible refine (laws_markIntS.calls k (fun k => loX ≤ k ∧ k < hiX) (.slice AX x.length cX) x 1 kx.1 kx.2 w _ HB.out HX.out.row HM1.out).mono ?_); rintro e wb ⟨rfl, hr, hb, hk⟩; have hkb := Aside0.mk hk; have n0_ := Aside0.mk (hb); have n1_ := Aside0.mk (HW.out.kept hk (fun k hk_ hp_ => by have := DWX.out; have h2 : loX ≤ k ∧ k < hiX := hp_; omega)); have n2_ := Aside0.mk (HG.out.kept hk (fun k hk_ hp_ => by have := DXG.out; have h2 : loX ≤ k ∧ k < hiX := hp_; omega)); (try clear HB); (try clear HW); (try clear HG); have HB := n0_; have HW := n1_; have HG := n2_; clear n0_ n1_ n2_; (try clear hb); (try clear hk); (try clear hr); (try clear hkb); (try clear HX); (try clear HY); refine ⟨_, rfl, ?_⟩) | (go_at_call 30; (with_reducible refine (laws_eqIntSS.calls k AG cG g AW cW wf true _ HG.out.reads.2.2 HG.out.reads.2.1 HW.out.reads.2.2 HW.out.reads.2.1 HE1.out).mono ?_); rintro e w' ⟨rfl, hd⟩; have hb := drawn_below hd; have n0_ := Aside0.mk (below_step HB.out hb); have n1_ := Aside0.mk (HW.out.below hb); have n2_ := Aside0.mk (HG.out.below hb); (try clear HB); (try clear HW); (try clear HG); have HB := n0_; have HW := n1_; have HG := n2_; clear n0_ n1_ n2_; (try clear hb); (try clear hd)) | ((with_reducible refine gate_callee (f := 31) rfl ?_); refine goesL_ (some 46) rfl rfl Try.func31 (by kernel_rfl) rfl #[.slice AG g.length cG, .int .i64 1] rfl (by (try simp only [List.map_toArray, List.map_cons, List.map_nil]); first | done | rfl) ?_; (with_reducible refine (laws_markIntSS.calls k (fun k => loG ≤ k ∧ k < hiG) (.slice AG g.length cG) g 1 kg.1 kg.2 w _ HB.out HG.out.row HM2.out).mono ?_); rintro e wb ⟨rfl, hs, hb, hk⟩; have n0_ := Aside0.mk (hb); have n1_ := Aside0.mk (HW.out.kept hk (fun k hk_ hp_ => by have := DWG.out; have h2 : loG ≤ k ∧ k < hiG := hp_; omega)); have n2_ := Aside0.mk (own_mk hs (Nat.le_trans HG.out.top hk.1)); (try clear HB); (try clear HW); (try clear HG); have HB := n0_; have HW := n1_; have HG := n2_; clear n0_ n1_ n2_; (try clear hb); (try clear hk); (try clear hs); have LG := Aside0.mk HG.out.reads.1; refine ⟨_, rfl, ?_⟩) | ((with_reducible refine gate_callee (f := 32) rfl ?_); refine goesL_ (some 49) rfl rfl Try.func32 (by kernel_rfl) rfl #[.slice AG kg.2.length cG, .int .i64 1] rfl (by (try simp only [List.map_toArray, List.map_cons, List.map_nil]); first | done | rfl | (rw [← LG.out] <;> rfl)) ?_; (with_reducible refine (laws_heldIntSS.calls k AG cG kg.2 1 kg.1 _ HG.out.reads.2.2 (by have := HG.out.reads; omega) HQ.out).mono ?_); rintro e wb ⟨rfl, hd⟩; have hb := drawn_below hd; have n0_ := Aside0.mk (below_step HB.out hb); have n1_ := Aside0.mk (HW.out.below hb); have n2_ := Aside0.mk (HG.out.below hb); (try clear HB); (try clear HW); (try clear HG); have HB := n0_; have HW := n1_; have HG := n2_; clear n0_ n1_ n2_; (try clear hb); (try clear hd); refine ⟨_, rfl, ?_⟩) | ((with_reducible refine gate_callee (f := 23) rfl ?_); refine goesL_ (some 56) rfl rfl Try.func23 (by kernel_rfl) rfl #[.slice A0 l0.length c0] rfl (by (try simp only [List.map_toArray, List.map_cons, List.map_nil]); first | done | rfl) ?_; (with_reducible refine (laws_toIntS.calls k A0 c0 l0 x _ (Kd.C_below HR0.out HB.out) hc0 HT.out).mono ?_); rintro e wb ⟨vZ, rfl, ho, hb⟩; obtain ⟨loZ, hiZ, ho1, hd1⟩ := ownR_new (b := w.heap.size) ho hb HB.out.size; have n0_ := Aside0.mk (ho1); have n1_ := Aside0.mk (below_step HB.out hb); have n2_ := Aside0.mk (HW.out.below hb); have n3_ := Aside0.mk (HG.out.below hb); (try clear HZ); (try clear HB); (try clear HW); (try clear HG); have HZ := n0_; have HB := n1_; have HW := n2_; have HG := n3_; clear n0_ n1_ n2_ n3_; (try clear ho); (try clear hb); (try clear ho1); (try clear hd1); obtain ⟨AZ, cZ, eZ⟩ := Kd.R_slice HZ.out.row; subst eZ; refine ⟨_, rfl, ?_⟩) | ((with_reducible refine gate_callee (f := 29) rfl ?_); refine goesL_ (some 58) rfl rfl Try.func29 (by kernel_rfl) rfl #[.slice AZ x.length cZ, .int .i64 a1] rfl (by (try simp only [List.map_toArray, List.map_cons, List.map_nil]); first | done | rfl) ?_; (with_reducible refine (impl_GridForms.calls k AZ cZ x a1 g _ HZ.out.reads.2.2 HZ.out.reads.2.1 HG0.out).mono ?_); rintro e wb ⟨vH, rfl, ho, hb⟩; obtain ⟨loH, hiH, ho1, hd1⟩ := own_new (b := w.heap.size) ho hb HB.out.size; have n0_ := Aside0.mk (ho1); have n1_ := Aside0.mk (below_step HB.out hb); have n2_ := Aside0.mk (HW.out.below hb); have n3_ := Aside0.mk (HG.out.below hb); (try clear HH); (try clear HB); (try clear HW); (try clear HG); have HH := n0_; have HB := n1_; have HW := n2_; have HG := n3_; clear n0_ n1_ n2_ n3_; (try clear ho); (try clear hb); (try clear ho1); (try clear hd1); obtain ⟨AH, cH, eH⟩ := Kd.S_slice HH.out.row; subst eH; refine ⟨_, rfl, ?_⟩) | ((with_reducible refine gate_callee (f := 30) rfl ?_); refine goesL_ (some 61) rfl rfl Try.func30 (by kernel_rfl) rfl #[.slice AH g.length cH, .slice AW wf.length cW] rfl (by (try simp only [List.map_toArray, List.map_cons, List.map_nil]); first | done | rfl) ?_; (with_reducible refine (laws_eqIntSS.calls k AH cH g AW cW wf true _ HH.out.reads.2.2 HH.out.reads.2.1 HW.out.reads.2.2 HW.out.reads.2.1 HE1.out).mono ?_); rintro e wb ⟨rfl, hd⟩; have hb := drawn_below hd; have n0_ := Aside0.mk (below_step HB.out hb); have n1_ := Aside0.mk (HW.out.below hb); have n2_ := Aside0.mk (HG.out.below hb); have n3_ := Aside0.mk (HH.out.below hb); (try clear HB); (try clear HW); (try clear HG); (try clear HH); have HB := n0_; have HW := n1_; have HG := n2_; have HH := n3_; clear n0_ n1_ n2_ n3_; (try clear hb); (try clear hd); refine ⟨_, rfl, ?_⟩) | ((with_reducible refine gate_callee (f := 32) rfl ?_); refine goesL_ (some 65) rfl rfl Try.func32 (by kernel_rfl) rfl #[.slice AG kg.2.length cG, .int .i64 1] rfl (by (try simp only [List.map_toArray, List.map_cons, List.map_nil]); first | done | rfl | (rw [← LG.out] <;> rfl)) ?_; (with_reducible refine (laws_heldIntSS.calls k AG cG kg.2 1 kg.1 _ HG.out.reads.2.2 (by have := HG.out.reads; omega) HQ.out).mono ?_); rintro e wb ⟨rfl, hd⟩; have hb := drawn_below hd; have n0_ := Aside0.mk (below_step HB.out hb); have n1_ := Aside0.mk (HW.out.below hb); have n2_ := Aside0.mk (HG.out.below hb); have n3_ := Aside0.mk (HH.out.below hb); (try clear HB); (try clear HW); (try clear HG); (try clear HH); have HB := n0_; have HW := n1_; have HG := n2_; have HH := n3_; clear n0_ n1_ n2_ n3_; (try clear hb); (try clear hd); refine ⟨_, rfl, ?_⟩))
    go_ret
    exact ⟨rfl, HB.out⟩
theorem laws_FnExactGridForms.walk (P : laws_FnExactGridForms.Pure) (a0 : Option Addr) (len0 cap0 : Nat) (z0 : List Int) (a1 : Int) (w : World) (w0 : (a0 = none ∧ len0 = 0 ∧ cap0 = 0 ∧ z0 = []) ∨ ∃ x, a0 = some x ∧ len0 ≤ cap0 ∧ cap0 ≤ maxLen ∧ z0.length = cap0 ∧ (∀ i, i < z0.length → w.cell? (x.add i) = some (.int .i64 (z0.getD i 0))) ∧ ∀ n ∈ z0, (Lit.int .i64 n).wf = true) (y0 : len0 * 8 ≤ 140737488351232) (w1 : (Lit.int .i64 a1).wf = true) :
    Calls Try.prog 5 #[.slice a0 len0 cap0, .int .i64 a1] w fun e w' => e = .returned (.bool true) ∧ Below w.heap.size w w' := by
  obtain ⟨l0, rfl, hr0, hm0, hw0, hc0⟩ := ReadsInt.ofRowC w0
  obtain ⟨k, h⟩ := P l0 a1 hm0 y0 hw0 w1
  refine (laws_FnExactGridForms.calls k _ _ l0 a1 true w (Kd.C_of_reads (d := (0 : Int)) (h1 := fun _ => rfl) hr0) hc0 h).mono ?_
  rintro e w' ⟨rfl, hd⟩
  exact ⟨rfl, hd⟩

end Go.Proofs.Ytniinbnpdnajjaa.PFnExactGridForms
