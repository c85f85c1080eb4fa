-- Made by a program of this session (a changed copy of the kit print): the kit print itself does not give this text
import Derived.Test.YtnmlcbdbbnaabaaPFnClueValidx0
import Derived.Test.YtnmlcbdbbnaabaaPFnClueValidx2
namespace Go.Proofs.Ytnmlcbdbbnaabaa.PFnClueValid
open Go.RowKit Go.Proofs.YtnmlcbdbbnaabaaW.PrintWords Go.Proofs.YtnmlcbdbbnaabaaW.PrintLast Go.Proofs.YtnmlcbdbbnaabaaW.PrintMore
attribute [local go_sem] max2_int min2_int max_two min_two max_three min_three max_four min_four   -- for this text's walks alone
set_option linter.unusedVariables false
set_option linter.unusedSimpArgs false

/-! ### spec_DrawClueValid: function 32 -/
def spec_DrawClueValid.f (k : Nat) (l0 : List Int) : Option (List Int × Int) := (spec_l20Open.f l0).bind fun bt139 => ((spec_l20Line.f k bt139.1 bt139.2 8).bind fun bt142 => ((spec_ClueOf.f k bt142.1).bind fun t146 => ((spec_l20Rd_odd.f k bt139.1 bt142.2 3).bind fun bt149 => (if bt149.1 = true then ((some (([0, 1, (-1), 9] : List Int) : List Int)).bind fun y151 => ((spec_l20Rd_pick.f k bt139.1 bt149.2 4).bind fun bt154 => (if 0 ≤ bt154.1 then (if bt154.1 < (y151.length : Int) then (if t146.length < 17592186044416 then ((spec_l20Rd_pick.f k bt139.1 bt154.2 8).bind fun bt160 => ((some (([(bt142.1.length : Int), (bt142.1.length : Int), 0, 9, wrap64 (1 + bt160.1)] : List Int) : List Int)).bind fun y162 => ((spec_l20Rd_pick.f k bt139.1 bt160.2 5).bind fun bt165 => (if 0 ≤ bt165.1 then (if bt165.1 < (y162.length : Int) then (some ((t146 ++ [rd y151 bt154.1]), rd y162 bt165.1)) else (none)) else (none))))) else (none)) else (none)) else (none)))) else ((spec_l20Rd_pick.f k bt139.1 bt149.2 8).bind fun bt168 => ((some (([(bt142.1.length : Int), (bt142.1.length : Int), 0, 9, wrap64 (1 + bt168.1)] : List Int) : List Int)).bind fun y170 => ((spec_l20Rd_pick.f k bt139.1 bt168.2 5).bind fun bt173 => (if 0 ≤ bt173.1 then (if bt173.1 < (y170.length : Int) then (some (t146, rd y170 bt173.1)) else (none)) else (none)))))))))
theorem spec_DrawClueValid.mono : ∀ a0 k, LeO (spec_DrawClueValid.f k a0) (spec_DrawClueValid.f (k + 1) a0) := by
  intro a0 k
  unfold spec_DrawClueValid.f
  repeat' first
      | (with_reducible exact spec_ClueOf.mono _ _)
      | (with_reducible exact spec_l20Line.mono _ _ _ _)
      | (with_reducible exact spec_l20Rd_odd.mono _ _ _ _)
      | (with_reducible exact spec_l20Rd_pick.mono _ _ _ _)
      | (with_reducible exact LeO.refl _)
      | (with_reducible exact LeO.none _)
      | (with_reducible refine LeO.ite ?_ ?_)
      | (with_reducible refine LeO.bind ?_ (fun _ => ?_))
      | exact spec_ClueOf.mono _ _
      | exact spec_l20Line.mono _ _ _ _
      | exact spec_l20Rd_odd.mono _ _ _ _
      | exact spec_l20Rd_pick.mono _ _ _ _
      | exact LeO.none _
      | refine LeO.ite ?_ ?_
      | refine LeO.bind ?_ (fun _ => ?_)
def spec_DrawClueValid.T6 : Bool × List (List Nat × List Nat) := (true, [([], []), ([], []), ([1], [1]), ([], []), ([3], [3]), ([], []), ([5], [5]), ([6], [6]), ([2, 4, 7], [2, 4, 7]), ([], []), ([9, 6], [9]), ([8, 10], [8, 10]), ([11], [11]), ([0, 10, 0], [0]), ([12, 13, 0, 1, 2, 3, 4, 5, 6, 7, 8, 9, 10, 11, 12, 13], [12])])
def spec_DrawClueValid.B6 : List Nat := [0, 0, 2, 0, 8, 0, 32, 96, 254, 0, 608, 2046, 4094, 1633, 16383]
theorem spec_DrawClueValid.tab6 : rtab .any (opsOf Try.f32 6) = spec_DrawClueValid.T6 := by kernel_rfl
theorem spec_DrawClueValid.bits6 : waitsOk spec_DrawClueValid.T6.2 spec_DrawClueValid.B6 = true := by kernel_rfl
set_option maxHeartbeats 8000000 in
set_option maxRecDepth 100000 in
theorem spec_DrawClueValid.calls (k : Nat) (A0 : Option Addr) (c0 : Nat) (l0 : List Int) (r1 : List Int) (r2 : Int) (w : World) (hr0 : Kd.C (Kd.int .u8) w A0 l0.length l0) (hc0 : l0.length ≤ c0) (h : spec_DrawClueValid.f k l0 = some (r1, r2)) :
    Calls Try.prog 32 #[.slice A0 l0.length c0] w fun e w' => ∃ v0_ : Value, e = .returned (.tuple #[v0_, .int .i64 r2]) ∧ Kd.R (Kd.int .i64) 3 w' w.heap.size (fun _ => True) v0_ r1 ∧ Below w.heap.size w w' := by
  have HR0 := Aside0.mk hr0
  have HC0 := Aside0.mk hc0
  clear hr0 hc0
  have HB := Aside0.mk (Below.refl w.heap.size w)
  have H : ((spec_l20Open.f l0).bind fun bt139 => ((spec_l20Line.f k bt139.1 bt139.2 8).bind fun bt142 => ((spec_ClueOf.f k bt142.1).bind fun t146 => ((spec_l20Rd_odd.f k bt139.1 bt142.2 3).bind fun bt149 => (if bt149.1 = true then ((some (([0, 1, (-1), 9] : List Int) : List Int)).bind fun y151 => ((spec_l20Rd_pick.f k bt139.1 bt149.2 4).bind fun bt154 => (if 0 ≤ bt154.1 then (if bt154.1 < (y151.length : Int) then (if t146.length < 17592186044416 then ((spec_l20Rd_pick.f k bt139.1 bt154.2 8).bind fun bt160 => ((some (([(bt142.1.length : Int), (bt142.1.length : Int), 0, 9, wrap64 (1 + bt160.1)] : List Int) : List Int)).bind fun y162 => ((spec_l20Rd_pick.f k bt139.1 bt160.2 5).bind fun bt165 => (if 0 ≤ bt165.1 then (if bt165.1 < (y162.length : Int) then (some ((t146 ++ [rd y151 bt154.1]), rd y162 bt165.1)) else (none)) else (none))))) else (none)) else (none)) else (none)))) else ((spec_l20Rd_pick.f k bt139.1 bt149.2 8).bind fun bt168 => ((some (([(bt142.1.length : Int), (bt142.1.length : Int), 0, 9, wrap64 (1 + bt168.1)] : List Int) : List Int)).bind fun y170 => ((spec_l20Rd_pick.f k bt139.1 bt168.2 5).bind fun bt173 => (if 0 ≤ bt173.1 then (if bt173.1 < (y170.length : Int) then (some (t146, rd y170 bt173.1)) else (none)) else (none)))))))))) = some (r1, r2) := h
  clear h
  replace H := Option.bind_eq_some_iff.mp H
  obtain ⟨⟨t139, t140⟩, A20, H⟩ := H
  replace H : ((spec_l20Line.f k t139 t140 8).bind fun bt142 => ((spec_ClueOf.f k bt142.1).bind fun t146 => ((spec_l20Rd_odd.f k t139 bt142.2 3).bind fun bt149 => (if bt149.1 = true then ((some (([0, 1, (-1), 9] : List Int) : List Int)).bind fun y151 => ((spec_l20Rd_pick.f k t139 bt149.2 4).bind fun bt154 => (if 0 ≤ bt154.1 then (if bt154.1 < (y151.length : Int) then (if t146.length < 17592186044416 then ((spec_l20Rd_pick.f k t139 bt154.2 8).bind fun bt160 => ((some (([(bt142.1.length : Int), (bt142.1.length : Int), 0, 9, wrap64 (1 + bt160.1)] : List Int) : List Int)).bind fun y162 => ((spec_l20Rd_pick.f k t139 bt160.2 5).bind fun bt165 => (if 0 ≤ bt165.1 then (if bt165.1 < (y162.length : Int) then (some ((t146 ++ [rd y151 bt154.1]), rd y162 bt165.1)) else (none)) else (none))))) else (none)) else (none)) else (none)))) else ((spec_l20Rd_pick.f k t139 bt149.2 8).bind fun bt168 => ((some (([(bt142.1.length : Int), (bt142.1.length : Int), 0, 9, wrap64 (1 + bt168.1)] : List Int) : List Int)).bind fun y170 => ((spec_l20Rd_pick.f k t139 bt168.2 5).bind fun bt173 => (if 0 ≤ bt173.1 then (if bt173.1 < (y170.length : Int) then (some (t146, rd y170 bt173.1)) else (none)) else (none))))))))) = some (r1, r2) := H
  have A2 := Aside0.mk A20
  clear A20
  replace H := Option.bind_eq_some_iff.mp H
  obtain ⟨⟨t142, t145⟩, A30, H⟩ := H
  replace H : ((spec_ClueOf.f k t142).bind fun t146 => ((spec_l20Rd_odd.f k t139 t145 3).bind fun bt149 => (if bt149.1 = true then ((some (([0, 1, (-1), 9] : List Int) : List Int)).bind fun y151 => ((spec_l20Rd_pick.f k t139 bt149.2 4).bind fun bt154 => (if 0 ≤ bt154.1 then (if bt154.1 < (y151.length : Int) then (if t146.length < 17592186044416 then ((spec_l20Rd_pick.f k t139 bt154.2 8).bind fun bt160 => ((some (([(t142.length : Int), (t142.length : Int), 0, 9, wrap64 (1 + bt160.1)] : List Int) : List Int)).bind fun y162 => ((spec_l20Rd_pick.f k t139 bt160.2 5).bind fun bt165 => (if 0 ≤ bt165.1 then (if bt165.1 < (y162.length : Int) then (some ((t146 ++ [rd y151 bt154.1]), rd y162 bt165.1)) else (none)) else (none))))) else (none)) else (none)) else (none)))) else ((spec_l20Rd_pick.f k t139 bt149.2 8).bind fun bt168 => ((some (([(t142.length : Int), (t142.length : Int), 0, 9, wrap64 (1 + bt168.1)] : List Int) : List Int)).bind fun y170 => ((spec_l20Rd_pick.f k t139 bt168.2 5).bind fun bt173 => (if 0 ≤ bt173.1 then (if bt173.1 < (y170.length : Int) then (some (t146, rd y170 bt173.1)) else (none)) else (none)))))))) = some (r1, r2) := H
  have A3 := Aside0.mk A30
  clear A30
  replace H := Option.bind_eq_some_iff.mp H
  obtain ⟨t146, A40, H⟩ := H
  replace H : ((spec_l20Rd_odd.f k t139 t145 3).bind fun bt149 => (if bt149.1 = true then ((some (([0, 1, (-1), 9] : List Int) : List Int)).bind fun y151 => ((spec_l20Rd_pick.f k t139 bt149.2 4).bind fun bt154 => (if 0 ≤ bt154.1 then (if bt154.1 < (y151.length : Int) then (if t146.length < 17592186044416 then ((spec_l20Rd_pick.f k t139 bt154.2 8).bind fun bt160 => ((some (([(t142.length : Int), (t142.length : Int), 0, 9, wrap64 (1 + bt160.1)] : List Int) : List Int)).bind fun y162 => ((spec_l20Rd_pick.f k t139 bt160.2 5).bind fun bt165 => (if 0 ≤ bt165.1 then (if bt165.1 < (y162.length : Int) then (some ((t146 ++ [rd y151 bt154.1]), rd y162 bt165.1)) else (none)) else (none))))) else (none)) else (none)) else (none)))) else ((spec_l20Rd_pick.f k t139 bt149.2 8).bind fun bt168 => ((some (([(t142.length : Int), (t142.length : Int), 0, 9, wrap64 (1 + bt168.1)] : List Int) : List Int)).bind fun y170 => ((spec_l20Rd_pick.f k t139 bt168.2 5).bind fun bt173 => (if 0 ≤ bt173.1 then (if bt173.1 < (y170.length : Int) then (some (t146, rd y170 bt173.1)) else (none)) else (none))))))) = some (r1, r2) := H
  have A4 := Aside0.mk A40
  clear A40
  replace H := Option.bind_eq_some_iff.mp H
  obtain ⟨⟨t149, t150⟩, A50, H⟩ := H
  replace H : (if t149 = true then ((some (([0, 1, (-1), 9] : List Int) : List Int)).bind fun y151 => ((spec_l20Rd_pick.f k t139 t150 4).bind fun bt154 => (if 0 ≤ bt154.1 then (if bt154.1 < (y151.length : Int) then (if t146.length < 17592186044416 then ((spec_l20Rd_pick.f k t139 bt154.2 8).bind fun bt160 => ((some (([(t142.length : Int), (t142.length : Int), 0, 9, wrap64 (1 + bt160.1)] : List Int) : List Int)).bind fun y162 => ((spec_l20Rd_pick.f k t139 bt160.2 5).bind fun bt165 => (if 0 ≤ bt165.1 then (if bt165.1 < (y162.length : Int) then (some ((t146 ++ [rd y151 bt154.1]), rd y162 bt165.1)) else (none)) else (none))))) else (none)) else (none)) else (none)))) else ((spec_l20Rd_pick.f k t139 t150 8).bind fun bt168 => ((some (([(t142.length : Int), (t142.length : Int), 0, 9, wrap64 (1 + bt168.1)] : List Int) : List Int)).bind fun y170 => ((spec_l20Rd_pick.f k t139 bt168.2 5).bind fun bt173 => (if 0 ≤ bt173.1 then (if bt173.1 < (y170.length : Int) then (some (t146, rd y170 bt173.1)) else (none)) else (none)))))) = some (r1, r2) := H
  have A5 := Aside0.mk A50
  clear A50
  by_cases c6 : t149 = true
  · subst c6
    have H1 : ((some (([0, 1, (-1), 9] : List Int) : List Int)).bind fun y151 => ((spec_l20Rd_pick.f k t139 t150 4).bind fun bt154 => (if 0 ≤ bt154.1 then (if bt154.1 < (y151.length : Int) then (if t146.length < 17592186044416 then ((spec_l20Rd_pick.f k t139 bt154.2 8).bind fun bt160 => ((some (([(t142.length : Int), (t142.length : Int), 0, 9, wrap64 (1 + bt160.1)] : List Int) : List Int)).bind fun y162 => ((spec_l20Rd_pick.f k t139 bt160.2 5).bind fun bt165 => (if 0 ≤ bt165.1 then (if bt165.1 < (y162.length : Int) then (some ((t146 ++ [rd y151 bt154.1]), rd y162 bt165.1)) else (none)) else (none))))) else (none)) else (none)) else (none)))) = some (r1, r2) := by rw [if_pos rfl] at H; exact H
    clear H
    have H := H1
    clear H1
    obtain ⟨y151, hy151⟩ : ∃ y_ : List Int, y_ = (([0, 1, (-1), 9] : List Int)) := ⟨_, rfl⟩
    replace H : ((spec_l20Rd_pick.f k t139 t150 4).bind fun bt154 => (if 0 ≤ bt154.1 then (if bt154.1 < (y151.length : Int) then (if t146.length < 17592186044416 then ((spec_l20Rd_pick.f k t139 bt154.2 8).bind fun bt160 => ((some (([(t142.length : Int), (t142.length : Int), 0, 9, wrap64 (1 + bt160.1)] : List Int) : List Int)).bind fun y162 => ((spec_l20Rd_pick.f k t139 bt160.2 5).bind fun bt165 => (if 0 ≤ bt165.1 then (if bt165.1 < (y162.length : Int) then (some ((t146 ++ [rd y151 bt154.1]), rd y162 bt165.1)) else (none)) else (none))))) else (none)) else (none)) else (none))) = some (r1, r2) := by first | (rw [hy151]; with_reducible exact H) | (have H2_ := (Option.bind_some _ _).symm.trans H; rw [hy151]; with_reducible exact H2_) | (have H2_ := (Option.bind_some _ _).symm.trans H; with_reducible exact H2_) | with_reducible exact H | (rw [hy151]; exact H) | exact H
    have Ny151 := Aside0.mk hy151
    clear hy151
    replace H := Option.bind_eq_some_iff.mp H
    obtain ⟨⟨t154, t155⟩, A70, H⟩ := H
    replace H : (if 0 ≤ t154 then (if t154 < (y151.length : Int) then (if t146.length < 17592186044416 then ((spec_l20Rd_pick.f k t139 t155 8).bind fun bt160 => ((some (([(t142.length : Int), (t142.length : Int), 0, 9, wrap64 (1 + bt160.1)] : List Int) : List Int)).bind fun y162 => ((spec_l20Rd_pick.f k t139 bt160.2 5).bind fun bt165 => (if 0 ≤ bt165.1 then (if bt165.1 < (y162.length : Int) then (some ((t146 ++ [rd y151 t154]), rd y162 bt165.1)) else (none)) else (none))))) else (none)) else (none)) else (none)) = some (r1, r2) := H
    have A7 := Aside0.mk A70
    clear A70
    by_cases c8 : 0 ≤ t154
    · rw [if_pos c8] at H
      have c8b0 : decide (0 ≤ t154) = true := decide_eq_true c8
      clear c8
      by_cases c9 : t154 < (y151.length : Int)
      · rw [if_pos c9] at H
        have c9b0 : decide (t154 < (y151.length : Int)) = true := decide_eq_true c9
        clear c9
        by_cases c10 : t146.length < 17592186044416
        · rw [if_pos c10] at H
          have LMc10 := Aside0.mk c10
          clear c10
          obtain ⟨y157, hy157⟩ : ∃ y_ : List Int, y_ = (t146 ++ [rd y151 t154]) := ⟨_, rfl⟩
          replace H : ((spec_l20Rd_pick.f k t139 t155 8).bind fun bt160 => ((some (([(t142.length : Int), (t142.length : Int), 0, 9, wrap64 (1 + bt160.1)] : List Int) : List Int)).bind fun y162 => ((spec_l20Rd_pick.f k t139 bt160.2 5).bind fun bt165 => (if 0 ≤ bt165.1 then (if bt165.1 < (y162.length : Int) then (some (y157, rd y162 bt165.1)) else (none)) else (none))))) = some (r1, r2) := by first | (rw [hy157]; with_reducible exact H) | (have H2_ := (Option.bind_some _ _).symm.trans H; rw [hy157]; with_reducible exact H2_) | (have H2_ := (Option.bind_some _ _).symm.trans H; with_reducible exact H2_) | with_reducible exact H | (rw [hy157]; exact H) | exact H
          have Ny157 := Aside0.mk hy157
          clear hy157
          replace H := Option.bind_eq_some_iff.mp H
          obtain ⟨⟨t160, t161⟩, A110, H⟩ := H
          replace H : ((some (([(t142.length : Int), (t142.length : Int), 0, 9, wrap64 (1 + t160)] : List Int) : List Int)).bind fun y162 => ((spec_l20Rd_pick.f k t139 t161 5).bind fun bt165 => (if 0 ≤ bt165.1 then (if bt165.1 < (y162.length : Int) then (some (y157, rd y162 bt165.1)) else (none)) else (none)))) = some (r1, r2) := H
          have A11 := Aside0.mk A110
          clear A110
          obtain ⟨y162, hy162⟩ : ∃ y_ : List Int, y_ = (([(t142.length : Int), (t142.length : Int), 0, 9, wrap64 (1 + t160)] : List Int)) := ⟨_, rfl⟩
          replace H : ((spec_l20Rd_pick.f k t139 t161 5).bind fun bt165 => (if 0 ≤ bt165.1 then (if bt165.1 < (y162.length : Int) then (some (y157, rd y162 bt165.1)) else (none)) else (none))) = some (r1, r2) := by first | (rw [hy162]; with_reducible exact H) | (have H2_ := (Option.bind_some _ _).symm.trans H; rw [hy162]; with_reducible exact H2_) | (have H2_ := (Option.bind_some _ _).symm.trans H; with_reducible exact H2_) | with_reducible exact H | (rw [hy162]; exact H) | exact H
          have Ny162 := Aside0.mk hy162
          clear hy162
          replace H := Option.bind_eq_some_iff.mp H
          obtain ⟨⟨t165, t166⟩, A120, H⟩ := H
          replace H : (if 0 ≤ t165 then (if t165 < (y162.length : Int) then (some (y157, rd y162 t165)) else (none)) else (none)) = some (r1, r2) := H
          have A12 := Aside0.mk A120
          clear A120
          by_cases c13 : 0 ≤ t165
          · rw [if_pos c13] at H
            have c13b0 : decide (0 ≤ t165) = true := decide_eq_true c13
            clear c13
            by_cases c14 : t165 < (y162.length : Int)
            · rw [if_pos c14] at H
              have c14b0 : decide (t165 < (y162.length : Int)) = true := decide_eq_true c14
              clear c14
              simp only [Option.some.injEq, Prod.mk.injEq] at H
              obtain ⟨rfl, rfl⟩ := H
              go_enter Try.func32, Try.ntmps32
              try go_wp2_with (first | ((with_reducible refine gate_callee (f := 40) rfl ?_); refine goesL_ (some 8) rfl rfl Try.func40 (by kernel_rfl) rfl #[.slice A0 l0.length c0] rfl (by (try simp only [List.map_toArray, List.map_cons, List.map_nil]); first | done | rfl | (simp only [List.length_drop, List.length_take]; rfl)) ?_; (with_reducible refine (spec_l20Open.calls _ _ l0 t139 t140 w _ ?side1 ?side2 ?side3 A2.out).mono ?_); (case side1 => repeat (first | (with_reducible first | exact HB.out | apply below_alloc | apply pw_below_drewN | apply below_drew1) | exact HB.out)); (case side2 => exact HR0.out); (case side3 => exact HC0.out); rintro e w15 ⟨g141, rfl, hi, hb, hb2⟩; refine ⟨_, rfl, ?_⟩; have n0_ := Aside0.mk (hb); have n1_ := Aside0.mk (hi); clear HB; have HB := n0_; have HI141 := n1_; clear n0_ n1_; (try clear hb); (try clear hb2); (try clear hk); (try clear hi)) | ((with_reducible refine gate_callee (f := 42) rfl ?_); refine goesL_ (some 10) rfl rfl Try.func42 (by kernel_rfl) rfl #[.pointer (some ⟨g141, 0, none⟩), .int .i64 8] rfl (by (try simp only [List.map_toArray, List.map_cons, List.map_nil]); first | done | rfl | (simp only [List.length_drop, List.length_take]; rfl)) ?_; (with_reducible refine (spec_l20Line.calls k g141 t139 t140 8 t142 t145 w _ ?side1 ?side2 A3.out).mono ?_); (case side1 => repeat (first | (with_reducible first | exact HI141.out | apply IsS58.alloc | apply IsS58.drewN | apply IsS58.drew | apply IsS58.set_1) | exact HI141.out)); (case side2 => repeat (first | (with_reducible first | exact HB.out | apply below_alloc | apply pw_below_drewN | apply below_drew1 | refine below_set ?_ (IsS58.ge HI141.out)) | exact HB.out)); rintro e w16 ⟨v143, rfl, ho0, hi, hb, hk⟩; refine ⟨_, rfl, ?_⟩; have n0_ := Aside0.mk (Kd.R_lower ho0 (below_size (by repeat (first | (with_reducible first | exact HB.out | apply below_alloc | apply pw_below_drewN | apply below_drew1 | refine below_set ?_ (IsS58.ge HI141.out)) | exact HB.out)))); have n1_ := Aside0.mk (hb); have n2_ := Aside0.mk (hi); clear HB; clear HI141; have HO144 := n0_; have HB := n1_; have HI141 := n2_; clear n0_ n1_ n2_; (try clear hb); (try clear hb2); (try clear hk); (try clear hi); (try clear ho0); obtain ⟨Ao17, co17, eo17⟩ := Kd.R_slice HO144.out; subst eo17) | ((with_reducible refine gate_callee (f := 21) rfl ?_); refine goesL_ (some 12) rfl rfl Try.func21 (by kernel_rfl) rfl #[.slice Ao17 t142.length co17] rfl (by (try simp only [List.map_toArray, List.map_cons, List.map_nil]); first | done | rfl | (simp only [List.length_drop, List.length_take]; rfl)) ?_; (with_reducible refine (spec_ClueOf.calls k _ _ t142 t146 _ ?side1 ?side2 A4.out).mono ?_); (case side1 => repeat (first | exact (Kd.R_reads' HO144.out).2.2 | (with_reducible refine Kd.C_alloc ?_ _) | (with_reducible refine Kd.C_drewN ?_ _) | (with_reducible refine Kd.C_drew ?_))); (case side2 => exact (Kd.R_reads' HO144.out).2.1); rintro e w18 ⟨v147, rfl, ho0, hb⟩; refine ⟨_, rfl, ?_⟩; have n0_ := Aside0.mk (Kd.R_below (by (with_reducible repeat (first | apply Kd.R_alloc | apply Kd.R_drewN | apply Kd.R_drew)); (first | exact HO144.out | exact Kd.R_mono HO144.out (fun _ hk => hk.2) | exact Kd.R_mono HO144.out (fun _ hk => hk.1) | exact Kd.R_mono HO144.out (fun _ _ => trivial))) hb); have n1_ := Aside0.mk (Kd.R_lower ho0 (below_size (by repeat (first | (with_reducible first | exact HB.out | apply below_alloc | apply pw_below_drewN | apply below_drew1 | refine below_set ?_ (IsS58.ge HI141.out)) | exact HB.out)))); have n2_ := Aside0.mk (IsS58.below (by repeat (first | (with_reducible first | exact HI141.out | apply IsS58.alloc | apply IsS58.drewN | apply IsS58.drew | apply IsS58.set_1) | exact HI141.out)) hb); have n3_ := Aside0.mk (below_step (by repeat (first | (with_reducible first | exact HB.out | apply below_alloc | apply pw_below_drewN | apply below_drew1 | refine below_set ?_ (IsS58.ge HI141.out)) | exact HB.out)) hb); clear HO144; clear HI141; clear HB; have HO144 := n0_; have HO148 := n1_; have HI141 := n2_; have HB := n3_; clear n0_ n1_ n2_ n3_; (try clear hb); (try clear hb2); (try clear hk); (try clear hi); (try clear ho0)) | ((with_reducible refine gate_callee (f := 44) rfl ?_); refine goesL_ (some 14) rfl rfl Try.func44 (by kernel_rfl) rfl #[.pointer (some ⟨g141, 0, none⟩), .int .i64 3] rfl (by (try simp only [List.map_toArray, List.map_cons, List.map_nil]); first | done | rfl | (simp only [List.length_drop, List.length_take]; rfl)) ?_; (with_reducible refine (spec_l20Rd_odd.calls k g141 t139 t145 3 true t150 w _ ?side1 ?side2 A5.out).mono ?_); (case side1 => repeat (first | (with_reducible first | exact HI141.out | apply IsS58.alloc | apply IsS58.drewN | apply IsS58.drew | apply IsS58.set_1) | exact HI141.out)); (case side2 => repeat (first | (with_reducible first | exact HB.out | apply below_alloc | apply pw_below_drewN | apply below_drew1 | refine below_set ?_ (IsS58.ge HI141.out)) | exact HB.out)); rintro e w19 ⟨rfl, hi, hb, hk⟩; refine ⟨_, rfl, ?_⟩; have n0_ := Aside0.mk (Kd.R_mono (Kd.R_keep (IsS58.apart (show IsS58 w _ g141 t139 t145 from by repeat (first | (with_reducible first | exact HI141.out | apply IsS58.alloc | apply IsS58.drewN | apply IsS58.drew | apply IsS58.set_1) | exact HI141.out)) (by (with_reducible repeat (first | apply Kd.R_alloc | apply Kd.R_drewN | apply Kd.R_drew)); (first | exact HO144.out | exact Kd.R_mono HO144.out (fun _ hk => hk.2) | exact Kd.R_mono HO144.out (fun _ hk => hk.1) | exact Kd.R_mono HO144.out (fun _ _ => trivial))) (by decide)) hk (fun _ h => h.2)) (fun _ h => h.1)); have n1_ := Aside0.mk (Kd.R_mono (Kd.R_keep (IsS58.apart (show IsS58 w _ g141 t139 t145 from by repeat (first | (with_reducible first | exact HI141.out | apply IsS58.alloc | apply IsS58.drewN | apply IsS58.drew | apply IsS58.set_1) | exact HI141.out)) (by (with_reducible repeat (first | apply Kd.R_alloc | apply Kd.R_drewN | apply Kd.R_drew)); (first | exact HO148.out | exact Kd.R_mono HO148.out (fun _ hk => hk.2) | exact Kd.R_mono HO148.out (fun _ hk => hk.1) | exact Kd.R_mono HO148.out (fun _ _ => trivial))) (by decide)) hk (fun _ h => h.2)) (fun _ h => h.1)); have n2_ := Aside0.mk (hb); have n3_ := Aside0.mk (hi); clear HO144; clear HO148; clear HB; clear HI141; have HO144 := n0_; have HO148 := n1_; have HB := n2_; have HI141 := n3_; clear n0_ n1_ n2_ n3_; (try clear hb); (try clear hb2); (try clear hk); (try clear hi)) | ((with_reducible refine gate_dst (N := 16) rfl ?_); refine Kd.R_lit (Kd.int .i64) _ 3 ?hg (N := 16) ?hd (xs := ([0, 1, (-1), 9] : List Int)) (inner := [.int .i64 0, .int .i64 1, .int .i64 (-1), .int .i64 9]) (ok := fun _ => True) (okp := fun _ => True) ?hr ?hp (fun _ hk => hk) trivial (Below.refl _ _) (Nat.le_refl _) (by simp) ?_; (case hd => rfl); (case hg => rfl); (case hr => first | (go_simp; done) | (go_simp; rfl)); (case hp => exact (Reps.one (show Kd.M (Kd.int .i64) _ _ _ 0 [.int .i64 0] from rfl) (Reps.one (show Kd.M (Kd.int .i64) _ _ _ 1 [.int .i64 1] from rfl) (Reps.one (show Kd.M (Kd.int .i64) _ _ _ (-1) [.int .i64 (-1)] from rfl) (Reps.one (show Kd.M (Kd.int .i64) _ _ _ 9 [.int .i64 9] from rfl) (Reps.none _ _)))))); intro v152 w20 ho21 hb hg_ hnew_; clear hg_ hnew_; (first | rw [← Ny151.out] at ho21 | (simp only [Int.reduceToNat] at ho21; rw [← Ny151.out] at ho21)); have n0_ := Aside0.mk (Kd.R_below (by (with_reducible repeat (first | apply Kd.R_alloc | apply Kd.R_drewN | apply Kd.R_drew)); (first | exact HO144.out | exact Kd.R_mono HO144.out (fun _ hk => hk.2) | exact Kd.R_mono HO144.out (fun _ hk => hk.1) | exact Kd.R_mono HO144.out (fun _ _ => trivial))) hb); have n1_ := Aside0.mk (Kd.R_elder' (by (with_reducible repeat (first | apply Kd.R_alloc | apply Kd.R_drewN | apply Kd.R_drew)); (first | exact HO148.out | exact Kd.R_mono HO148.out (fun _ hk => hk.2) | exact Kd.R_mono HO148.out (fun _ hk => hk.1) | exact Kd.R_mono HO148.out (fun _ _ => trivial))) (Kd.R_base ho21) hb); have n2_ := Aside0.mk (Kd.R_lower (Kd.R_new' ho21 (Kd.R_lt (by (with_reducible repeat (first | apply Kd.R_alloc | apply Kd.R_drewN | apply Kd.R_drew)); (first | exact HO148.out | exact Kd.R_mono HO148.out (fun _ hk => hk.2) | exact Kd.R_mono HO148.out (fun _ hk => hk.1) | exact Kd.R_mono HO148.out (fun _ _ => trivial))))) (below_size (by repeat (first | (with_reducible first | exact HB.out | apply below_alloc | apply pw_below_drewN | apply below_drew1 | refine below_set ?_ (IsS58.ge HI141.out)) | exact HB.out)))); have n3_ := Aside0.mk (IsS58.below (by repeat (first | (with_reducible first | exact HI141.out | apply IsS58.alloc | apply IsS58.drewN | apply IsS58.drew | apply IsS58.set_1) | exact HI141.out)) hb); have n4_ := Aside0.mk (below_step (by repeat (first | (with_reducible first | exact HB.out | apply below_alloc | apply pw_below_drewN | apply below_drew1 | refine below_set ?_ (IsS58.ge HI141.out)) | exact HB.out)) hb); clear HO144; clear HO148; clear HI141; clear HB; have HO144 := n0_; have HO148 := n1_; have HO153 := n2_; have HI141 := n3_; have HB := n4_; clear n0_ n1_ n2_ n3_ n4_; clear hb ho21) | ((with_reducible refine gate_callee (f := 45) rfl ?_); refine goesL_ (some 18) rfl rfl Try.func45 (by kernel_rfl) rfl #[.pointer (some ⟨g141, 0, none⟩), .int .i64 4] rfl (by (try simp only [List.map_toArray, List.map_cons, List.map_nil]); first | done | rfl | (simp only [List.length_drop, List.length_take]; rfl)) ?_; (with_reducible refine (spec_l20Rd_pick.calls k g141 t139 t150 4 t154 t155 w _ ?side1 ?side2 A7.out).mono ?_); (case side1 => repeat (first | (with_reducible first | exact HI141.out | apply IsS58.alloc | apply IsS58.drewN | apply IsS58.drew | apply IsS58.set_1) | exact HI141.out)); (case side2 => repeat (first | (with_reducible first | exact HB.out | apply below_alloc | apply pw_below_drewN | apply below_drew1 | refine below_set ?_ (IsS58.ge HI141.out)) | exact HB.out)); rintro e w22 ⟨rfl, hi, hb, hk⟩; refine ⟨_, rfl, ?_⟩; have n0_ := Aside0.mk (Kd.R_mono (Kd.R_keep (IsS58.apart (show IsS58 w _ g141 t139 t150 from by repeat (first | (with_reducible first | exact HI141.out | apply IsS58.alloc | apply IsS58.drewN | apply IsS58.drew | apply IsS58.set_1) | exact HI141.out)) (by (with_reducible repeat (first | apply Kd.R_alloc | apply Kd.R_drewN | apply Kd.R_drew)); (first | exact HO144.out | exact Kd.R_mono HO144.out (fun _ hk => hk.2) | exact Kd.R_mono HO144.out (fun _ hk => hk.1) | exact Kd.R_mono HO144.out (fun _ _ => trivial))) (by decide)) hk (fun _ h => h.2)) (fun _ h => h.1)); have n1_ := Aside0.mk (Kd.R_mono (Kd.R_keep (IsS58.apart (show IsS58 w _ g141 t139 t150 from by repeat (first | (with_reducible first | exact HI141.out | apply IsS58.alloc | apply IsS58.drewN | apply IsS58.drew | apply IsS58.set_1) | exact HI141.out)) (by (with_reducible repeat (first | apply Kd.R_alloc | apply Kd.R_drewN | apply Kd.R_drew)); (first | exact HO148.out | exact Kd.R_mono HO148.out (fun _ hk => hk.2) | exact Kd.R_mono HO148.out (fun _ hk => hk.1) | exact Kd.R_mono HO148.out (fun _ _ => trivial))) (by decide)) hk (fun _ h => h.2)) (fun _ h => h.1)); have n2_ := Aside0.mk (Kd.R_mono (Kd.R_keep (IsS58.apart (show IsS58 w _ g141 t139 t150 from by repeat (first | (with_reducible first | exact HI141.out | apply IsS58.alloc | apply IsS58.drewN | apply IsS58.drew | apply IsS58.set_1) | exact HI141.out)) (by (with_reducible repeat (first | apply Kd.R_alloc | apply Kd.R_drewN | apply Kd.R_drew)); (first | exact HO153.out | exact Kd.R_mono HO153.out (fun _ hk => hk.2) | exact Kd.R_mono HO153.out (fun _ hk => hk.1) | exact Kd.R_mono HO153.out (fun _ _ => trivial))) (by decide)) hk (fun _ h => h.2)) (fun _ h => h.1)); have n3_ := Aside0.mk (hb); have n4_ := Aside0.mk (hi); clear HO144; clear HO148; clear HO153; clear HB; clear HI141; have HO144 := n0_; have HO148 := n1_; have HO153 := n2_; have HB := n3_; have HI141 := n4_; clear n0_ n1_ n2_ n3_ n4_; (try clear hb); (try clear hb2); (try clear hk); (try clear hi); obtain ⟨Ao23, co23, eo23⟩ := Kd.R_slice HO153.out; subst eo23; have p156 : 0 ≤ (t154 : Int) := of_decide_eq_true (by first | (with_reducible assumption) | assumption); have q156 : t154 < (y151.length : Int) := of_decide_eq_true (by first | (with_reducible assumption) | assumption); obtain ⟨ad156, e156, hx156_0⟩ := Kd.at_int (Kd.R_reads' HO153.out).2.2 t154 p156 q156; cases e156; replace p156 := eq_true p156; replace q156 := eq_true q156) | ((with_reducible refine gate_builtin (b := .append) (xs := #[.tmp 15, .tmp 21]) rfl ?_); at_builtin; refine Kd.R_append (Kd.int .i64) (w0 := w) w.heap.size rfl (.tmp 15) (.tmp 21) 22 3 (.int .i64 0) 8 rfl Try.underlying22 info3 rfl (by decide) (by omega) v147 t146 (rd y151 t154) [.int .i64 (rd y151 t154)] (fun k_ => some k_ ≠ (.slice (some ad156) y151.length co23 : Value).ownBlock) (fun _ => False) rfl rfl ?aP (fun _ hk => hk.elim) ?aF ?aO ?aB ?aS ?aL ?_; (case aP => exact rfl); (case aB => exact (by repeat (first | (with_reducible first | exact HB.out | apply below_alloc | apply pw_below_drewN | apply below_drew1 | refine below_set ?_ (IsS58.ge HI141.out)) | exact HB.out))); (case aF => exact (fun k_ hk => Kd.fresh' (Kd.R_lt (by (with_reducible repeat (first | apply Kd.R_alloc | apply Kd.R_drewN | apply Kd.R_drew)); (first | exact HO153.out | exact Kd.R_mono HO153.out (fun _ hk => hk.2) | exact Kd.R_mono HO153.out (fun _ hk => hk.1) | exact Kd.R_mono HO153.out (fun _ _ => trivial)))) k_ hk)); (case aO => exact (by (with_reducible repeat (first | apply Kd.R_alloc | apply Kd.R_drewN | apply Kd.R_drew)); (first | exact HO148.out | exact Kd.R_mono HO148.out (fun _ hk => hk.2) | exact Kd.R_mono HO148.out (fun _ hk => hk.1) | exact Kd.R_mono HO148.out (fun _ _ => trivial)))); (case aS => exact (below_size (by repeat (first | (with_reducible first | exact HB.out | apply below_alloc | apply pw_below_drewN | apply below_drew1 | refine below_set ?_ (IsS58.ge HI141.out)) | exact HB.out)))); (case aL => have := LMc10.out; omega); intro v158 w24 ho hb hg hat; rw [← Ny157.out] at ho; have n0_ := Aside0.mk (IsS58.grown (by repeat (first | (with_reducible first | exact HI141.out | apply IsS58.alloc | apply IsS58.drewN | apply IsS58.drew | apply IsS58.set_1) | exact HI141.out)) hg (IsS58.own_ne HI141.out HO148.out (by decide))); have n1_ := Aside0.mk (Kd.R_over' (by (with_reducible repeat (first | apply Kd.R_alloc | apply Kd.R_drewN | apply Kd.R_drew)); (first | exact HO144.out | exact Kd.R_mono HO144.out (fun _ hk => hk.2) | exact Kd.R_mono HO144.out (fun _ hk => hk.1) | exact Kd.R_mono HO144.out (fun _ _ => trivial))) (Kd.R_typed (by (with_reducible repeat (first | apply Kd.R_alloc | apply Kd.R_drewN | apply Kd.R_drew)); (first | exact HO148.out | exact Kd.R_mono HO148.out (fun _ hk => hk.2) | exact Kd.R_mono HO148.out (fun _ hk => hk.1) | exact Kd.R_mono HO148.out (fun _ _ => trivial)))) (by decide) hg); have n2_ := Aside0.mk (Kd.R_after (ok := (fun _ => True)) (by (with_reducible repeat (first | apply Kd.R_alloc | apply Kd.R_drewN | apply Kd.R_drew)); (first | exact HO153.out | exact Kd.R_mono HO153.out (fun _ hk => hk.2) | exact Kd.R_mono HO153.out (fun _ hk => hk.1) | exact Kd.R_mono HO153.out (fun _ _ => trivial))) hg hat); have n3_ := Aside0.mk (hb); have n4_ := Aside0.mk (ho); clear HI141; clear HO144; clear HO153; clear HB; clear HO148; have HI141 := n0_; have HO144 := n1_; have HO153 := n2_; have HB := n3_; have HO159 := n4_; clear n0_ n1_ n2_ n3_ n4_; clear ho hb hg hat))
              have pi167 : (0 ≤ (t165 : Int)) = True := eq_true (of_decide_eq_true (by first | (with_reducible assumption) | assumption))
              have qi167 : (t165 < (y162.length : Int)) = True := eq_true (of_decide_eq_true (by first | (with_reducible assumption) | assumption))
              have n0_ := Aside0.mk (Kd.R_drew HO144.out)
              have n1_ := Aside0.mk (Kd.R_drew HO153.out)
              have n2_ := Aside0.mk (Kd.R_drew HO159.out)
              have n3_ := Aside0.mk (IsS58.drew HI141.out)
              have n4_ := Aside0.mk (below_drew1 HB.out)
              clear HO144
              clear HO153
              clear HO159
              clear HI141
              clear HB
              have HO144 := n0_
              have HO153 := n1_
              have HO159 := n2_
              have HI141 := n3_
              have HB := n4_
              clear n0_ n1_ n2_ n3_ n4_
              refine start_ (n := 15) (S := fun w' => True) (ds := []) #[false, false, false, false, false, false, false, false, false, false, false, false, false, false, false] (by kernel_rfl) rfl rfl trivial (fun hHeld => ?_); refine with_tabW spec_DrawClueValid.tab6 spec_DrawClueValid.bits6 (fun HT_ HW_ => ?_)
              generalize w24.drew = w25 at HO144 HO153 HO159 HI141 HB hHeld ⊢
              refine pure_ (i := 0) (N := some 23) (v := ?_) (a' := ?_) #[true, false, false, false, false, false, false, false, false, false, false, false, false, false, false] rfl rfl (any_of HT_.out (by kernel_rfl)) (fun _ _ _ h => h) (Or.inl ⟨by rfl, ?_⟩) ?_ ?_
              rotate_left
              · intro w'
                go_simp
                with_reducible rfl
              rotate_left
              · simp only [Act.put, List.setIfInBounds_toArray, List.set_cons_zero, List.set_cons_succ, i64_w, i32_w]
                rfl
              refine pure_ (i := 1) (N := some 24) (v := ?_) (a' := ?_) #[true, true, false, false, false, false, false, false, false, false, false, false, false, false, false] rfl rfl (any_of HT_.out (by kernel_rfl)) (fun _ _ _ h => h) (Or.inl ⟨by rfl, ?_⟩) ?_ ?_
              rotate_left
              · intro w'
                go_simp
                with_reducible rfl
              rotate_left
              · simp only [Act.put, List.setIfInBounds_toArray, List.set_cons_zero, List.set_cons_succ, i64_w, i32_w]
                rfl
              refine pure_ (i := 3) (N := some 26) (v := ?_) (a' := ?_) #[true, true, false, true, false, false, false, false, false, false, false, false, false, false, false] rfl rfl (any_of HT_.out (by kernel_rfl)) (fun _ _ _ h => h) (Or.inl ⟨by rfl, ?_⟩) ?_ ?_
              rotate_left
              · intro w'
                go_simp
                with_reducible rfl
              rotate_left
              · simp only [Act.put, List.setIfInBounds_toArray, List.set_cons_zero, List.set_cons_succ, i64_w, i32_w]
                rfl
              refine pure_ (i := 5) (N := some 28) (v := ?_) (a' := ?_) #[true, true, false, true, false, true, false, false, false, false, false, false, false, false, false] rfl rfl (any_of HT_.out (by kernel_rfl)) (fun _ _ _ h => h) (Or.inl ⟨by rfl, ?_⟩) ?_ ?_
              rotate_left
              · intro w'
                go_simp
                with_reducible rfl
              rotate_left
              · simp only [Act.put, List.setIfInBounds_toArray, List.set_cons_zero, List.set_cons_succ, i64_w, i32_w]
                rfl
              refine pure_ (i := 9) (N := some 32) (v := ?_) (a' := ?_) #[true, true, false, true, false, true, false, false, false, true, false, false, false, false, false] rfl rfl (any_of HT_.out (by kernel_rfl)) (fun _ _ _ h => h) (Or.inl ⟨by rfl, ?_⟩) ?_ ?_
              rotate_left
              · intro w'
                go_simp
                with_reducible rfl
              rotate_left
              · simp only [Act.put, List.setIfInBounds_toArray, List.set_cons_zero, List.set_cons_succ, i64_w, i32_w]
                rfl
              refine inv_at [2, 4, 6, 7, 8, 10, 11, 12, 13, 14] (fun a0_ b a w' => ∃ (v163 : Value) (adz_v163 : Addr) (m11_ : Value), a = putSel a0_ b [(2, 25, .int .i64 (t142.length : Int)), (4, 27, .int .i64 (t142.length : Int)), (6, 29, .int .i64 t160), (7, 30, .int .i64 (wrap64 (1 + t160))), (8, 31, v163), (10, 33, .int .i64 t165), (11, 34, m11_), (12, 35, .int .i64 (rd y162 t165)), (13, 2, v158), (14, 3, .int .i64 (rd y162 t165))] ∧ (Kd.R Kd.bool 4 w' w.heap.size (fun _ => True) (.slice Ao17 t142.length co17) t142) ∧ (Kd.R (Kd.int .i64) 3 w' w.heap.size (fun k_ => some k_ ≠ (v158 : Value).ownBlock) (.slice (some ad156) y151.length co23) y151) ∧ (Kd.R (Kd.int .i64) 3 w' w.heap.size (fun k_ => some k_ ≠ (.slice (some ad156) y151.length co23 : Value).ownBlock) v158 y157) ∧ (b 6 = false → IsS58 w w' g141 t139 t155) ∧ (Below w.heap.size w w') ∧ (b 6 = true → b 10 = false → IsS58 w w' g141 t139 t161) ∧ (b 8 = true → Kd.R (Kd.int .i64) 3 w' w.heap.size (fun k_ => some k_ ≠ (.slice (some ad156) y151.length co23 : Value).ownBlock ∧ some k_ ≠ (v158 : Value).ownBlock) v163 y162) ∧ (b 8 = true → ∃ c_, (v163 : Value) = .slice (some adz_v163) y162.length c_) ∧ (b 10 = true → IsS58 w w' g141 t139 t166) ∧ (b 11 = true → (m11_ : Value) = .pointer (some (adz_v163.add (t165).toNat)))) HT_.out HW_.out (by kernel_rfl) (by kernel_rfl) ?_ ?_ ?_
              · exact ⟨.bool false, ⟨0, 0, none⟩, .bool false, by simp only [putSel, Bool.false_eq_true, if_false], (by first | exact HO144.out | exact Kd.R_mono HO144.out (fun _ hk => hk.2) | exact Kd.R_mono HO144.out (fun _ hk => hk.1) | exact Kd.R_mono HO144.out (fun _ _ => trivial)), (by first | exact HO153.out | exact Kd.R_mono HO153.out (fun _ hk => hk.2) | exact Kd.R_mono HO153.out (fun _ hk => hk.1) | exact Kd.R_mono HO153.out (fun _ _ => trivial)), (by first | exact HO159.out | exact Kd.R_mono HO159.out (fun _ hk => hk.2) | exact Kd.R_mono HO159.out (fun _ hk => hk.1) | exact Kd.R_mono HO159.out (fun _ _ => trivial)), fun _ => HI141.out, HB.out, fun h_ => absurd h_ (by decide), fun h_ => absurd h_ (by decide), fun h_ => absurd h_ (by decide), fun h_ => absurd h_ (by decide), fun h_ => absurd h_ (by decide)⟩
              · skip
                clear HB HI141 HO144 HO153 HO159
                refine steps_cons ?_ ?_
                · rintro b a w' ⟨v163, adz_v163, m11_, ha, Q_HO144, Q_HO153, Q_HO159, Q_HI141, Q_HB, Q_HI141_e6, Q_HO164, Q_HA_HO164, Q_HI141_e10, Q_X11_⟩ hb_ hon hoff
                  refine ⟨_, rfl, fun K hK => ?_⟩
                  have e24 : a.tmps[24]? = some (.slice Ao17 t142.length co17) := by rw [ha]; exact (putSel_off rfl).trans rfl
                  replace ha := Aside0.mk ha
                  have HO144 := Aside0.mk Q_HO144
                  have HO153 := Aside0.mk Q_HO153
                  have HO159 := Aside0.mk Q_HO159
                  have HB := Aside0.mk Q_HB
                  refine value_ (w1 := w') (v := .int .i64 (t142.length : Int)) (by rfl) rfl ?_ ?_
                  · go_simp
                    (try simp only [i64_w])
                    try rfl
                  refine hK.out _ _ ⟨v163, adz_v163, m11_, (by rw [ha.out]; exact putSel_upk 0 hb_ rfl rfl rfl), Q_HO144, Q_HO153, Q_HO159, Q_HI141, Q_HB, Q_HI141_e6, fun h0_ => absurd ((hoff 8 (by kernel_rfl)).symm.trans h0_) (by decide), fun h0_ => absurd ((hoff 8 (by kernel_rfl)).symm.trans h0_) (by decide), Q_HI141_e10, fun h0_ => absurd ((hoff 11 (by kernel_rfl)).symm.trans h0_) (by decide)⟩
                refine steps_cons ?_ ?_
                · rintro b a w' ⟨v163, adz_v163, m11_, ha, Q_HO144, Q_HO153, Q_HO159, Q_HI141, Q_HB, Q_HI141_e6, Q_HO164, Q_HA_HO164, Q_HI141_e10, Q_X11_⟩ hb_ hon hoff
                  refine ⟨_, rfl, fun K hK => ?_⟩
                  have e26 : a.tmps[26]? = some (.slice Ao17 t142.length co17) := by rw [ha]; exact (putSel_off rfl).trans rfl
                  replace ha := Aside0.mk ha
                  have HO144 := Aside0.mk Q_HO144
                  have HO153 := Aside0.mk Q_HO153
                  have HO159 := Aside0.mk Q_HO159
                  have HB := Aside0.mk Q_HB
                  refine value_ (w1 := w') (v := .int .i64 (t142.length : Int)) (by rfl) rfl ?_ ?_
                  · go_simp
                    (try simp only [i64_w])
                    try rfl
                  refine hK.out _ _ ⟨v163, adz_v163, m11_, (by rw [ha.out]; exact putSel_upk 1 hb_ rfl rfl rfl), Q_HO144, Q_HO153, Q_HO159, Q_HI141, Q_HB, Q_HI141_e6, fun h0_ => absurd ((hoff 8 (by kernel_rfl)).symm.trans h0_) (by decide), fun h0_ => absurd ((hoff 8 (by kernel_rfl)).symm.trans h0_) (by decide), Q_HI141_e10, fun h0_ => absurd ((hoff 11 (by kernel_rfl)).symm.trans h0_) (by decide)⟩
                refine steps_cons ?_ ?_
                · rintro b a w' ⟨v163, adz_v163, m11_, ha, Q_HO144, Q_HO153, Q_HO159, Q_HI141, Q_HB, Q_HI141_e6, Q_HO164, Q_HA_HO164, Q_HI141_e10, Q_X11_⟩ hb_ hon hoff
                  refine ⟨_, rfl, fun K hK => ?_⟩
                  have e28 : a.tmps[28]? = some (.pointer (some ⟨g141, 0, none⟩)) := by rw [ha]; exact (putSel_off rfl).trans rfl
                  replace ha := Aside0.mk ha
                  have HO144 := Aside0.mk Q_HO144
                  have HO153 := Aside0.mk Q_HO153
                  have HO159 := Aside0.mk Q_HO159
                  have HI141 := Aside0.mk (Q_HI141 hb_)
                  have HB := Aside0.mk Q_HB
                  refine goes_ Try.func45 (by kernel_rfl) rfl #[.pointer (some ⟨g141, 0, none⟩), .int .i64 8] (by rfl) rfl rfl (by first | (simp only [List.map_toArray, List.map_cons, List.map_nil, Act.eval, Array.getD_eq_getD_getElem?, Option.getD_some, e28]; done) | (simp only [List.map_toArray, List.map_cons, List.map_nil, Act.eval, Array.getD_eq_getD_getElem?, Option.getD_some, e28]; rfl)) ?_
                  with_reducible refine (spec_l20Rd_pick.calls k g141 t139 t155 8 t160 t161 w _ ?side1 ?side2 A11.out).mono ?_
                  (case side1 => repeat (first | (with_reducible first | exact HI141.out | apply IsS58.alloc | apply IsS58.drewN | apply IsS58.drew | apply IsS58.set_1) | exact HI141.out))
                  (case side2 => repeat (first | (with_reducible first | exact HB.out | apply below_alloc | apply pw_below_drewN | apply below_drew1 | refine below_set ?_ (IsS58.ge HI141.out)) | exact HB.out))
                  rintro e w26 ⟨rfl, hi, hb, hk⟩
                  refine ⟨_, rfl, ?_⟩
                  have n0_ := Aside0.mk (Kd.R_mono (Kd.R_keep (IsS58.apart (show IsS58 w _ g141 t139 t155 from by repeat (first | (with_reducible first | exact HI141.out | apply IsS58.alloc | apply IsS58.drewN | apply IsS58.drew | apply IsS58.set_1) | exact HI141.out)) (by (with_reducible repeat (first | apply Kd.R_alloc | apply Kd.R_drewN | apply Kd.R_drew)); (first | exact HO144.out | exact Kd.R_mono HO144.out (fun _ hk => hk.2) | exact Kd.R_mono HO144.out (fun _ hk => hk.1) | exact Kd.R_mono HO144.out (fun _ _ => trivial))) (by decide)) hk (fun _ h => h.2)) (fun _ h => h.1))
                  have n1_ := Aside0.mk (Kd.R_mono (Kd.R_keep (IsS58.apart (show IsS58 w _ g141 t139 t155 from by repeat (first | (with_reducible first | exact HI141.out | apply IsS58.alloc | apply IsS58.drewN | apply IsS58.drew | apply IsS58.set_1) | exact HI141.out)) (by (with_reducible repeat (first | apply Kd.R_alloc | apply Kd.R_drewN | apply Kd.R_drew)); (first | exact HO153.out | exact Kd.R_mono HO153.out (fun _ hk => hk.2) | exact Kd.R_mono HO153.out (fun _ hk => hk.1) | exact Kd.R_mono HO153.out (fun _ _ => trivial))) (by decide)) hk (fun _ h => h.2)) (fun _ h => h.1))
                  have n2_ := Aside0.mk (Kd.R_mono (Kd.R_keep (IsS58.apart (show IsS58 w _ g141 t139 t155 from by repeat (first | (with_reducible first | exact HI141.out | apply IsS58.alloc | apply IsS58.drewN | apply IsS58.drew | apply IsS58.set_1) | exact HI141.out)) (by (with_reducible repeat (first | apply Kd.R_alloc | apply Kd.R_drewN | apply Kd.R_drew)); (first | exact HO159.out | exact Kd.R_mono HO159.out (fun _ hk => hk.2) | exact Kd.R_mono HO159.out (fun _ hk => hk.1) | exact Kd.R_mono HO159.out (fun _ _ => trivial))) (by decide)) hk (fun _ h => h.2)) (fun _ h => h.1))
                  have n3_ := Aside0.mk (hb)
                  have n4_ := Aside0.mk (hi)
                  clear HO144
                  clear HO153
                  clear HO159
                  clear HB
                  clear HI141
                  have HO144 := n0_
                  have HO153 := n1_
                  have HO159 := n2_
                  have HB := n3_
                  have HI141 := n4_
                  clear n0_ n1_ n2_ n3_ n4_
                  (try clear hb)
                  (try clear hb2)
                  (try clear hk)
                  (try clear hi)
                  refine hK.out _ _ ⟨v163, adz_v163, m11_, (by rw [ha.out]; exact putSel_upk 2 hb_ rfl rfl rfl), (by (with_reducible repeat (first | apply Kd.R_alloc | apply Kd.R_drewN | apply Kd.R_drew)); (first | exact HO144.out | exact Kd.R_mono HO144.out (fun _ hk => hk.2) | exact Kd.R_mono HO144.out (fun _ hk => hk.1) | exact Kd.R_mono HO144.out (fun _ _ => trivial))), (by (with_reducible repeat (first | apply Kd.R_alloc | apply Kd.R_drewN | apply Kd.R_drew)); (first | exact HO153.out | exact Kd.R_mono HO153.out (fun _ hk => hk.2) | exact Kd.R_mono HO153.out (fun _ hk => hk.1) | exact Kd.R_mono HO153.out (fun _ _ => trivial))), (by (with_reducible repeat (first | apply Kd.R_alloc | apply Kd.R_drewN | apply Kd.R_drew)); (first | exact HO159.out | exact Kd.R_mono HO159.out (fun _ hk => hk.2) | exact Kd.R_mono HO159.out (fun _ hk => hk.1) | exact Kd.R_mono HO159.out (fun _ _ => trivial))), fun h0_ => absurd ((up_self b 6).symm.trans h0_) (by decide), (by repeat (first | (with_reducible first | exact HB.out | apply below_alloc | apply pw_below_drewN | apply below_drew1 | refine below_set ?_ (IsS58.ge HI141.out)) | exact HB.out)), fun _ _ => (by repeat (first | (with_reducible first | exact HI141.out | apply IsS58.alloc | apply IsS58.drewN | apply IsS58.drew | apply IsS58.set_1) | exact HI141.out)), fun h0_ => absurd ((hoff 8 (by kernel_rfl)).symm.trans h0_) (by decide), fun h0_ => absurd ((hoff 8 (by kernel_rfl)).symm.trans h0_) (by decide), fun h0_ => absurd ((hoff 10 (by kernel_rfl)).symm.trans h0_) (by decide), fun h0_ => absurd ((hoff 11 (by kernel_rfl)).symm.trans h0_) (by decide)⟩
                refine steps_cons ?_ ?_
                · rintro b a w' ⟨v163, adz_v163, m11_, ha, Q_HO144, Q_HO153, Q_HO159, Q_HI141, Q_HB, Q_HI141_e6, Q_HO164, Q_HA_HO164, Q_HI141_e10, Q_X11_⟩ hb_ hon hoff
                  refine ⟨_, rfl, fun K hK => ?_⟩
                  have e29 : a.tmps[29]? = some (.int .i64 t160) := by rw [ha]; exact putSel_on (e := (6, 29, .int .i64 t160)) 2 rfl rfl (hon 6 (by kernel_rfl)) rfl
                  replace ha := Aside0.mk ha
                  have HO144 := Aside0.mk Q_HO144
                  have HO153 := Aside0.mk Q_HO153
                  have HO159 := Aside0.mk Q_HO159
                  have HB := Aside0.mk Q_HB
                  refine value_ (w1 := w') (v := .int .i64 (wrap64 (1 + t160))) (by rfl) rfl ?_ ?_
                  · go_simp
                    (try simp only [i64_w])
                    try rfl
                  refine hK.out _ _ ⟨v163, adz_v163, m11_, (by rw [ha.out]; exact putSel_upk 3 hb_ rfl rfl rfl), Q_HO144, Q_HO153, Q_HO159, fun h0_ => absurd ((hon 6 (by kernel_rfl)).symm.trans h0_) (by decide), Q_HB, Q_HI141_e6, fun h0_ => absurd ((hoff 8 (by kernel_rfl)).symm.trans h0_) (by decide), fun h0_ => absurd ((hoff 8 (by kernel_rfl)).symm.trans h0_) (by decide), Q_HI141_e10, fun h0_ => absurd ((hoff 11 (by kernel_rfl)).symm.trans h0_) (by decide)⟩
                refine steps_cons ?_ ?_
                · rintro b a w' ⟨v163, adz_v163, m11_, ha, Q_HO144, Q_HO153, Q_HO159, Q_HI141, Q_HB, Q_HI141_e6, Q_HO164, Q_HA_HO164, Q_HI141_e10, Q_X11_⟩ hb_ hon hoff
                  refine ⟨_, rfl, fun K hK => ?_⟩
                  have e25 : a.tmps[25]? = some (.int .i64 (t142.length : Int)) := by rw [ha]; exact putSel_on (e := (2, 25, .int .i64 (t142.length : Int))) 0 rfl rfl (hon 2 (by kernel_rfl)) rfl
                  have e27 : a.tmps[27]? = some (.int .i64 (t142.length : Int)) := by rw [ha]; exact putSel_on (e := (4, 27, .int .i64 (t142.length : Int))) 1 rfl rfl (hon 4 (by kernel_rfl)) rfl
                  have e30 : a.tmps[30]? = some (.int .i64 (wrap64 (1 + t160))) := by rw [ha]; exact putSel_on (e := (7, 30, .int .i64 (wrap64 (1 + t160)))) 3 rfl rfl (hon 7 (by kernel_rfl)) rfl
                  replace ha := Aside0.mk ha
                  have HO144 := Aside0.mk Q_HO144
                  have HO153 := Aside0.mk Q_HO153
                  have HO159 := Aside0.mk Q_HO159
                  have HB := Aside0.mk Q_HB
                  refine Kd.R_lit_step (Kd.int .i64) _ 3 ?hg (N := 31) ?hd (xs := ([(t142.length : Int), (t142.length : Int), 0, 9, wrap64 (1 + t160)] : List Int)) (inner := [.int .i64 (t142.length : Int), .int .i64 (t142.length : Int), .int .i64 0, .int .i64 9, .int .i64 (wrap64 (1 + t160))]) (ok := fun _ => True) (okp := fun _ => True) ?hr ?hp (fun _ hk => hk) trivial (Below.refl _ _) (Nat.le_refl _) (by simp) ?_; (case hd => rfl); (case hg => rfl); (case hr => first | (go_simp; done) | (go_simp; rfl)); (case hp => exact (Reps.one (show Kd.M (Kd.int .i64) _ _ _ (t142.length : Int) [.int .i64 (t142.length : Int)] from rfl) (Reps.one (show Kd.M (Kd.int .i64) _ _ _ (t142.length : Int) [.int .i64 (t142.length : Int)] from rfl) (Reps.one (show Kd.M (Kd.int .i64) _ _ _ 0 [.int .i64 0] from rfl) (Reps.one (show Kd.M (Kd.int .i64) _ _ _ 9 [.int .i64 9] from rfl) (Reps.one (show Kd.M (Kd.int .i64) _ _ _ (wrap64 (1 + t160)) [.int .i64 (wrap64 (1 + t160))] from rfl) (Reps.none _ _)))))))
                  intro v163 w28 ho29 hb hg_ hnew_
                  clear hg_ hnew_
                  (first | rw [← Ny162.out] at ho29 | (simp only [Int.reduceToNat] at ho29; rw [← Ny162.out] at ho29))
                  have n0_ := Aside0.mk (Kd.R_below (by (with_reducible repeat (first | apply Kd.R_alloc | apply Kd.R_drewN | apply Kd.R_drew)); (first | exact HO144.out | exact Kd.R_mono HO144.out (fun _ hk => hk.2) | exact Kd.R_mono HO144.out (fun _ hk => hk.1) | exact Kd.R_mono HO144.out (fun _ _ => trivial))) hb)
                  have n1_ := Aside0.mk (Kd.R_elder' (by (with_reducible repeat (first | apply Kd.R_alloc | apply Kd.R_drewN | apply Kd.R_drew)); (first | exact HO153.out | exact Kd.R_mono HO153.out (fun _ hk => hk.2) | exact Kd.R_mono HO153.out (fun _ hk => hk.1) | exact Kd.R_mono HO153.out (fun _ _ => trivial))) (Kd.R_base ho29) hb)
                  have n2_ := Aside0.mk (Kd.R_elder' (by (with_reducible repeat (first | apply Kd.R_alloc | apply Kd.R_drewN | apply Kd.R_drew)); (first | exact HO159.out | exact Kd.R_mono HO159.out (fun _ hk => hk.2) | exact Kd.R_mono HO159.out (fun _ hk => hk.1) | exact Kd.R_mono HO159.out (fun _ _ => trivial))) (Kd.R_base ho29) hb)
                  have n3_ := Aside0.mk (Kd.R_lower (Kd.R_new' (Kd.R_new' ho29 (Kd.R_lt (by (with_reducible repeat (first | apply Kd.R_alloc | apply Kd.R_drewN | apply Kd.R_drew)); (first | exact HO153.out | exact Kd.R_mono HO153.out (fun _ hk => hk.2) | exact Kd.R_mono HO153.out (fun _ hk => hk.1) | exact Kd.R_mono HO153.out (fun _ _ => trivial))))) (Kd.R_lt (by (with_reducible repeat (first | apply Kd.R_alloc | apply Kd.R_drewN | apply Kd.R_drew)); (first | exact HO159.out | exact Kd.R_mono HO159.out (fun _ hk => hk.2) | exact Kd.R_mono HO159.out (fun _ hk => hk.1) | exact Kd.R_mono HO159.out (fun _ _ => trivial))))) (below_size (by repeat (first | (with_reducible first | exact HB.out | apply below_alloc | apply pw_below_drewN | apply below_drew1) | exact HB.out))))
                  have n5_ := Aside0.mk (below_step (by repeat (first | (with_reducible first | exact HB.out | apply below_alloc | apply pw_below_drewN | apply below_drew1) | exact HB.out)) hb)
                  have z_HI141_e6 := fun (h0_ : b 6 = true) (h1_ : b 10 = false) => (show IsS58 w w28 g141 t139 t161 from by first | exact (IsS58.below (by repeat (first | (with_reducible first | exact (Q_HI141_e6 h0_ h1_) | apply IsS58.alloc | apply IsS58.drewN | apply IsS58.drew | apply IsS58.set_1) | exact (Q_HI141_e6 h0_ h1_))) hb))
                  have z_HI141_e10 := fun (h0_ : b 10 = true) => (show IsS58 w w28 g141 t139 t166 from by first | exact (IsS58.below (by repeat (first | (with_reducible first | exact (Q_HI141_e10 h0_) | apply IsS58.alloc | apply IsS58.drewN | apply IsS58.drew | apply IsS58.set_1) | exact (Q_HI141_e10 h0_))) hb))
                  clear HO144
                  clear HO153
                  clear HO159
                  clear HB
                  have HO144 := n0_
                  have HO153 := n1_
                  have HO159 := n2_
                  have HO164 := n3_
                  have HB := n5_
                  clear n0_ n1_ n2_ n3_ n5_
                  clear hb ho29
                  obtain ⟨Ao30, co30, eo30⟩ := Kd.R_slice HO164.out
                  subst eo30
                  obtain ⟨ado30, fo30, _⟩ := Kd.at_int (Kd.R_reads' HO164.out).2.2 0 (by decide) (by rw [Ny162.out]; simp)
                  cases fo30
                  refine hK.out _ _ ⟨.slice (some ado30) y162.length co30, ado30, m11_, (by rw [ha.out]; exact putSel_upk 4 hb_ rfl rfl rfl), (by (with_reducible repeat (first | apply Kd.R_alloc | apply Kd.R_drewN | apply Kd.R_drew)); (first | exact HO144.out | exact Kd.R_mono HO144.out (fun _ hk => hk.2) | exact Kd.R_mono HO144.out (fun _ hk => hk.1) | exact Kd.R_mono HO144.out (fun _ _ => trivial))), (by (with_reducible repeat (first | apply Kd.R_alloc | apply Kd.R_drewN | apply Kd.R_drew)); (first | exact HO153.out | exact Kd.R_mono HO153.out (fun _ hk => hk.2) | exact Kd.R_mono HO153.out (fun _ hk => hk.1) | exact Kd.R_mono HO153.out (fun _ _ => trivial))), (by (with_reducible repeat (first | apply Kd.R_alloc | apply Kd.R_drewN | apply Kd.R_drew)); (first | exact HO159.out | exact Kd.R_mono HO159.out (fun _ hk => hk.2) | exact Kd.R_mono HO159.out (fun _ hk => hk.1) | exact Kd.R_mono HO159.out (fun _ _ => trivial))), fun h0_ => absurd ((hon 6 (by kernel_rfl)).symm.trans h0_) (by decide), (by repeat (first | (with_reducible first | exact HB.out | apply below_alloc | apply pw_below_drewN | apply below_drew1) | exact HB.out)), z_HI141_e6, fun _ => (by (with_reducible repeat (first | apply Kd.R_alloc | apply Kd.R_drewN | apply Kd.R_drew)); exact Kd.R_mono HO164.out (fun _ hk => ⟨hk.1.2, hk.2⟩)), fun _ => ⟨_, rfl⟩, z_HI141_e10, fun h0_ => absurd ((hoff 11 (by kernel_rfl)).symm.trans h0_) (by decide)⟩
                refine steps_cons ?_ ?_
                · rintro b a w' ⟨v163, adz_v163, m11_, ha, Q_HO144, Q_HO153, Q_HO159, Q_HI141, Q_HB, Q_HI141_e6, Q_HO164, Q_HA_HO164, Q_HI141_e10, Q_X11_⟩ hb_ hon hoff
                  refine ⟨_, rfl, fun K hK => ?_⟩
                  have e32 : a.tmps[32]? = some (.pointer (some ⟨g141, 0, none⟩)) := by rw [ha]; exact (putSel_off rfl).trans rfl
                  replace ha := Aside0.mk ha
                  have HO144 := Aside0.mk Q_HO144
                  have HO153 := Aside0.mk Q_HO153
                  have HO159 := Aside0.mk Q_HO159
                  have HB := Aside0.mk Q_HB
                  have HI141 := Aside0.mk (Q_HI141_e6 (hon 6 (by kernel_rfl)) hb_)
                  refine goes_ Try.func45 (by kernel_rfl) rfl #[.pointer (some ⟨g141, 0, none⟩), .int .i64 5] (by rfl) rfl rfl (by first | (simp only [List.map_toArray, List.map_cons, List.map_nil, Act.eval, Array.getD_eq_getD_getElem?, Option.getD_some, e32]; done) | (simp only [List.map_toArray, List.map_cons, List.map_nil, Act.eval, Array.getD_eq_getD_getElem?, Option.getD_some, e32]; rfl)) ?_
                  with_reducible refine (spec_l20Rd_pick.calls k g141 t139 t161 5 t165 t166 w _ ?side1 ?side2 A12.out).mono ?_
                  (case side1 => repeat (first | (with_reducible first | exact HI141.out | apply IsS58.alloc | apply IsS58.drewN | apply IsS58.drew | apply IsS58.set_1) | exact HI141.out))
                  (case side2 => repeat (first | (with_reducible first | exact HB.out | apply below_alloc | apply pw_below_drewN | apply below_drew1 | refine below_set ?_ (IsS58.ge HI141.out)) | exact HB.out))
                  rintro e w28 ⟨rfl, hi, hb, hk⟩
                  refine ⟨_, rfl, ?_⟩
                  have n0_ := Aside0.mk (Kd.R_mono (Kd.R_keep (IsS58.apart (show IsS58 w _ g141 t139 t161 from by repeat (first | (with_reducible first | exact HI141.out | apply IsS58.alloc | apply IsS58.drewN | apply IsS58.drew | apply IsS58.set_1) | exact HI141.out)) (by (with_reducible repeat (first | apply Kd.R_alloc | apply Kd.R_drewN | apply Kd.R_drew)); (first | exact HO144.out | exact Kd.R_mono HO144.out (fun _ hk => hk.2) | exact Kd.R_mono HO144.out (fun _ hk => hk.1) | exact Kd.R_mono HO144.out (fun _ _ => trivial))) (by decide)) hk (fun _ h => h.2)) (fun _ h => h.1))
                  have n1_ := Aside0.mk (Kd.R_mono (Kd.R_keep (IsS58.apart (show IsS58 w _ g141 t139 t161 from by repeat (first | (with_reducible first | exact HI141.out | apply IsS58.alloc | apply IsS58.drewN | apply IsS58.drew | apply IsS58.set_1) | exact HI141.out)) (by (with_reducible repeat (first | apply Kd.R_alloc | apply Kd.R_drewN | apply Kd.R_drew)); (first | exact HO153.out | exact Kd.R_mono HO153.out (fun _ hk => hk.2) | exact Kd.R_mono HO153.out (fun _ hk => hk.1) | exact Kd.R_mono HO153.out (fun _ _ => trivial))) (by decide)) hk (fun _ h => h.2)) (fun _ h => h.1))
                  have n2_ := Aside0.mk (Kd.R_mono (Kd.R_keep (IsS58.apart (show IsS58 w _ g141 t139 t161 from by repeat (first | (with_reducible first | exact HI141.out | apply IsS58.alloc | apply IsS58.drewN | apply IsS58.drew | apply IsS58.set_1) | exact HI141.out)) (by (with_reducible repeat (first | apply Kd.R_alloc | apply Kd.R_drewN | apply Kd.R_drew)); (first | exact HO159.out | exact Kd.R_mono HO159.out (fun _ hk => hk.2) | exact Kd.R_mono HO159.out (fun _ hk => hk.1) | exact Kd.R_mono HO159.out (fun _ _ => trivial))) (by decide)) hk (fun _ h => h.2)) (fun _ h => h.1))
                  have n3_ := Aside0.mk (hb)
                  have n4_ := Aside0.mk (hi)
                  have z_HO164 := fun (h0_ : b 8 = true) => (show Kd.R (Kd.int .i64) 3 w28 w.heap.size (fun k_ => some k_ ≠ (.slice (some ad156) y151.length co23 : Value).ownBlock ∧ some k_ ≠ (v158 : Value).ownBlock) v163 y162 from by first | exact (Kd.R_mono (Kd.R_keep (IsS58.apart (show IsS58 w _ g141 t139 t161 from by repeat (first | (with_reducible first | exact HI141.out | apply IsS58.alloc | apply IsS58.drewN | apply IsS58.drew | apply IsS58.set_1) | exact HI141.out)) (by (with_reducible repeat (first | apply Kd.R_alloc | apply Kd.R_drewN | apply Kd.R_drew)); exact (Q_HO164 h0_)) (by decide)) hk (fun _ h => h.2)) (fun _ h => h.1)) | exact Kd.R_mono (Kd.R_mono (Kd.R_keep (IsS58.apart (show IsS58 w _ g141 t139 t161 from by repeat (first | (with_reducible first | exact HI141.out | apply IsS58.alloc | apply IsS58.drewN | apply IsS58.drew | apply IsS58.set_1) | exact HI141.out)) (by (with_reducible repeat (first | apply Kd.R_alloc | apply Kd.R_drewN | apply Kd.R_drew)); exact (Q_HO164 h0_)) (by decide)) hk (fun _ h => h.2)) (fun _ h => h.1)) (fun _ h_ => by first | trivial | exact h_ | exact h_.1))
                  clear HO144
                  clear HO153
                  clear HO159
                  clear HB
                  clear HI141
                  have HO144 := n0_
                  have HO153 := n1_
                  have HO159 := n2_
                  have HB := n3_
                  have HI141 := n4_
                  clear n0_ n1_ n2_ n3_ n4_
                  (try clear hb)
                  (try clear hb2)
                  (try clear hk)
                  (try clear hi)
                  refine hK.out _ _ ⟨v163, adz_v163, m11_, (by rw [ha.out]; exact putSel_upk 5 hb_ rfl rfl rfl), (by (with_reducible repeat (first | apply Kd.R_alloc | apply Kd.R_drewN | apply Kd.R_drew)); (first | exact HO144.out | exact Kd.R_mono HO144.out (fun _ hk => hk.2) | exact Kd.R_mono HO144.out (fun _ hk => hk.1) | exact Kd.R_mono HO144.out (fun _ _ => trivial))), (by (with_reducible repeat (first | apply Kd.R_alloc | apply Kd.R_drewN | apply Kd.R_drew)); (first | exact HO153.out | exact Kd.R_mono HO153.out (fun _ hk => hk.2) | exact Kd.R_mono HO153.out (fun _ hk => hk.1) | exact Kd.R_mono HO153.out (fun _ _ => trivial))), (by (with_reducible repeat (first | apply Kd.R_alloc | apply Kd.R_drewN | apply Kd.R_drew)); (first | exact HO159.out | exact Kd.R_mono HO159.out (fun _ hk => hk.2) | exact Kd.R_mono HO159.out (fun _ hk => hk.1) | exact Kd.R_mono HO159.out (fun _ _ => trivial))), fun h0_ => absurd ((hon 6 (by kernel_rfl)).symm.trans h0_) (by decide), (by repeat (first | (with_reducible first | exact HB.out | apply below_alloc | apply pw_below_drewN | apply below_drew1 | refine below_set ?_ (IsS58.ge HI141.out)) | exact HB.out)), fun _ h1_ => absurd ((up_self b 10).symm.trans h1_) (by decide), z_HO164, Q_HA_HO164, fun _ => (by repeat (first | (with_reducible first | exact HI141.out | apply IsS58.alloc | apply IsS58.drewN | apply IsS58.drew | apply IsS58.set_1) | exact HI141.out)), fun h0_ => absurd ((hoff 11 (by kernel_rfl)).symm.trans h0_) (by decide)⟩
                refine steps_cons ?_ ?_
                · rintro b a w' ⟨v163, adz_v163, m11_, ha, Q_HO144, Q_HO153, Q_HO159, Q_HI141, Q_HB, Q_HI141_e6, Q_HO164, Q_HA_HO164, Q_HI141_e10, Q_X11_⟩ hb_ hon hoff
                  refine ⟨_, rfl, fun K hK => ?_⟩
                  have e31 : a.tmps[31]? = some (v163) := by rw [ha]; exact putSel_on (e := (8, 31, v163)) 4 rfl rfl (hon 8 (by kernel_rfl)) rfl
                  have e33 : a.tmps[33]? = some (.int .i64 t165) := by rw [ha]; exact putSel_on (e := (10, 33, .int .i64 t165)) 5 rfl rfl (hon 10 (by kernel_rfl)) rfl
                  replace ha := Aside0.mk ha
                  have HO144 := Aside0.mk Q_HO144
                  have HO153 := Aside0.mk Q_HO153
                  have HO159 := Aside0.mk Q_HO159
                  have HB := Aside0.mk Q_HB
                  have HO164 := Aside0.mk (Q_HO164 (hon 8 (by kernel_rfl)))
                  have HA_HO164 := Aside0.mk (Q_HA_HO164 (hon 8 (by kernel_rfl)))
                  have HI141 := Aside0.mk (Q_HI141_e10 (hon 10 (by kernel_rfl)))
                  obtain ⟨c_, hv_⟩ := HA_HO164.out
                  rw [hv_] at e31
                  refine value_ (w1 := w') (v := .pointer (some (adz_v163.add (t165).toNat))) (by rfl) rfl ?_ ?_
                  · go_simp
                    (try simp only [i64_w])
                    try rfl
                  refine hK.out _ _ ⟨v163, adz_v163, (.pointer (some (adz_v163.add (t165).toNat))), (by rw [ha.out]; exact putSel_upk 6 hb_ rfl rfl rfl), Q_HO144, Q_HO153, Q_HO159, fun h0_ => absurd ((hon 6 (by kernel_rfl)).symm.trans h0_) (by decide), Q_HB, fun _ h1_ => absurd ((hon 10 (by kernel_rfl)).symm.trans h1_) (by decide), Q_HO164, Q_HA_HO164, Q_HI141_e10, fun _ => rfl⟩
                refine steps_cons ?_ ?_
                · rintro b a w' ⟨v163, adz_v163, m11_, ha, Q_HO144, Q_HO153, Q_HO159, Q_HI141, Q_HB, Q_HI141_e6, Q_HO164, Q_HA_HO164, Q_HI141_e10, Q_X11_⟩ hb_ hon hoff
                  refine ⟨_, rfl, fun K hK => ?_⟩
                  have e34 : a.tmps[34]? = some (m11_) := by rw [ha]; exact putSel_on (e := (11, 34, m11_)) 6 rfl rfl (hon 11 (by kernel_rfl)) rfl
                  rw [Q_X11_ (hon 11 (by kernel_rfl))] at e34
                  replace ha := Aside0.mk ha
                  have HO144 := Aside0.mk Q_HO144
                  have HO153 := Aside0.mk Q_HO153
                  have HO159 := Aside0.mk Q_HO159
                  have HB := Aside0.mk Q_HB
                  have HO164 := Aside0.mk (Q_HO164 (hon 8 (by kernel_rfl)))
                  have HA_HO164 := Aside0.mk (Q_HA_HO164 (hon 8 (by kernel_rfl)))
                  have HI141 := Aside0.mk (Q_HI141_e10 (hon 10 (by kernel_rfl)))
                  obtain ⟨c_, hv_⟩ := HA_HO164.out
                  have hF_ := HO164.out
                  rw [hv_] at hF_
                  obtain ⟨ad_, ea_, hx_⟩ := Kd.at_int (Kd.R_reads' hF_).2.2 t165 (of_eq_true pi167) (of_eq_true qi167)
                  cases ea_
                  refine value_ (w1 := w') (v := .int .i64 (rd y162 t165)) (by rfl) rfl ?_ ?_
                  · go_simp
                    (try simp only [i64_w])
                    try rfl
                  refine hK.out _ _ ⟨v163, adz_v163, m11_, (by rw [ha.out]; exact putSel_upk 7 hb_ rfl rfl rfl), Q_HO144, Q_HO153, Q_HO159, fun h0_ => absurd ((hon 6 (by kernel_rfl)).symm.trans h0_) (by decide), Q_HB, fun _ h1_ => absurd ((hon 10 (by kernel_rfl)).symm.trans h1_) (by decide), Q_HO164, Q_HA_HO164, Q_HI141_e10, Q_X11_⟩
                refine steps_cons ?_ ?_
                · rintro b a w' ⟨v163, adz_v163, m11_, ha, Q_HO144, Q_HO153, Q_HO159, Q_HI141, Q_HB, Q_HI141_e6, Q_HO164, Q_HA_HO164, Q_HI141_e10, Q_X11_⟩ hb_ hon hoff
                  refine ⟨_, rfl, fun K hK => ?_⟩
                  have e23 : a.tmps[23]? = some (v158) := by rw [ha]; exact (putSel_off rfl).trans rfl
                  replace ha := Aside0.mk ha
                  have HO144 := Aside0.mk Q_HO144
                  have HO153 := Aside0.mk Q_HO153
                  have HO159 := Aside0.mk Q_HO159
                  have HB := Aside0.mk Q_HB
                  have HI141 := Aside0.mk (Q_HI141_e10 (hon 10 (by kernel_rfl)))
                  refine value_ (w1 := w') (v := v158) (by rfl) rfl ?_ ?_
                  · go_simp
                    (try simp only [i64_w])
                    try rfl
                  refine hK.out _ _ ⟨v163, adz_v163, m11_, (by rw [ha.out]; exact putSel_upk 8 hb_ rfl rfl rfl), Q_HO144, Q_HO153, Q_HO159, fun h0_ => absurd ((hon 6 (by kernel_rfl)).symm.trans h0_) (by decide), Q_HB, fun _ h1_ => absurd ((hon 10 (by kernel_rfl)).symm.trans h1_) (by decide), Q_HO164, Q_HA_HO164, Q_HI141_e10, Q_X11_⟩
                refine steps_cons ?_ ?_
                · rintro b a w' ⟨v163, adz_v163, m11_, ha, Q_HO144, Q_HO153, Q_HO159, Q_HI141, Q_HB, Q_HI141_e6, Q_HO164, Q_HA_HO164, Q_HI141_e10, Q_X11_⟩ hb_ hon hoff
                  refine ⟨_, rfl, fun K hK => ?_⟩
                  have e35 : a.tmps[35]? = some (.int .i64 (rd y162 t165)) := by rw [ha]; exact putSel_on (e := (12, 35, .int .i64 (rd y162 t165))) 7 rfl rfl (hon 12 (by kernel_rfl)) rfl
                  replace ha := Aside0.mk ha
                  have HO144 := Aside0.mk Q_HO144
                  have HO153 := Aside0.mk Q_HO153
                  have HO159 := Aside0.mk Q_HO159
                  have HB := Aside0.mk Q_HB
                  have HO164 := Aside0.mk (Q_HO164 (hon 8 (by kernel_rfl)))
                  have HA_HO164 := Aside0.mk (Q_HA_HO164 (hon 8 (by kernel_rfl)))
                  have HI141 := Aside0.mk (Q_HI141_e10 (hon 10 (by kernel_rfl)))
                  refine value_ (w1 := w') (v := .int .i64 (rd y162 t165)) (by rfl) rfl ?_ ?_
                  · go_simp
                    (try simp only [i64_w])
                    try rfl
                  refine hK.out _ _ ⟨v163, adz_v163, m11_, (by rw [ha.out]; exact putSel_upk 9 hb_ rfl rfl rfl), Q_HO144, Q_HO153, Q_HO159, fun h0_ => absurd ((hon 6 (by kernel_rfl)).symm.trans h0_) (by decide), Q_HB, fun _ h1_ => absurd ((hon 10 (by kernel_rfl)).symm.trans h1_) (by decide), Q_HO164, Q_HA_HO164, Q_HI141_e10, Q_X11_⟩
                exact steps_nil
              rintro b a w31 hall ⟨v163, adz_v163, m11_, ha, Q_HO144, Q_HO153, Q_HO159, Q_HI141, Q_HB, Q_HI141_e6, Q_HO164, Q_HA_HO164, Q_HI141_e10, Q_X11_⟩
              clear HB HI141 HO144 HO153 HO159
              have hb2_ := hall 2 (by kernel_rfl)
              have hb4_ := hall 4 (by kernel_rfl)
              have hb6_ := hall 6 (by kernel_rfl)
              have hb7_ := hall 7 (by kernel_rfl)
              have hb8_ := hall 8 (by kernel_rfl)
              have hb10_ := hall 10 (by kernel_rfl)
              have hb11_ := hall 11 (by kernel_rfl)
              have hb12_ := hall 12 (by kernel_rfl)
              have hb13_ := hall 13 (by kernel_rfl)
              have hb14_ := hall 14 (by kernel_rfl)
              subst ha
              obtain rfl := Q_X11_ hb11_
              simp only [putSel, hb2_, hb4_, hb6_, hb7_, hb8_, hb10_, hb11_, hb12_, hb13_, hb14_, if_true, Act.put, List.setIfInBounds_toArray, List.set_cons_zero, List.set_cons_succ]
              have HO144 := Aside0.mk Q_HO144
              clear Q_HO144
              have HO153 := Aside0.mk Q_HO153
              clear Q_HO153
              have HO159 := Aside0.mk Q_HO159
              clear Q_HO159
              clear Q_HI141
              have HB := Aside0.mk Q_HB
              clear Q_HB
              clear Q_HI141_e6
              have HO164 := Aside0.mk (Q_HO164 hb8_)
              clear Q_HO164
              have HA_HO164 := Aside0.mk (Q_HA_HO164 hb8_)
              clear Q_HA_HO164
              have HI141 := Aside0.mk (Q_HI141_e10 hb10_)
              clear Q_HI141_e10
              clear hall hb2_ hb4_ hb6_ hb7_ hb8_ hb10_ hb11_ hb12_ hb13_ hb14_
              obtain ⟨co32, eo32⟩ := HA_HO164.out
              clear HA_HO164
              subst eo32
              try go_wp2
              go_ret2
              exact ⟨_, by first | rfl | (simp [errW_none, errW_some] <;> rfl) | (simp [*, errW_none, errW_some] <;> rfl), by (with_reducible repeat (first | apply Kd.R_alloc | apply Kd.R_drewN | apply Kd.R_drew)); exact Kd.R_mono HO159.out (fun _ hk => trivial), by repeat (first | (with_reducible first | exact HB.out | apply below_alloc | apply pw_below_drewN | apply below_drew1 | refine below_set ?_ (IsS58.ge HI141.out)) | exact HB.out)⟩
            · rw [if_neg c14] at H
              exact absurd H (by simp)
          · rw [if_neg c13] at H
            exact absurd H (by simp)
        · rw [if_neg c10] at H
          exact absurd H (by simp)
      · rw [if_neg c9] at H
        exact absurd H (by simp)
    · rw [if_neg c8] at H
      exact absurd H (by simp)
  · replace c6 := Bool.eq_false_iff.mpr c6
    subst c6
    have H1 : ((spec_l20Rd_pick.f k t139 t150 8).bind fun bt168 => ((some (([(t142.length : Int), (t142.length : Int), 0, 9, wrap64 (1 + bt168.1)] : List Int) : List Int)).bind fun y170 => ((spec_l20Rd_pick.f k t139 bt168.2 5).bind fun bt173 => (if 0 ≤ bt173.1 then (if bt173.1 < (y170.length : Int) then (some (t146, rd y170 bt173.1)) else (none)) else (none))))) = some (r1, r2) := by rw [if_neg (show ¬ (false = true) by decide)] at H; exact H
    clear H
    have H := H1
    clear H1
    replace H := Option.bind_eq_some_iff.mp H
    obtain ⟨⟨t168, t169⟩, A330, H⟩ := H
    replace H : ((some (([(t142.length : Int), (t142.length : Int), 0, 9, wrap64 (1 + t168)] : List Int) : List Int)).bind fun y170 => ((spec_l20Rd_pick.f k t139 t169 5).bind fun bt173 => (if 0 ≤ bt173.1 then (if bt173.1 < (y170.length : Int) then (some (t146, rd y170 bt173.1)) else (none)) else (none)))) = some (r1, r2) := H
    have A33 := Aside0.mk A330
    clear A330
    obtain ⟨y170, hy170⟩ : ∃ y_ : List Int, y_ = (([(t142.length : Int), (t142.length : Int), 0, 9, wrap64 (1 + t168)] : List Int)) := ⟨_, rfl⟩
    replace H : ((spec_l20Rd_pick.f k t139 t169 5).bind fun bt173 => (if 0 ≤ bt173.1 then (if bt173.1 < (y170.length : Int) then (some (t146, rd y170 bt173.1)) else (none)) else (none))) = some (r1, r2) := by first | (rw [hy170]; with_reducible exact H) | (have H2_ := (Option.bind_some _ _).symm.trans H; rw [hy170]; with_reducible exact H2_) | (have H2_ := (Option.bind_some _ _).symm.trans H; with_reducible exact H2_) | with_reducible exact H | (rw [hy170]; exact H) | exact H
    have Ny170 := Aside0.mk hy170
    clear hy170
    replace H := Option.bind_eq_some_iff.mp H
    obtain ⟨⟨t173, t174⟩, A340, H⟩ := H
    replace H : (if 0 ≤ t173 then (if t173 < (y170.length : Int) then (some (t146, rd y170 t173)) else (none)) else (none)) = some (r1, r2) := H
    have A34 := Aside0.mk A340
    clear A340
    by_cases c35 : 0 ≤ t173
    · rw [if_pos c35] at H
      have c35b0 : decide (0 ≤ t173) = true := decide_eq_true c35
      clear c35
      by_cases c36 : t173 < (y170.length : Int)
      · rw [if_pos c36] at H
        have c36b0 : decide (t173 < (y170.length : Int)) = true := decide_eq_true c36
        clear c36
        simp only [Option.some.injEq, Prod.mk.injEq] at H
        obtain ⟨rfl, rfl⟩ := H
        go_enter Try.func32, Try.ntmps32
        try go_wp2_with (first | ((with_reducible refine gate_callee (f := 40) rfl ?_); refine goesL_ (some 8) rfl rfl Try.func40 (by kernel_rfl) rfl #[.slice A0 l0.length c0] rfl (by (try simp only [List.map_toArray, List.map_cons, List.map_nil]); first | done | rfl | (simp only [List.length_drop, List.length_take]; rfl)) ?_; (with_reducible refine (spec_l20Open.calls _ _ l0 t139 t140 w _ ?side1 ?side2 ?side3 A2.out).mono ?_); (case side1 => repeat (first | (with_reducible first | exact HB.out | apply below_alloc | apply pw_below_drewN | apply below_drew1) | exact HB.out)); (case side2 => exact HR0.out); (case side3 => exact HC0.out); rintro e w37 ⟨g141, rfl, hi, hb, hb2⟩; refine ⟨_, rfl, ?_⟩; have n0_ := Aside0.mk (hb); have n1_ := Aside0.mk (hi); clear HB; have HB := n0_; have HI141 := n1_; clear n0_ n1_; (try clear hb); (try clear hb2); (try clear hk); (try clear hi)) | ((with_reducible refine gate_callee (f := 42) rfl ?_); refine goesL_ (some 10) rfl rfl Try.func42 (by kernel_rfl) rfl #[.pointer (some ⟨g141, 0, none⟩), .int .i64 8] rfl (by (try simp only [List.map_toArray, List.map_cons, List.map_nil]); first | done | rfl | (simp only [List.length_drop, List.length_take]; rfl)) ?_; (with_reducible refine (spec_l20Line.calls k g141 t139 t140 8 t142 t145 w _ ?side1 ?side2 A3.out).mono ?_); (case side1 => repeat (first | (with_reducible first | exact HI141.out | apply IsS58.alloc | apply IsS58.drewN | apply IsS58.drew | apply IsS58.set_1) | exact HI141.out)); (case side2 => repeat (first | (with_reducible first | exact HB.out | apply below_alloc | apply pw_below_drewN | apply below_drew1 | refine below_set ?_ (IsS58.ge HI141.out)) | exact HB.out)); rintro e w38 ⟨v143, rfl, ho0, hi, hb, hk⟩; refine ⟨_, rfl, ?_⟩; have n0_ := Aside0.mk (Kd.R_lower ho0 (below_size (by repeat (first | (with_reducible first | exact HB.out | apply below_alloc | apply pw_below_drewN | apply below_drew1 | refine below_set ?_ (IsS58.ge HI141.out)) | exact HB.out)))); have n1_ := Aside0.mk (hb); have n2_ := Aside0.mk (hi); clear HB; clear HI141; have HO144 := n0_; have HB := n1_; have HI141 := n2_; clear n0_ n1_ n2_; (try clear hb); (try clear hb2); (try clear hk); (try clear hi); (try clear ho0); obtain ⟨Ao39, co39, eo39⟩ := Kd.R_slice HO144.out; subst eo39) | ((with_reducible refine gate_callee (f := 21) rfl ?_); refine goesL_ (some 12) rfl rfl Try.func21 (by kernel_rfl) rfl #[.slice Ao39 t142.length co39] rfl (by (try simp only [List.map_toArray, List.map_cons, List.map_nil]); first | done | rfl | (simp only [List.length_drop, List.length_take]; rfl)) ?_; (with_reducible refine (spec_ClueOf.calls k _ _ t142 t146 _ ?side1 ?side2 A4.out).mono ?_); (case side1 => repeat (first | exact (Kd.R_reads' HO144.out).2.2 | (with_reducible refine Kd.C_alloc ?_ _) | (with_reducible refine Kd.C_drewN ?_ _) | (with_reducible refine Kd.C_drew ?_))); (case side2 => exact (Kd.R_reads' HO144.out).2.1); rintro e w40 ⟨v147, rfl, ho0, hb⟩; refine ⟨_, rfl, ?_⟩; have n0_ := Aside0.mk (Kd.R_below (by (with_reducible repeat (first | apply Kd.R_alloc | apply Kd.R_drewN | apply Kd.R_drew)); (first | exact HO144.out | exact Kd.R_mono HO144.out (fun _ hk => hk.2) | exact Kd.R_mono HO144.out (fun _ hk => hk.1) | exact Kd.R_mono HO144.out (fun _ _ => trivial))) hb); have n1_ := Aside0.mk (Kd.R_lower ho0 (below_size (by repeat (first | (with_reducible first | exact HB.out | apply below_alloc | apply pw_below_drewN | apply below_drew1 | refine below_set ?_ (IsS58.ge HI141.out)) | exact HB.out)))); have n2_ := Aside0.mk (IsS58.below (by repeat (first | (with_reducible first | exact HI141.out | apply IsS58.alloc | apply IsS58.drewN | apply IsS58.drew | apply IsS58.set_1) | exact HI141.out)) hb); have n3_ := Aside0.mk (below_step (by repeat (first | (with_reducible first | exact HB.out | apply below_alloc | apply pw_below_drewN | apply below_drew1 | refine below_set ?_ (IsS58.ge HI141.out)) | exact HB.out)) hb); clear HO144; clear HI141; clear HB; have HO144 := n0_; have HO148 := n1_; have HI141 := n2_; have HB := n3_; clear n0_ n1_ n2_ n3_; (try clear hb); (try clear hb2); (try clear hk); (try clear hi); (try clear ho0)) | ((with_reducible refine gate_callee (f := 44) rfl ?_); refine goesL_ (some 14) rfl rfl Try.func44 (by kernel_rfl) rfl #[.pointer (some ⟨g141, 0, none⟩), .int .i64 3] rfl (by (try simp only [List.map_toArray, List.map_cons, List.map_nil]); first | done | rfl | (simp only [List.length_drop, List.length_take]; rfl)) ?_; (with_reducible refine (spec_l20Rd_odd.calls k g141 t139 t145 3 false t150 w _ ?side1 ?side2 A5.out).mono ?_); (case side1 => repeat (first | (with_reducible first | exact HI141.out | apply IsS58.alloc | apply IsS58.drewN | apply IsS58.drew | apply IsS58.set_1) | exact HI141.out)); (case side2 => repeat (first | (with_reducible first | exact HB.out | apply below_alloc | apply pw_below_drewN | apply below_drew1 | refine below_set ?_ (IsS58.ge HI141.out)) | exact HB.out)); rintro e w41 ⟨rfl, hi, hb, hk⟩; refine ⟨_, rfl, ?_⟩; have n0_ := Aside0.mk (Kd.R_mono (Kd.R_keep (IsS58.apart (show IsS58 w _ g141 t139 t145 from by repeat (first | (with_reducible first | exact HI141.out | apply IsS58.alloc | apply IsS58.drewN | apply IsS58.drew | apply IsS58.set_1) | exact HI141.out)) (by (with_reducible repeat (first | apply Kd.R_alloc | apply Kd.R_drewN | apply Kd.R_drew)); (first | exact HO144.out | exact Kd.R_mono HO144.out (fun _ hk => hk.2) | exact Kd.R_mono HO144.out (fun _ hk => hk.1) | exact Kd.R_mono HO144.out (fun _ _ => trivial))) (by decide)) hk (fun _ h => h.2)) (fun _ h => h.1)); have n1_ := Aside0.mk (Kd.R_mono (Kd.R_keep (IsS58.apart (show IsS58 w _ g141 t139 t145 from by repeat (first | (with_reducible first | exact HI141.out | apply IsS58.alloc | apply IsS58.drewN | apply IsS58.drew | apply IsS58.set_1) | exact HI141.out)) (by (with_reducible repeat (first | apply Kd.R_alloc | apply Kd.R_drewN | apply Kd.R_drew)); (first | exact HO148.out | exact Kd.R_mono HO148.out (fun _ hk => hk.2) | exact Kd.R_mono HO148.out (fun _ hk => hk.1) | exact Kd.R_mono HO148.out (fun _ _ => trivial))) (by decide)) hk (fun _ h => h.2)) (fun _ h => h.1)); have n2_ := Aside0.mk (hb); have n3_ := Aside0.mk (hi); clear HO144; clear HO148; clear HB; clear HI141; have HO144 := n0_; have HO148 := n1_; have HB := n2_; have HI141 := n3_; clear n0_ n1_ n2_ n3_; (try clear hb); (try clear hb2); (try clear hk); (try clear hi)))
        have pi175 : (0 ≤ (t173 : Int)) = True := eq_true (of_decide_eq_true (by first | (with_reducible assumption) | assumption))
        have qi175 : (t173 < (y170.length : Int)) = True := eq_true (of_decide_eq_true (by first | (with_reducible assumption) | assumption))
        have n0_ := Aside0.mk (Kd.R_drew HO144.out)
        have n1_ := Aside0.mk (Kd.R_drew HO148.out)
        have n2_ := Aside0.mk (IsS58.drew HI141.out)
        have n3_ := Aside0.mk (below_drew1 HB.out)
        clear HO144
        clear HO148
        clear HI141
        clear HB
        have HO144 := n0_
        have HO148 := n1_
        have HI141 := n2_
        have HB := n3_
        clear n0_ n1_ n2_ n3_
        refine start_ (n := 15) (S := fun w' => True) (ds := []) #[false, false, false, false, false, false, false, false, false, false, false, false, false, false, false] (by kernel_rfl) rfl rfl trivial (fun hHeld => ?_); refine with_tabW spec_DrawClueValid.tab6 spec_DrawClueValid.bits6 (fun HT_ HW_ => ?_)
        generalize w41.drew = w42 at HO144 HO148 HI141 HB hHeld ⊢
        refine pure_ (i := 0) (N := some 23) (v := ?_) (a' := ?_) #[true, false, false, false, false, false, false, false, false, false, false, false, false, false, false] rfl rfl (any_of HT_.out (by kernel_rfl)) (fun _ _ _ h => h) (Or.inl ⟨by rfl, ?_⟩) ?_ ?_
        rotate_left
        · intro w'
          go_simp
          with_reducible rfl
        rotate_left
        · simp only [Act.put, List.setIfInBounds_toArray, List.set_cons_zero, List.set_cons_succ, i64_w, i32_w]
          rfl
        refine pure_ (i := 1) (N := some 24) (v := ?_) (a' := ?_) #[true, true, false, false, false, false, false, false, false, false, false, false, false, false, false] rfl rfl (any_of HT_.out (by kernel_rfl)) (fun _ _ _ h => h) (Or.inl ⟨by rfl, ?_⟩) ?_ ?_
        rotate_left
        · intro w'
          go_simp
          with_reducible rfl
        rotate_left
        · simp only [Act.put, List.setIfInBounds_toArray, List.set_cons_zero, List.set_cons_succ, i64_w, i32_w]
          rfl
        refine pure_ (i := 3) (N := some 26) (v := ?_) (a' := ?_) #[true, true, false, true, false, false, false, false, false, false, false, false, false, false, false] rfl rfl (any_of HT_.out (by kernel_rfl)) (fun _ _ _ h => h) (Or.inl ⟨by rfl, ?_⟩) ?_ ?_
        rotate_left
        · intro w'
          go_simp
          with_reducible rfl
        rotate_left
        · simp only [Act.put, List.setIfInBounds_toArray, List.set_cons_zero, List.set_cons_succ, i64_w, i32_w]
          rfl
        refine pure_ (i := 5) (N := some 28) (v := ?_) (a' := ?_) #[true, true, false, true, false, true, false, false, false, false, false, false, false, false, false] rfl rfl (any_of HT_.out (by kernel_rfl)) (fun _ _ _ h => h) (Or.inl ⟨by rfl, ?_⟩) ?_ ?_
        rotate_left
        · intro w'
          go_simp
          with_reducible rfl
        rotate_left
        · simp only [Act.put, List.setIfInBounds_toArray, List.set_cons_zero, List.set_cons_succ, i64_w, i32_w]
          rfl
        refine pure_ (i := 9) (N := some 32) (v := ?_) (a' := ?_) #[true, true, false, true, false, true, false, false, false, true, false, false, false, false, false] rfl rfl (any_of HT_.out (by kernel_rfl)) (fun _ _ _ h => h) (Or.inl ⟨by rfl, ?_⟩) ?_ ?_
        rotate_left
        · intro w'
          go_simp
          with_reducible rfl
        rotate_left
        · simp only [Act.put, List.setIfInBounds_toArray, List.set_cons_zero, List.set_cons_succ, i64_w, i32_w]
          rfl
        refine inv_at [2, 4, 6, 7, 8, 10, 11, 12, 13, 14] (fun a0_ b a w' => ∃ (v171 : Value) (adz_v171 : Addr) (m11_ : Value), a = putSel a0_ b [(2, 25, .int .i64 (t142.length : Int)), (4, 27, .int .i64 (t142.length : Int)), (6, 29, .int .i64 t168), (7, 30, .int .i64 (wrap64 (1 + t168))), (8, 31, v171), (10, 33, .int .i64 t173), (11, 34, m11_), (12, 35, .int .i64 (rd y170 t173)), (13, 2, v147), (14, 3, .int .i64 (rd y170 t173))] ∧ (Kd.R Kd.bool 4 w' w.heap.size (fun _ => True) (.slice Ao39 t142.length co39) t142) ∧ (Kd.R (Kd.int .i64) 3 w' w.heap.size (fun _ => True) v147 t146) ∧ (b 6 = false → IsS58 w w' g141 t139 t150) ∧ (Below w.heap.size w w') ∧ (b 6 = true → b 10 = false → IsS58 w w' g141 t139 t169) ∧ (b 8 = true → Kd.R (Kd.int .i64) 3 w' w.heap.size (fun k_ => some k_ ≠ (v147 : Value).ownBlock) v171 y170) ∧ (b 8 = true → ∃ c_, (v171 : Value) = .slice (some adz_v171) y170.length c_) ∧ (b 10 = true → IsS58 w w' g141 t139 t174) ∧ (b 11 = true → (m11_ : Value) = .pointer (some (adz_v171.add (t173).toNat)))) HT_.out HW_.out (by kernel_rfl) (by kernel_rfl) ?_ ?_ ?_
        · exact ⟨.bool false, ⟨0, 0, none⟩, .bool false, by simp only [putSel, Bool.false_eq_true, if_false], (by first | exact HO144.out | exact Kd.R_mono HO144.out (fun _ hk => hk.2) | exact Kd.R_mono HO144.out (fun _ hk => hk.1) | exact Kd.R_mono HO144.out (fun _ _ => trivial)), (by first | exact HO148.out | exact Kd.R_mono HO148.out (fun _ hk => hk.2) | exact Kd.R_mono HO148.out (fun _ hk => hk.1) | exact Kd.R_mono HO148.out (fun _ _ => trivial)), fun _ => HI141.out, HB.out, fun h_ => absurd h_ (by decide), fun h_ => absurd h_ (by decide), fun h_ => absurd h_ (by decide), fun h_ => absurd h_ (by decide), fun h_ => absurd h_ (by decide)⟩
        · skip
          clear HB HI141 HO144 HO148
          refine steps_cons ?_ ?_
          · rintro b a w' ⟨v171, adz_v171, m11_, ha, Q_HO144, Q_HO148, Q_HI141, Q_HB, Q_HI141_e6, Q_HO172, Q_HA_HO172, Q_HI141_e10, Q_X11_⟩ hb_ hon hoff
            refine ⟨_, rfl, fun K hK => ?_⟩
            have e24 : a.tmps[24]? = some (.slice Ao39 t142.length co39) := by rw [ha]; exact (putSel_off rfl).trans rfl
            replace ha := Aside0.mk ha
            have HO144 := Aside0.mk Q_HO144
            have HO148 := Aside0.mk Q_HO148
            have HB := Aside0.mk Q_HB
            refine value_ (w1 := w') (v := .int .i64 (t142.length : Int)) (by rfl) rfl ?_ ?_
            · go_simp
              (try simp only [i64_w])
              try rfl
            refine hK.out _ _ ⟨v171, adz_v171, m11_, (by rw [ha.out]; exact putSel_upk 0 hb_ rfl rfl rfl), Q_HO144, Q_HO148, Q_HI141, Q_HB, Q_HI141_e6, fun h0_ => absurd ((hoff 8 (by kernel_rfl)).symm.trans h0_) (by decide), fun h0_ => absurd ((hoff 8 (by kernel_rfl)).symm.trans h0_) (by decide), Q_HI141_e10, fun h0_ => absurd ((hoff 11 (by kernel_rfl)).symm.trans h0_) (by decide)⟩
          refine steps_cons ?_ ?_
          · rintro b a w' ⟨v171, adz_v171, m11_, ha, Q_HO144, Q_HO148, Q_HI141, Q_HB, Q_HI141_e6, Q_HO172, Q_HA_HO172, Q_HI141_e10, Q_X11_⟩ hb_ hon hoff
            refine ⟨_, rfl, fun K hK => ?_⟩
            have e26 : a.tmps[26]? = some (.slice Ao39 t142.length co39) := by rw [ha]; exact (putSel_off rfl).trans rfl
            replace ha := Aside0.mk ha
            have HO144 := Aside0.mk Q_HO144
            have HO148 := Aside0.mk Q_HO148
            have HB := Aside0.mk Q_HB
            refine value_ (w1 := w') (v := .int .i64 (t142.length : Int)) (by rfl) rfl ?_ ?_
            · go_simp
              (try simp only [i64_w])
              try rfl
            refine hK.out _ _ ⟨v171, adz_v171, m11_, (by rw [ha.out]; exact putSel_upk 1 hb_ rfl rfl rfl), Q_HO144, Q_HO148, Q_HI141, Q_HB, Q_HI141_e6, fun h0_ => absurd ((hoff 8 (by kernel_rfl)).symm.trans h0_) (by decide), fun h0_ => absurd ((hoff 8 (by kernel_rfl)).symm.trans h0_) (by decide), Q_HI141_e10, fun h0_ => absurd ((hoff 11 (by kernel_rfl)).symm.trans h0_) (by decide)⟩
          refine steps_cons ?_ ?_
          · rintro b a w' ⟨v171, adz_v171, m11_, ha, Q_HO144, Q_HO148, Q_HI141, Q_HB, Q_HI141_e6, Q_HO172, Q_HA_HO172, Q_HI141_e10, Q_X11_⟩ hb_ hon hoff
            refine ⟨_, rfl, fun K hK => ?_⟩
            have e28 : a.tmps[28]? = some (.pointer (some ⟨g141, 0, none⟩)) := by rw [ha]; exact (putSel_off rfl).trans rfl
            replace ha := Aside0.mk ha
            have HO144 := Aside0.mk Q_HO144
            have HO148 := Aside0.mk Q_HO148
            have HI141 := Aside0.mk (Q_HI141 hb_)
            have HB := Aside0.mk Q_HB
            refine goes_ Try.func45 (by kernel_rfl) rfl #[.pointer (some ⟨g141, 0, none⟩), .int .i64 8] (by rfl) rfl rfl (by first | (simp only [List.map_toArray, List.map_cons, List.map_nil, Act.eval, Array.getD_eq_getD_getElem?, Option.getD_some, e28]; done) | (simp only [List.map_toArray, List.map_cons, List.map_nil, Act.eval, Array.getD_eq_getD_getElem?, Option.getD_some, e28]; rfl)) ?_
            with_reducible refine (spec_l20Rd_pick.calls k g141 t139 t150 8 t168 t169 w _ ?side1 ?side2 A33.out).mono ?_
            (case side1 => repeat (first | (with_reducible first | exact HI141.out | apply IsS58.alloc | apply IsS58.drewN | apply IsS58.drew | apply IsS58.set_1) | exact HI141.out))
            (case side2 => repeat (first | (with_reducible first | exact HB.out | apply below_alloc | apply pw_below_drewN | apply below_drew1 | refine below_set ?_ (IsS58.ge HI141.out)) | exact HB.out))
            rintro e w43 ⟨rfl, hi, hb, hk⟩
            refine ⟨_, rfl, ?_⟩
            have n0_ := Aside0.mk (Kd.R_mono (Kd.R_keep (IsS58.apart (show IsS58 w _ g141 t139 t150 from by repeat (first | (with_reducible first | exact HI141.out | apply IsS58.alloc | apply IsS58.drewN | apply IsS58.drew | apply IsS58.set_1) | exact HI141.out)) (by (with_reducible repeat (first | apply Kd.R_alloc | apply Kd.R_drewN | apply Kd.R_drew)); (first | exact HO144.out | exact Kd.R_mono HO144.out (fun _ hk => hk.2) | exact Kd.R_mono HO144.out (fun _ hk => hk.1) | exact Kd.R_mono HO144.out (fun _ _ => trivial))) (by decide)) hk (fun _ h => h.2)) (fun _ h => h.1))
            have n1_ := Aside0.mk (Kd.R_mono (Kd.R_keep (IsS58.apart (show IsS58 w _ g141 t139 t150 from by repeat (first | (with_reducible first | exact HI141.out | apply IsS58.alloc | apply IsS58.drewN | apply IsS58.drew | apply IsS58.set_1) | exact HI141.out)) (by (with_reducible repeat (first | apply Kd.R_alloc | apply Kd.R_drewN | apply Kd.R_drew)); (first | exact HO148.out | exact Kd.R_mono HO148.out (fun _ hk => hk.2) | exact Kd.R_mono HO148.out (fun _ hk => hk.1) | exact Kd.R_mono HO148.out (fun _ _ => trivial))) (by decide)) hk (fun _ h => h.2)) (fun _ h => h.1))
            have n2_ := Aside0.mk (hb)
            have n3_ := Aside0.mk (hi)
            clear HO144
            clear HO148
            clear HB
            clear HI141
            have HO144 := n0_
            have HO148 := n1_
            have HB := n2_
            have HI141 := n3_
            clear n0_ n1_ n2_ n3_
            (try clear hb)
            (try clear hb2)
            (try clear hk)
            (try clear hi)
            refine hK.out _ _ ⟨v171, adz_v171, m11_, (by rw [ha.out]; exact putSel_upk 2 hb_ rfl rfl rfl), (by (with_reducible repeat (first | apply Kd.R_alloc | apply Kd.R_drewN | apply Kd.R_drew)); (first | exact HO144.out | exact Kd.R_mono HO144.out (fun _ hk => hk.2) | exact Kd.R_mono HO144.out (fun _ hk => hk.1) | exact Kd.R_mono HO144.out (fun _ _ => trivial))), (by (with_reducible repeat (first | apply Kd.R_alloc | apply Kd.R_drewN | apply Kd.R_drew)); (first | exact HO148.out | exact Kd.R_mono HO148.out (fun _ hk => hk.2) | exact Kd.R_mono HO148.out (fun _ hk => hk.1) | exact Kd.R_mono HO148.out (fun _ _ => trivial))), fun h0_ => absurd ((up_self b 6).symm.trans h0_) (by decide), (by repeat (first | (with_reducible first | exact HB.out | apply below_alloc | apply pw_below_drewN | apply below_drew1 | refine below_set ?_ (IsS58.ge HI141.out)) | exact HB.out)), fun _ _ => (by repeat (first | (with_reducible first | exact HI141.out | apply IsS58.alloc | apply IsS58.drewN | apply IsS58.drew | apply IsS58.set_1) | exact HI141.out)), fun h0_ => absurd ((hoff 8 (by kernel_rfl)).symm.trans h0_) (by decide), fun h0_ => absurd ((hoff 8 (by kernel_rfl)).symm.trans h0_) (by decide), fun h0_ => absurd ((hoff 10 (by kernel_rfl)).symm.trans h0_) (by decide), fun h0_ => absurd ((hoff 11 (by kernel_rfl)).symm.trans h0_) (by decide)⟩
          refine steps_cons ?_ ?_
          · rintro b a w' ⟨v171, adz_v171, m11_, ha, Q_HO144, Q_HO148, Q_HI141, Q_HB, Q_HI141_e6, Q_HO172, Q_HA_HO172, Q_HI141_e10, Q_X11_⟩ hb_ hon hoff
            refine ⟨_, rfl, fun K hK => ?_⟩
            have e29 : a.tmps[29]? = some (.int .i64 t168) := by rw [ha]; exact putSel_on (e := (6, 29, .int .i64 t168)) 2 rfl rfl (hon 6 (by kernel_rfl)) rfl
            replace ha := Aside0.mk ha
            have HO144 := Aside0.mk Q_HO144
            have HO148 := Aside0.mk Q_HO148
            have HB := Aside0.mk Q_HB
            refine value_ (w1 := w') (v := .int .i64 (wrap64 (1 + t168))) (by rfl) rfl ?_ ?_
            · go_simp
              (try simp only [i64_w])
              try rfl
            refine hK.out _ _ ⟨v171, adz_v171, m11_, (by rw [ha.out]; exact putSel_upk 3 hb_ rfl rfl rfl), Q_HO144, Q_HO148, fun h0_ => absurd ((hon 6 (by kernel_rfl)).symm.trans h0_) (by decide), Q_HB, Q_HI141_e6, fun h0_ => absurd ((hoff 8 (by kernel_rfl)).symm.trans h0_) (by decide), fun h0_ => absurd ((hoff 8 (by kernel_rfl)).symm.trans h0_) (by decide), Q_HI141_e10, fun h0_ => absurd ((hoff 11 (by kernel_rfl)).symm.trans h0_) (by decide)⟩
          refine steps_cons ?_ ?_
          · rintro b a w' ⟨v171, adz_v171, m11_, ha, Q_HO144, Q_HO148, Q_HI141, Q_HB, Q_HI141_e6, Q_HO172, Q_HA_HO172, Q_HI141_e10, Q_X11_⟩ hb_ hon hoff
            refine ⟨_, rfl, fun K hK => ?_⟩
            have e25 : a.tmps[25]? = some (.int .i64 (t142.length : Int)) := by rw [ha]; exact putSel_on (e := (2, 25, .int .i64 (t142.length : Int))) 0 rfl rfl (hon 2 (by kernel_rfl)) rfl
            have e27 : a.tmps[27]? = some (.int .i64 (t142.length : Int)) := by rw [ha]; exact putSel_on (e := (4, 27, .int .i64 (t142.length : Int))) 1 rfl rfl (hon 4 (by kernel_rfl)) rfl
            have e30 : a.tmps[30]? = some (.int .i64 (wrap64 (1 + t168))) := by rw [ha]; exact putSel_on (e := (7, 30, .int .i64 (wrap64 (1 + t168)))) 3 rfl rfl (hon 7 (by kernel_rfl)) rfl
            replace ha := Aside0.mk ha
            have HO144 := Aside0.mk Q_HO144
            have HO148 := Aside0.mk Q_HO148
            have HB := Aside0.mk Q_HB
            refine Kd.R_lit_step (Kd.int .i64) _ 3 ?hg (N := 31) ?hd (xs := ([(t142.length : Int), (t142.length : Int), 0, 9, wrap64 (1 + t168)] : List Int)) (inner := [.int .i64 (t142.length : Int), .int .i64 (t142.length : Int), .int .i64 0, .int .i64 9, .int .i64 (wrap64 (1 + t168))]) (ok := fun _ => True) (okp := fun _ => True) ?hr ?hp (fun _ hk => hk) trivial (Below.refl _ _) (Nat.le_refl _) (by simp) ?_; (case hd => rfl); (case hg => rfl); (case hr => first | (go_simp; done) | (go_simp; rfl)); (case hp => exact (Reps.one (show Kd.M (Kd.int .i64) _ _ _ (t142.length : Int) [.int .i64 (t142.length : Int)] from rfl) (Reps.one (show Kd.M (Kd.int .i64) _ _ _ (t142.length : Int) [.int .i64 (t142.length : Int)] from rfl) (Reps.one (show Kd.M (Kd.int .i64) _ _ _ 0 [.int .i64 0] from rfl) (Reps.one (show Kd.M (Kd.int .i64) _ _ _ 9 [.int .i64 9] from rfl) (Reps.one (show Kd.M (Kd.int .i64) _ _ _ (wrap64 (1 + t168)) [.int .i64 (wrap64 (1 + t168))] from rfl) (Reps.none _ _)))))))
            intro v171 w45 ho46 hb hg_ hnew_
            clear hg_ hnew_
            (first | rw [← Ny170.out] at ho46 | (simp only [Int.reduceToNat] at ho46; rw [← Ny170.out] at ho46))
            have n0_ := Aside0.mk (Kd.R_below (by (with_reducible repeat (first | apply Kd.R_alloc | apply Kd.R_drewN | apply Kd.R_drew)); (first | exact HO144.out | exact Kd.R_mono HO144.out (fun _ hk => hk.2) | exact Kd.R_mono HO144.out (fun _ hk => hk.1) | exact Kd.R_mono HO144.out (fun _ _ => trivial))) hb)
            have n1_ := Aside0.mk (Kd.R_elder' (by (with_reducible repeat (first | apply Kd.R_alloc | apply Kd.R_drewN | apply Kd.R_drew)); (first | exact HO148.out | exact Kd.R_mono HO148.out (fun _ hk => hk.2) | exact Kd.R_mono HO148.out (fun _ hk => hk.1) | exact Kd.R_mono HO148.out (fun _ _ => trivial))) (Kd.R_base ho46) hb)
            have n2_ := Aside0.mk (Kd.R_lower (Kd.R_new' ho46 (Kd.R_lt (by (with_reducible repeat (first | apply Kd.R_alloc | apply Kd.R_drewN | apply Kd.R_drew)); (first | exact HO148.out | exact Kd.R_mono HO148.out (fun _ hk => hk.2) | exact Kd.R_mono HO148.out (fun _ hk => hk.1) | exact Kd.R_mono HO148.out (fun _ _ => trivial))))) (below_size (by repeat (first | (with_reducible first | exact HB.out | apply below_alloc | apply pw_below_drewN | apply below_drew1) | exact HB.out))))
            have n4_ := Aside0.mk (below_step (by repeat (first | (with_reducible first | exact HB.out | apply below_alloc | apply pw_below_drewN | apply below_drew1) | exact HB.out)) hb)
            have z_HI141_e6 := fun (h0_ : b 6 = true) (h1_ : b 10 = false) => (show IsS58 w w45 g141 t139 t169 from by first | exact (IsS58.below (by repeat (first | (with_reducible first | exact (Q_HI141_e6 h0_ h1_) | apply IsS58.alloc | apply IsS58.drewN | apply IsS58.drew | apply IsS58.set_1) | exact (Q_HI141_e6 h0_ h1_))) hb))
            have z_HI141_e10 := fun (h0_ : b 10 = true) => (show IsS58 w w45 g141 t139 t174 from by first | exact (IsS58.below (by repeat (first | (with_reducible first | exact (Q_HI141_e10 h0_) | apply IsS58.alloc | apply IsS58.drewN | apply IsS58.drew | apply IsS58.set_1) | exact (Q_HI141_e10 h0_))) hb))
            clear HO144
            clear HO148
            clear HB
            have HO144 := n0_
            have HO148 := n1_
            have HO172 := n2_
            have HB := n4_
            clear n0_ n1_ n2_ n4_
            clear hb ho46
            obtain ⟨Ao47, co47, eo47⟩ := Kd.R_slice HO172.out
            subst eo47
            obtain ⟨ado47, fo47, _⟩ := Kd.at_int (Kd.R_reads' HO172.out).2.2 0 (by decide) (by rw [Ny170.out]; simp)
            cases fo47
            refine hK.out _ _ ⟨.slice (some ado47) y170.length co47, ado47, m11_, (by rw [ha.out]; exact putSel_upk 4 hb_ rfl rfl rfl), (by (with_reducible repeat (first | apply Kd.R_alloc | apply Kd.R_drewN | apply Kd.R_drew)); (first | exact HO144.out | exact Kd.R_mono HO144.out (fun _ hk => hk.2) | exact Kd.R_mono HO144.out (fun _ hk => hk.1) | exact Kd.R_mono HO144.out (fun _ _ => trivial))), (by (with_reducible repeat (first | apply Kd.R_alloc | apply Kd.R_drewN | apply Kd.R_drew)); (first | exact HO148.out | exact Kd.R_mono HO148.out (fun _ hk => hk.2) | exact Kd.R_mono HO148.out (fun _ hk => hk.1) | exact Kd.R_mono HO148.out (fun _ _ => trivial))), fun h0_ => absurd ((hon 6 (by kernel_rfl)).symm.trans h0_) (by decide), (by repeat (first | (with_reducible first | exact HB.out | apply below_alloc | apply pw_below_drewN | apply below_drew1) | exact HB.out)), z_HI141_e6, fun _ => (by (with_reducible repeat (first | apply Kd.R_alloc | apply Kd.R_drewN | apply Kd.R_drew)); (first | exact HO172.out | exact Kd.R_mono HO172.out (fun _ hk => hk.2) | exact Kd.R_mono HO172.out (fun _ hk => hk.1) | exact Kd.R_mono HO172.out (fun _ _ => trivial))), fun _ => ⟨_, rfl⟩, z_HI141_e10, fun h0_ => absurd ((hoff 11 (by kernel_rfl)).symm.trans h0_) (by decide)⟩
          refine steps_cons ?_ ?_
          · rintro b a w' ⟨v171, adz_v171, m11_, ha, Q_HO144, Q_HO148, Q_HI141, Q_HB, Q_HI141_e6, Q_HO172, Q_HA_HO172, Q_HI141_e10, Q_X11_⟩ hb_ hon hoff
            refine ⟨_, rfl, fun K hK => ?_⟩
            have e32 : a.tmps[32]? = some (.pointer (some ⟨g141, 0, none⟩)) := by rw [ha]; exact (putSel_off rfl).trans rfl
            replace ha := Aside0.mk ha
            have HO144 := Aside0.mk Q_HO144
            have HO148 := Aside0.mk Q_HO148
            have HB := Aside0.mk Q_HB
            have HI141 := Aside0.mk (Q_HI141_e6 (hon 6 (by kernel_rfl)) hb_)
            refine goes_ Try.func45 (by kernel_rfl) rfl #[.pointer (some ⟨g141, 0, none⟩), .int .i64 5] (by rfl) rfl rfl (by first | (simp only [List.map_toArray, List.map_cons, List.map_nil, Act.eval, Array.getD_eq_getD_getElem?, Option.getD_some, e32]; done) | (simp only [List.map_toArray, List.map_cons, List.map_nil, Act.eval, Array.getD_eq_getD_getElem?, Option.getD_some, e32]; rfl)) ?_
            with_reducible refine (spec_l20Rd_pick.calls k g141 t139 t169 5 t173 t174 w _ ?side1 ?side2 A34.out).mono ?_
            (case side1 => repeat (first | (with_reducible first | exact HI141.out | apply IsS58.alloc | apply IsS58.drewN | apply IsS58.drew | apply IsS58.set_1) | exact HI141.out))
            (case side2 => repeat (first | (with_reducible first | exact HB.out | apply below_alloc | apply pw_below_drewN | apply below_drew1 | refine below_set ?_ (IsS58.ge HI141.out)) | exact HB.out))
            rintro e w45 ⟨rfl, hi, hb, hk⟩
            refine ⟨_, rfl, ?_⟩
            have n0_ := Aside0.mk (Kd.R_mono (Kd.R_keep (IsS58.apart (show IsS58 w _ g141 t139 t169 from by repeat (first | (with_reducible first | exact HI141.out | apply IsS58.alloc | apply IsS58.drewN | apply IsS58.drew | apply IsS58.set_1) | exact HI141.out)) (by (with_reducible repeat (first | apply Kd.R_alloc | apply Kd.R_drewN | apply Kd.R_drew)); (first | exact HO144.out | exact Kd.R_mono HO144.out (fun _ hk => hk.2) | exact Kd.R_mono HO144.out (fun _ hk => hk.1) | exact Kd.R_mono HO144.out (fun _ _ => trivial))) (by decide)) hk (fun _ h => h.2)) (fun _ h => h.1))
            have n1_ := Aside0.mk (Kd.R_mono (Kd.R_keep (IsS58.apart (show IsS58 w _ g141 t139 t169 from by repeat (first | (with_reducible first | exact HI141.out | apply IsS58.alloc | apply IsS58.drewN | apply IsS58.drew | apply IsS58.set_1) | exact HI141.out)) (by (with_reducible repeat (first | apply Kd.R_alloc | apply Kd.R_drewN | apply Kd.R_drew)); (first | exact HO148.out | exact Kd.R_mono HO148.out (fun _ hk => hk.2) | exact Kd.R_mono HO148.out (fun _ hk => hk.1) | exact Kd.R_mono HO148.out (fun _ _ => trivial))) (by decide)) hk (fun _ h => h.2)) (fun _ h => h.1))
            have n2_ := Aside0.mk (hb)
            have n3_ := Aside0.mk (hi)
            have z_HO172 := fun (h0_ : b 8 = true) => (show Kd.R (Kd.int .i64) 3 w45 w.heap.size (fun k_ => some k_ ≠ (v147 : Value).ownBlock) v171 y170 from by first | exact (Kd.R_mono (Kd.R_keep (IsS58.apart (show IsS58 w _ g141 t139 t169 from by repeat (first | (with_reducible first | exact HI141.out | apply IsS58.alloc | apply IsS58.drewN | apply IsS58.drew | apply IsS58.set_1) | exact HI141.out)) (by (with_reducible repeat (first | apply Kd.R_alloc | apply Kd.R_drewN | apply Kd.R_drew)); exact (Q_HO172 h0_)) (by decide)) hk (fun _ h => h.2)) (fun _ h => h.1)) | exact Kd.R_mono (Kd.R_mono (Kd.R_keep (IsS58.apart (show IsS58 w _ g141 t139 t169 from by repeat (first | (with_reducible first | exact HI141.out | apply IsS58.alloc | apply IsS58.drewN | apply IsS58.drew | apply IsS58.set_1) | exact HI141.out)) (by (with_reducible repeat (first | apply Kd.R_alloc | apply Kd.R_drewN | apply Kd.R_drew)); exact (Q_HO172 h0_)) (by decide)) hk (fun _ h => h.2)) (fun _ h => h.1)) (fun _ h_ => by first | trivial | exact h_ | exact h_.1))
            clear HO144
            clear HO148
            clear HB
            clear HI141
            have HO144 := n0_
            have HO148 := n1_
            have HB := n2_
            have HI141 := n3_
            clear n0_ n1_ n2_ n3_
            (try clear hb)
            (try clear hb2)
            (try clear hk)
            (try clear hi)
            refine hK.out _ _ ⟨v171, adz_v171, m11_, (by rw [ha.out]; exact putSel_upk 5 hb_ rfl rfl rfl), (by (with_reducible repeat (first | apply Kd.R_alloc | apply Kd.R_drewN | apply Kd.R_drew)); (first | exact HO144.out | exact Kd.R_mono HO144.out (fun _ hk => hk.2) | exact Kd.R_mono HO144.out (fun _ hk => hk.1) | exact Kd.R_mono HO144.out (fun _ _ => trivial))), (by (with_reducible repeat (first | apply Kd.R_alloc | apply Kd.R_drewN | apply Kd.R_drew)); (first | exact HO148.out | exact Kd.R_mono HO148.out (fun _ hk => hk.2) | exact Kd.R_mono HO148.out (fun _ hk => hk.1) | exact Kd.R_mono HO148.out (fun _ _ => trivial))), fun h0_ => absurd ((hon 6 (by kernel_rfl)).symm.trans h0_) (by decide), (by repeat (first | (with_reducible first | exact HB.out | apply below_alloc | apply pw_below_drewN | apply below_drew1 | refine below_set ?_ (IsS58.ge HI141.out)) | exact HB.out)), fun _ h1_ => absurd ((up_self b 10).symm.trans h1_) (by decide), z_HO172, Q_HA_HO172, fun _ => (by repeat (first | (with_reducible first | exact HI141.out | apply IsS58.alloc | apply IsS58.drewN | apply IsS58.drew | apply IsS58.set_1) | exact HI141.out)), fun h0_ => absurd ((hoff 11 (by kernel_rfl)).symm.trans h0_) (by decide)⟩
          refine steps_cons ?_ ?_
          · rintro b a w' ⟨v171, adz_v171, m11_, ha, Q_HO144, Q_HO148, Q_HI141, Q_HB, Q_HI141_e6, Q_HO172, Q_HA_HO172, Q_HI141_e10, Q_X11_⟩ hb_ hon hoff
            refine ⟨_, rfl, fun K hK => ?_⟩
            have e31 : a.tmps[31]? = some (v171) := by rw [ha]; exact putSel_on (e := (8, 31, v171)) 4 rfl rfl (hon 8 (by kernel_rfl)) rfl
            have e33 : a.tmps[33]? = some (.int .i64 t173) := by rw [ha]; exact putSel_on (e := (10, 33, .int .i64 t173)) 5 rfl rfl (hon 10 (by kernel_rfl)) rfl
            replace ha := Aside0.mk ha
            have HO144 := Aside0.mk Q_HO144
            have HO148 := Aside0.mk Q_HO148
            have HB := Aside0.mk Q_HB
            have HO172 := Aside0.mk (Q_HO172 (hon 8 (by kernel_rfl)))
            have HA_HO172 := Aside0.mk (Q_HA_HO172 (hon 8 (by kernel_rfl)))
            have HI141 := Aside0.mk (Q_HI141_e10 (hon 10 (by kernel_rfl)))
            obtain ⟨c_, hv_⟩ := HA_HO172.out
            rw [hv_] at e31
            refine value_ (w1 := w') (v := .pointer (some (adz_v171.add (t173).toNat))) (by rfl) rfl ?_ ?_
            · go_simp
              (try simp only [i64_w])
              try rfl
            refine hK.out _ _ ⟨v171, adz_v171, (.pointer (some (adz_v171.add (t173).toNat))), (by rw [ha.out]; exact putSel_upk 6 hb_ rfl rfl rfl), Q_HO144, Q_HO148, fun h0_ => absurd ((hon 6 (by kernel_rfl)).symm.trans h0_) (by decide), Q_HB, fun _ h1_ => absurd ((hon 10 (by kernel_rfl)).symm.trans h1_) (by decide), Q_HO172, Q_HA_HO172, Q_HI141_e10, fun _ => rfl⟩
          refine steps_cons ?_ ?_
          · rintro b a w' ⟨v171, adz_v171, m11_, ha, Q_HO144, Q_HO148, Q_HI141, Q_HB, Q_HI141_e6, Q_HO172, Q_HA_HO172, Q_HI141_e10, Q_X11_⟩ hb_ hon hoff
            refine ⟨_, rfl, fun K hK => ?_⟩
            have e34 : a.tmps[34]? = some (m11_) := by rw [ha]; exact putSel_on (e := (11, 34, m11_)) 6 rfl rfl (hon 11 (by kernel_rfl)) rfl
            rw [Q_X11_ (hon 11 (by kernel_rfl))] at e34
            replace ha := Aside0.mk ha
            have HO144 := Aside0.mk Q_HO144
            have HO148 := Aside0.mk Q_HO148
            have HB := Aside0.mk Q_HB
            have HO172 := Aside0.mk (Q_HO172 (hon 8 (by kernel_rfl)))
            have HA_HO172 := Aside0.mk (Q_HA_HO172 (hon 8 (by kernel_rfl)))
            have HI141 := Aside0.mk (Q_HI141_e10 (hon 10 (by kernel_rfl)))
            obtain ⟨c_, hv_⟩ := HA_HO172.out
            have hF_ := HO172.out
            rw [hv_] at hF_
            obtain ⟨ad_, ea_, hx_⟩ := Kd.at_int (Kd.R_reads' hF_).2.2 t173 (of_eq_true pi175) (of_eq_true qi175)
            cases ea_
            refine value_ (w1 := w') (v := .int .i64 (rd y170 t173)) (by rfl) rfl ?_ ?_
            · go_simp
              (try simp only [i64_w])
              try rfl
            refine hK.out _ _ ⟨v171, adz_v171, m11_, (by rw [ha.out]; exact putSel_upk 7 hb_ rfl rfl rfl), Q_HO144, Q_HO148, fun h0_ => absurd ((hon 6 (by kernel_rfl)).symm.trans h0_) (by decide), Q_HB, fun _ h1_ => absurd ((hon 10 (by kernel_rfl)).symm.trans h1_) (by decide), Q_HO172, Q_HA_HO172, Q_HI141_e10, Q_X11_⟩
          refine steps_cons ?_ ?_
          · rintro b a w' ⟨v171, adz_v171, m11_, ha, Q_HO144, Q_HO148, Q_HI141, Q_HB, Q_HI141_e6, Q_HO172, Q_HA_HO172, Q_HI141_e10, Q_X11_⟩ hb_ hon hoff
            refine ⟨_, rfl, fun K hK => ?_⟩
            have e23 : a.tmps[23]? = some (v147) := by rw [ha]; exact (putSel_off rfl).trans rfl
            replace ha := Aside0.mk ha
            have HO144 := Aside0.mk Q_HO144
            have HO148 := Aside0.mk Q_HO148
            have HB := Aside0.mk Q_HB
            have HI141 := Aside0.mk (Q_HI141_e10 (hon 10 (by kernel_rfl)))
            refine value_ (w1 := w') (v := v147) (by rfl) rfl ?_ ?_
            · go_simp
              (try simp only [i64_w])
              try rfl
            refine hK.out _ _ ⟨v171, adz_v171, m11_, (by rw [ha.out]; exact putSel_upk 8 hb_ rfl rfl rfl), Q_HO144, Q_HO148, fun h0_ => absurd ((hon 6 (by kernel_rfl)).symm.trans h0_) (by decide), Q_HB, fun _ h1_ => absurd ((hon 10 (by kernel_rfl)).symm.trans h1_) (by decide), Q_HO172, Q_HA_HO172, Q_HI141_e10, Q_X11_⟩
          refine steps_cons ?_ ?_
          · rintro b a w' ⟨v171, adz_v171, m11_, ha, Q_HO144, Q_HO148, Q_HI141, Q_HB, Q_HI141_e6, Q_HO172, Q_HA_HO172, Q_HI141_e10, Q_X11_⟩ hb_ hon hoff
            refine ⟨_, rfl, fun K hK => ?_⟩
            have e35 : a.tmps[35]? = some (.int .i64 (rd y170 t173)) := by rw [ha]; exact putSel_on (e := (12, 35, .int .i64 (rd y170 t173))) 7 rfl rfl (hon 12 (by kernel_rfl)) rfl
            replace ha := Aside0.mk ha
            have HO144 := Aside0.mk Q_HO144
            have HO148 := Aside0.mk Q_HO148
            have HB := Aside0.mk Q_HB
            have HO172 := Aside0.mk (Q_HO172 (hon 8 (by kernel_rfl)))
            have HA_HO172 := Aside0.mk (Q_HA_HO172 (hon 8 (by kernel_rfl)))
            have HI141 := Aside0.mk (Q_HI141_e10 (hon 10 (by kernel_rfl)))
            refine value_ (w1 := w') (v := .int .i64 (rd y170 t173)) (by rfl) rfl ?_ ?_
            · go_simp
              (try simp only [i64_w])
              try rfl
            refine hK.out _ _ ⟨v171, adz_v171, m11_, (by rw [ha.out]; exact putSel_upk 9 hb_ rfl rfl rfl), Q_HO144, Q_HO148, fun h0_ => absurd ((hon 6 (by kernel_rfl)).symm.trans h0_) (by decide), Q_HB, fun _ h1_ => absurd ((hon 10 (by kernel_rfl)).symm.trans h1_) (by decide), Q_HO172, Q_HA_HO172, Q_HI141_e10, Q_X11_⟩
          exact steps_nil
        rintro b a w48 hall ⟨v171, adz_v171, m11_, ha, Q_HO144, Q_HO148, Q_HI141, Q_HB, Q_HI141_e6, Q_HO172, Q_HA_HO172, Q_HI141_e10, Q_X11_⟩
        clear HB HI141 HO144 HO148
        have hb2_ := hall 2 (by kernel_rfl)
        have hb4_ := hall 4 (by kernel_rfl)
        have hb6_ := hall 6 (by kernel_rfl)
        have hb7_ := hall 7 (by kernel_rfl)
        have hb8_ := hall 8 (by kernel_rfl)
        have hb10_ := hall 10 (by kernel_rfl)
        have hb11_ := hall 11 (by kernel_rfl)
        have hb12_ := hall 12 (by kernel_rfl)
        have hb13_ := hall 13 (by kernel_rfl)
        have hb14_ := hall 14 (by kernel_rfl)
        subst ha
        obtain rfl := Q_X11_ hb11_
        simp only [putSel, hb2_, hb4_, hb6_, hb7_, hb8_, hb10_, hb11_, hb12_, hb13_, hb14_, if_true, Act.put, List.setIfInBounds_toArray, List.set_cons_zero, List.set_cons_succ]
        have HO144 := Aside0.mk Q_HO144
        clear Q_HO144
        have HO148 := Aside0.mk Q_HO148
        clear Q_HO148
        clear Q_HI141
        have HB := Aside0.mk Q_HB
        clear Q_HB
        clear Q_HI141_e6
        have HO172 := Aside0.mk (Q_HO172 hb8_)
        clear Q_HO172
        have HA_HO172 := Aside0.mk (Q_HA_HO172 hb8_)
        clear Q_HA_HO172
        have HI141 := Aside0.mk (Q_HI141_e10 hb10_)
        clear Q_HI141_e10
        clear hall hb2_ hb4_ hb6_ hb7_ hb8_ hb10_ hb11_ hb12_ hb13_ hb14_
        obtain ⟨co49, eo49⟩ := HA_HO172.out
        clear HA_HO172
        subst eo49
        try go_wp2
        go_ret2
        exact ⟨_, by first | rfl | (simp [errW_none, errW_some] <;> rfl) | (simp [*, errW_none, errW_some] <;> rfl), by (with_reducible repeat (first | apply Kd.R_alloc | apply Kd.R_drewN | apply Kd.R_drew)); exact Kd.R_mono HO148.out (fun _ hk => trivial), by repeat (first | (with_reducible first | exact HB.out | apply below_alloc | apply pw_below_drewN | apply below_drew1 | refine below_set ?_ (IsS58.ge HI141.out)) | exact HB.out)⟩
      · rw [if_neg c36] at H
        exact absurd H (by simp)
    · rw [if_neg c35] at H
      exact absurd H (by simp)

end Go.Proofs.Ytnmlcbdbbnaabaa.PFnClueValid
