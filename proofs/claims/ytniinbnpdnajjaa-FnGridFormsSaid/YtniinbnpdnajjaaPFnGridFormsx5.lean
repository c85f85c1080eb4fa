-- Made by a program of this session (a changed copy of the kit print): the kit print itself does not give this text
import Derived.Test.YtniinbnpdnajjaaPFnGridFormsx0
import Derived.Test.YtniinbnpdnajjaaPFnGridFormsx1
import Derived.Test.YtniinbnpdnajjaaPFnGridFormsx4
import Derived.Test.YtniinbnpdnajjaaV1
namespace Go.Proofs.Ytniinbnpdnajjaa.PFnGridForms
open Go.RowKit Go.Proofs.YtniinbnpdnajjaaW.PrintWords Go.Proofs.YtniinbnpdnajjaaW.PrintLast Go.Proofs.YtniinbnpdnajjaaW.PrintMore
attribute [local go_sem] max2_int min2_int max_two min_two max_three min_three max_four min_four   -- for this text's walks alone
set_option linter.unusedVariables false
set_option linter.unusedSimpArgs false

/-! ### spec_l20Size: function 45 -/
def spec_l20Size.f (k : Nat) (s0_0 : List Int) (s0_1 : Int) (a1 : Int) : Option (Int × Int) := (spec_l20Rd_odd.f k s0_0 s0_1 a1).bind fun bt190 => (if bt190.1 = true then ((some (([1, 5, (-1)] : List Int) : List Int)).bind fun y192 => ((spec_l20Rd_pick.f k s0_0 bt190.2 3).bind fun bt195 => (if 0 ≤ bt195.1 then (if bt195.1 < (y192.length : Int) then (some (rd y192 bt195.1, bt195.2)) else (none)) else (none)))) else ((some (([2, 3, 3, 4, 4] : List Int) : List Int)).bind fun y198 => ((spec_l20Rd_pick.f k s0_0 bt190.2 5).bind fun bt201 => (if 0 ≤ bt201.1 then (if bt201.1 < (y198.length : Int) then (some (rd y198 bt201.1, bt201.2)) else (none)) else (none)))))
theorem spec_l20Size.mono : ∀ a0 a1 a2 k, LeO (spec_l20Size.f k a0 a1 a2) (spec_l20Size.f (k + 1) a0 a1 a2) := by
  intro a0 a1 a2 k
  unfold spec_l20Size.f
  repeat' first
      | (with_reducible exact spec_l20Rd_odd.mono _ _ _ _)
      | (with_reducible exact spec_l20Rd_pick.mono _ _ _ _)
      | (with_reducible exact LeO.refl _)
      | (with_reducible exact LeO.none _)
      | (with_reducible refine LeO.ite ?_ ?_)
      | (with_reducible refine LeO.bind ?_ (fun _ => ?_))
      | exact spec_l20Rd_odd.mono _ _ _ _
      | exact spec_l20Rd_pick.mono _ _ _ _
      | exact LeO.none _
      | refine LeO.ite ?_ ?_
      | refine LeO.bind ?_ (fun _ => ?_)
set_option maxHeartbeats 8000000 in
set_option maxRecDepth 100000 in
theorem spec_l20Size.calls (k : Nat) (g : Nat) (s0_0 : List Int) (s0_1 : Int) (a1 : Int) (r1 : Int) (r2 : Int) (w0 w : World) (hI : IsS63 w0 w g s0_0 s0_1) (hB : Below w0.heap.size w0 w) (h : spec_l20Size.f k s0_0 s0_1 a1 = some (r1, r2)) :
    Calls Try.prog 45 #[.pointer (some ⟨g, 0, none⟩), .int .i64 a1] w fun e w' => e = .returned (.int .i64 r1) ∧ IsS63 w0 w' g s0_0 r2 ∧ Below w0.heap.size w0 w' ∧ KeepBut w w' g none := by
  have HI0 := Aside0.mk hI
  have HK := Aside0.mk (KeepBut.refl w g none)
  have HL := Aside0.mk hB.size
  clear hI
  have HW0 := Aside0.mk hB.size
  have HB := Aside0.mk hB
  clear hB
  have H : ((spec_l20Rd_odd.f k s0_0 s0_1 a1).bind fun bt190 => (if bt190.1 = true then ((some (([1, 5, (-1)] : List Int) : List Int)).bind fun y192 => ((spec_l20Rd_pick.f k s0_0 bt190.2 3).bind fun bt195 => (if 0 ≤ bt195.1 then (if bt195.1 < (y192.length : Int) then (some (rd y192 bt195.1, bt195.2)) else (none)) else (none)))) else ((some (([2, 3, 3, 4, 4] : List Int) : List Int)).bind fun y198 => ((spec_l20Rd_pick.f k s0_0 bt190.2 5).bind fun bt201 => (if 0 ≤ bt201.1 then (if bt201.1 < (y198.length : Int) then (some (rd y198 bt201.1, bt201.2)) else (none)) else (none)))))) = some (r1, r2) := h
  clear h
  replace H := Option.bind_eq_some_iff.mp H
  obtain ⟨⟨t190, t191⟩, A30, H⟩ := H
  replace H : (if t190 = true then ((some (([1, 5, (-1)] : List Int) : List Int)).bind fun y192 => ((spec_l20Rd_pick.f k s0_0 t191 3).bind fun bt195 => (if 0 ≤ bt195.1 then (if bt195.1 < (y192.length : Int) then (some (rd y192 bt195.1, bt195.2)) else (none)) else (none)))) else ((some (([2, 3, 3, 4, 4] : List Int) : List Int)).bind fun y198 => ((spec_l20Rd_pick.f k s0_0 t191 5).bind fun bt201 => (if 0 ≤ bt201.1 then (if bt201.1 < (y198.length : Int) then (some (rd y198 bt201.1, bt201.2)) else (none)) else (none))))) = some (r1, r2) := H
  have A3 := Aside0.mk A30
  clear A30
  by_cases c4 : t190 = true
  · subst c4
    have H1 : ((some (([1, 5, (-1)] : List Int) : List Int)).bind fun y192 => ((spec_l20Rd_pick.f k s0_0 t191 3).bind fun bt195 => (if 0 ≤ bt195.1 then (if bt195.1 < (y192.length : Int) then (some (rd y192 bt195.1, bt195.2)) else (none)) else (none)))) = some (r1, r2) := by rw [if_pos rfl] at H; exact H
    clear H
    have H := H1
    clear H1
    obtain ⟨y192, hy192⟩ : ∃ y_ : List Int, y_ = (([1, 5, (-1)] : List Int)) := ⟨_, rfl⟩
    replace H : ((spec_l20Rd_pick.f k s0_0 t191 3).bind fun bt195 => (if 0 ≤ bt195.1 then (if bt195.1 < (y192.length : Int) then (some (rd y192 bt195.1, bt195.2)) else (none)) else (none))) = some (r1, r2) := by first | (rw [hy192]; with_reducible exact H) | (have H2_ := (Option.bind_some _ _).symm.trans H; rw [hy192]; with_reducible exact H2_) | (have H2_ := (Option.bind_some _ _).symm.trans H; with_reducible exact H2_) | with_reducible exact H | (rw [hy192]; exact H) | exact H
    have Ny192 := Aside0.mk hy192
    clear hy192
    replace H := Option.bind_eq_some_iff.mp H
    obtain ⟨⟨t195, t196⟩, A50, H⟩ := H
    replace H : (if 0 ≤ t195 then (if t195 < (y192.length : Int) then (some (rd y192 t195, t196)) else (none)) else (none)) = some (r1, r2) := H
    have A5 := Aside0.mk A50
    clear A50
    by_cases c6 : 0 ≤ t195
    · rw [if_pos c6] at H
      have c6b0 : decide (0 ≤ t195) = true := decide_eq_true c6
      clear c6
      by_cases c7 : t195 < (y192.length : Int)
      · rw [if_pos c7] at H
        have c7b0 : decide (t195 < (y192.length : Int)) = true := decide_eq_true c7
        clear c7
        simp only [Option.some.injEq, Prod.mk.injEq] at H
        obtain ⟨rfl, rfl⟩ := H
        go_enter Try.func45, Try.ntmps45
        go_wp2_with (first | ((with_reducible refine gate_callee (f := 69) rfl ?_); refine goesL_ (some 7) rfl rfl Try.func69 (by kernel_rfl) rfl #[.pointer (some ⟨g, 0, none⟩), .int .i64 a1] rfl (by (try simp only [List.map_toArray, List.map_cons, List.map_nil]); first | done | rfl | (simp only [List.length_drop, List.length_take]; rfl)) ?_; (with_reducible refine (spec_l20Rd_odd.calls k g s0_0 s0_1 a1 true t191 w0 _ ?side1 ?side2 A3.out).mono ?_); (case side1 => repeat (first | (with_reducible first | exact HI0.out | apply IsS63.alloc | apply IsS63.drewN | apply IsS63.drew | apply IsS63.set_1) | exact HI0.out)); (case side2 => repeat (first | (with_reducible first | exact HB.out | apply below_alloc | apply pw_below_drewN | apply below_drew1 | refine below_set ?_ (IsS63.ge HI0.out)) | exact HB.out)); rintro e w8 ⟨rfl, hi, hb, hk⟩; refine ⟨_, rfl, ?_⟩; have n0_ := Aside0.mk (KeepBut.trans (by repeat (first | (with_reducible first | exact HK.out | apply KeepBut.set_ | apply keep_drewN | apply keep_drew | apply keep_alloc) | exact HK.out)) hk (.inl rfl)); have n1_ := Aside0.mk (hb); have n2_ := Aside0.mk (hi); clear HK; clear HB; clear HI0; have HK := n0_; have HB := n1_; have HI0 := n2_; clear n0_ n1_ n2_; (try clear hb); (try clear hb2); (try clear hk); (try clear hi)) | ((with_reducible refine gate_dst (N := 8) rfl ?_); refine Kd.R_lit (Kd.int .i64) _ 3 ?hg (N := 8) ?hd (xs := ([1, 5, (-1)] : List Int)) (inner := [.int .i64 1, .int .i64 5, .int .i64 (-1)]) (ok := fun _ => True) (okp := fun _ => True) ?hr ?hp (fun _ hk => hk) trivial (Below.refl _ _) (Nat.le_refl _) (by simp) ?_; (case hd => rfl); (case hg => rfl); (case hr => first | (go_simp; done) | (go_simp; rfl)); (case hp => exact (Reps.one (show Kd.M (Kd.int .i64) _ _ _ 1 [.int .i64 1] from rfl) (Reps.one (show Kd.M (Kd.int .i64) _ _ _ 5 [.int .i64 5] from rfl) (Reps.one (show Kd.M (Kd.int .i64) _ _ _ (-1) [.int .i64 (-1)] from rfl) (Reps.none _ _))))); intro v193 w9 ho10 hb hg_ hnew_; clear hg_ hnew_; (first | rw [← Ny192.out] at ho10 | (simp only [Int.reduceToNat] at ho10; rw [← Ny192.out] at ho10)); have n0_ := Aside0.mk (Kd.R_lower ho10 (keep_size (w := w) (g := g) (row := none) (by repeat (first | (with_reducible first | exact HK.out | apply KeepBut.set_ | apply keep_drewN | apply keep_drew | apply keep_alloc) | exact HK.out)))); have n1_ := Aside0.mk (IsS63.below (by repeat (first | (with_reducible first | exact HI0.out | apply IsS63.alloc | apply IsS63.drewN | apply IsS63.drew | apply IsS63.set_1) | exact HI0.out)) hb); have n2_ := Aside0.mk (KeepBut.trans (by repeat (first | (with_reducible first | exact HK.out | apply KeepBut.set_ | apply keep_drewN | apply keep_drew | apply keep_alloc) | exact HK.out)) (KeepBut.of_below hb g none) (.inl rfl)); have n3_ := Aside0.mk (below_step (by repeat (first | (with_reducible first | exact HB.out | apply below_alloc | apply pw_below_drewN | apply below_drew1 | refine below_set ?_ (IsS63.ge HI0.out)) | exact HB.out)) hb); clear HI0; clear HK; clear HB; have HO194 := n0_; have HI0 := n1_; have HK := n2_; have HB := n3_; clear n0_ n1_ n2_ n3_; clear hb ho10) | ((with_reducible refine gate_callee (f := 46) rfl ?_); refine goesL_ (some 10) rfl rfl Try.func46 (by kernel_rfl) rfl #[.pointer (some ⟨g, 0, none⟩), .int .i64 3] rfl (by (try simp only [List.map_toArray, List.map_cons, List.map_nil]); first | done | rfl | (simp only [List.length_drop, List.length_take]; rfl)) ?_; (with_reducible refine (spec_l20Rd_pick.calls k g s0_0 t191 3 t195 t196 w0 _ ?side1 ?side2 A5.out).mono ?_); (case side1 => repeat (first | (with_reducible first | exact HI0.out | apply IsS63.alloc | apply IsS63.drewN | apply IsS63.drew | apply IsS63.set_1) | exact HI0.out)); (case side2 => repeat (first | (with_reducible first | exact HB.out | apply below_alloc | apply pw_below_drewN | apply below_drew1 | refine below_set ?_ (IsS63.ge HI0.out)) | exact HB.out)); rintro e w11 ⟨rfl, hi, hb, hk⟩; refine ⟨_, rfl, ?_⟩; have n0_ := Aside0.mk (Kd.R_mono (Kd.R_keep (IsS63.apart (show IsS63 w0 _ g s0_0 t191 from by repeat (first | (with_reducible first | exact HI0.out | apply IsS63.alloc | apply IsS63.drewN | apply IsS63.drew | apply IsS63.set_1) | exact HI0.out)) (by (with_reducible repeat (first | apply Kd.R_alloc | apply Kd.R_drewN | apply Kd.R_drew)); exact HO194.out) (by decide)) hk (fun _ h => h.2)) (fun _ h => h.1)); have n1_ := Aside0.mk (KeepBut.trans (by repeat (first | (with_reducible first | exact HK.out | apply KeepBut.set_ | apply keep_drewN | apply keep_drew | apply keep_alloc) | exact HK.out)) hk (.inl rfl)); have n2_ := Aside0.mk (hb); have n3_ := Aside0.mk (hi); clear HO194; clear HK; clear HB; clear HI0; have HO194 := n0_; have HK := n1_; have HB := n2_; have HI0 := n3_; clear n0_ n1_ n2_ n3_; (try clear hb); (try clear hb2); (try clear hk); (try clear hi); obtain ⟨Ao12, co12, eo12⟩ := Kd.R_slice HO194.out; subst eo12; have p197 : 0 ≤ (t195 : Int) := of_decide_eq_true (by first | (with_reducible assumption) | assumption); have q197 : t195 < (y192.length : Int) := of_decide_eq_true (by first | (with_reducible assumption) | assumption); obtain ⟨ad197, e197, hx197_0⟩ := Kd.at_int (Kd.R_reads' HO194.out).2.2 t195 p197 q197; cases e197; replace p197 := eq_true p197; replace q197 := eq_true q197))
        go_ret
        exact ⟨by first | rfl | (simp [errW_none, errW_some] <;> rfl) | (simp [*, errW_none, errW_some] <;> rfl), by repeat (first | (with_reducible first | exact HI0.out | apply IsS63.alloc | apply IsS63.drewN | apply IsS63.drew | apply IsS63.set_1) | exact HI0.out), by repeat (first | (with_reducible first | exact HB.out | apply below_alloc | apply pw_below_drewN | apply below_drew1 | refine below_set ?_ (IsS63.ge HI0.out)) | exact HB.out), by repeat (first | (with_reducible first | exact HK.out | apply KeepBut.set_ | apply keep_drewN | apply keep_drew | apply keep_alloc) | exact HK.out)⟩
      · rw [if_neg c7] at H
        exact absurd H (by simp)
    · rw [if_neg c6] at H
      exact absurd H (by simp)
  · replace c4 := Bool.eq_false_iff.mpr c4
    subst c4
    have H1 : ((some (([2, 3, 3, 4, 4] : List Int) : List Int)).bind fun y198 => ((spec_l20Rd_pick.f k s0_0 t191 5).bind fun bt201 => (if 0 ≤ bt201.1 then (if bt201.1 < (y198.length : Int) then (some (rd y198 bt201.1, bt201.2)) else (none)) else (none)))) = some (r1, r2) := by rw [if_neg (show ¬ (false = true) by decide)] at H; exact H
    clear H
    have H := H1
    clear H1
    obtain ⟨y198, hy198⟩ : ∃ y_ : List Int, y_ = (([2, 3, 3, 4, 4] : List Int)) := ⟨_, rfl⟩
    replace H : ((spec_l20Rd_pick.f k s0_0 t191 5).bind fun bt201 => (if 0 ≤ bt201.1 then (if bt201.1 < (y198.length : Int) then (some (rd y198 bt201.1, bt201.2)) else (none)) else (none))) = some (r1, r2) := by first | (rw [hy198]; with_reducible exact H) | (have H2_ := (Option.bind_some _ _).symm.trans H; rw [hy198]; with_reducible exact H2_) | (have H2_ := (Option.bind_some _ _).symm.trans H; with_reducible exact H2_) | with_reducible exact H | (rw [hy198]; exact H) | exact H
    have Ny198 := Aside0.mk hy198
    clear hy198
    replace H := Option.bind_eq_some_iff.mp H
    obtain ⟨⟨t201, t202⟩, A130, H⟩ := H
    replace H : (if 0 ≤ t201 then (if t201 < (y198.length : Int) then (some (rd y198 t201, t202)) else (none)) else (none)) = some (r1, r2) := H
    have A13 := Aside0.mk A130
    clear A130
    by_cases c14 : 0 ≤ t201
    · rw [if_pos c14] at H
      have c14b0 : decide (0 ≤ t201) = true := decide_eq_true c14
      clear c14
      by_cases c15 : t201 < (y198.length : Int)
      · rw [if_pos c15] at H
        have c15b0 : decide (t201 < (y198.length : Int)) = true := decide_eq_true c15
        clear c15
        simp only [Option.some.injEq, Prod.mk.injEq] at H
        obtain ⟨rfl, rfl⟩ := H
        go_enter Try.func45, Try.ntmps45
        go_wp2_with (first | ((with_reducible refine gate_callee (f := 69) rfl ?_); refine goesL_ (some 7) rfl rfl Try.func69 (by kernel_rfl) rfl #[.pointer (some ⟨g, 0, none⟩), .int .i64 a1] rfl (by (try simp only [List.map_toArray, List.map_cons, List.map_nil]); first | done | rfl | (simp only [List.length_drop, List.length_take]; rfl)) ?_; (with_reducible refine (spec_l20Rd_odd.calls k g s0_0 s0_1 a1 false t191 w0 _ ?side1 ?side2 A3.out).mono ?_); (case side1 => repeat (first | (with_reducible first | exact HI0.out | apply IsS63.alloc | apply IsS63.drewN | apply IsS63.drew | apply IsS63.set_1) | exact HI0.out)); (case side2 => repeat (first | (with_reducible first | exact HB.out | apply below_alloc | apply pw_below_drewN | apply below_drew1 | refine below_set ?_ (IsS63.ge HI0.out)) | exact HB.out)); rintro e w16 ⟨rfl, hi, hb, hk⟩; refine ⟨_, rfl, ?_⟩; have n0_ := Aside0.mk (KeepBut.trans (by repeat (first | (with_reducible first | exact HK.out | apply KeepBut.set_ | apply keep_drewN | apply keep_drew | apply keep_alloc) | exact HK.out)) hk (.inl rfl)); have n1_ := Aside0.mk (hb); have n2_ := Aside0.mk (hi); clear HK; clear HB; clear HI0; have HK := n0_; have HB := n1_; have HI0 := n2_; clear n0_ n1_ n2_; (try clear hb); (try clear hb2); (try clear hk); (try clear hi)) | ((with_reducible refine gate_dst (N := 13) rfl ?_); refine Kd.R_lit (Kd.int .i64) _ 3 ?hg (N := 13) ?hd (xs := ([2, 3, 3, 4, 4] : List Int)) (inner := [.int .i64 2, .int .i64 3, .int .i64 3, .int .i64 4, .int .i64 4]) (ok := fun _ => True) (okp := fun _ => True) ?hr ?hp (fun _ hk => hk) trivial (Below.refl _ _) (Nat.le_refl _) (by simp) ?_; (case hd => rfl); (case hg => rfl); (case hr => first | (go_simp; done) | (go_simp; rfl)); (case hp => exact (Reps.one (show Kd.M (Kd.int .i64) _ _ _ 2 [.int .i64 2] from rfl) (Reps.one (show Kd.M (Kd.int .i64) _ _ _ 3 [.int .i64 3] from rfl) (Reps.one (show Kd.M (Kd.int .i64) _ _ _ 3 [.int .i64 3] from rfl) (Reps.one (show Kd.M (Kd.int .i64) _ _ _ 4 [.int .i64 4] from rfl) (Reps.one (show Kd.M (Kd.int .i64) _ _ _ 4 [.int .i64 4] from rfl) (Reps.none _ _))))))); intro v199 w17 ho18 hb hg_ hnew_; clear hg_ hnew_; (first | rw [← Ny198.out] at ho18 | (simp only [Int.reduceToNat] at ho18; rw [← Ny198.out] at ho18)); have n0_ := Aside0.mk (Kd.R_lower ho18 (keep_size (w := w) (g := g) (row := none) (by repeat (first | (with_reducible first | exact HK.out | apply KeepBut.set_ | apply keep_drewN | apply keep_drew | apply keep_alloc) | exact HK.out)))); have n1_ := Aside0.mk (IsS63.below (by repeat (first | (with_reducible first | exact HI0.out | apply IsS63.alloc | apply IsS63.drewN | apply IsS63.drew | apply IsS63.set_1) | exact HI0.out)) hb); have n2_ := Aside0.mk (KeepBut.trans (by repeat (first | (with_reducible first | exact HK.out | apply KeepBut.set_ | apply keep_drewN | apply keep_drew | apply keep_alloc) | exact HK.out)) (KeepBut.of_below hb g none) (.inl rfl)); have n3_ := Aside0.mk (below_step (by repeat (first | (with_reducible first | exact HB.out | apply below_alloc | apply pw_below_drewN | apply below_drew1 | refine below_set ?_ (IsS63.ge HI0.out)) | exact HB.out)) hb); clear HI0; clear HK; clear HB; have HO200 := n0_; have HI0 := n1_; have HK := n2_; have HB := n3_; clear n0_ n1_ n2_ n3_; clear hb ho18) | ((with_reducible refine gate_callee (f := 46) rfl ?_); refine goesL_ (some 15) rfl rfl Try.func46 (by kernel_rfl) rfl #[.pointer (some ⟨g, 0, none⟩), .int .i64 5] rfl (by (try simp only [List.map_toArray, List.map_cons, List.map_nil]); first | done | rfl | (simp only [List.length_drop, List.length_take]; rfl)) ?_; (with_reducible refine (spec_l20Rd_pick.calls k g s0_0 t191 5 t201 t202 w0 _ ?side1 ?side2 A13.out).mono ?_); (case side1 => repeat (first | (with_reducible first | exact HI0.out | apply IsS63.alloc | apply IsS63.drewN | apply IsS63.drew | apply IsS63.set_1) | exact HI0.out)); (case side2 => repeat (first | (with_reducible first | exact HB.out | apply below_alloc | apply pw_below_drewN | apply below_drew1 | refine below_set ?_ (IsS63.ge HI0.out)) | exact HB.out)); rintro e w19 ⟨rfl, hi, hb, hk⟩; refine ⟨_, rfl, ?_⟩; have n0_ := Aside0.mk (Kd.R_mono (Kd.R_keep (IsS63.apart (show IsS63 w0 _ g s0_0 t191 from by repeat (first | (with_reducible first | exact HI0.out | apply IsS63.alloc | apply IsS63.drewN | apply IsS63.drew | apply IsS63.set_1) | exact HI0.out)) (by (with_reducible repeat (first | apply Kd.R_alloc | apply Kd.R_drewN | apply Kd.R_drew)); exact HO200.out) (by decide)) hk (fun _ h => h.2)) (fun _ h => h.1)); have n1_ := Aside0.mk (KeepBut.trans (by repeat (first | (with_reducible first | exact HK.out | apply KeepBut.set_ | apply keep_drewN | apply keep_drew | apply keep_alloc) | exact HK.out)) hk (.inl rfl)); have n2_ := Aside0.mk (hb); have n3_ := Aside0.mk (hi); clear HO200; clear HK; clear HB; clear HI0; have HO200 := n0_; have HK := n1_; have HB := n2_; have HI0 := n3_; clear n0_ n1_ n2_ n3_; (try clear hb); (try clear hb2); (try clear hk); (try clear hi); obtain ⟨Ao20, co20, eo20⟩ := Kd.R_slice HO200.out; subst eo20; have p203 : 0 ≤ (t201 : Int) := of_decide_eq_true (by first | (with_reducible assumption) | assumption); have q203 : t201 < (y198.length : Int) := of_decide_eq_true (by first | (with_reducible assumption) | assumption); obtain ⟨ad203, e203, hx203_0⟩ := Kd.at_int (Kd.R_reads' HO200.out).2.2 t201 p203 q203; cases e203; replace p203 := eq_true p203; replace q203 := eq_true q203))
        go_ret
        exact ⟨by first | rfl | (simp [errW_none, errW_some] <;> rfl) | (simp [*, errW_none, errW_some] <;> rfl), by repeat (first | (with_reducible first | exact HI0.out | apply IsS63.alloc | apply IsS63.drewN | apply IsS63.drew | apply IsS63.set_1) | exact HI0.out), by repeat (first | (with_reducible first | exact HB.out | apply below_alloc | apply pw_below_drewN | apply below_drew1 | refine below_set ?_ (IsS63.ge HI0.out)) | exact HB.out), by repeat (first | (with_reducible first | exact HK.out | apply KeepBut.set_ | apply keep_drewN | apply keep_drew | apply keep_alloc) | exact HK.out)⟩
      · rw [if_neg c15] at H
        exact absurd H (by simp)
    · rw [if_neg c14] at H
      exact absurd H (by simp)

/-! ### spec_LineCells: function 81 -/
mutual
def spec_LineCells.l0 : Nat → Int → Int → List Int → Int → Option (List Int)
  | 0, _, _, _, _ => none
  | k + 1, x0, x1, x5, x6 => if x6 < x0 then ((spec_l1In.f x0 2 4).bind fun t207 => (if t207 = true then ((spec_l1In.f x1 0 (wrap64 ((wrap64 (2 * x0)) - 1))).bind fun t208 => (spec_LineCells.j1 k x0 x1 x5 x6 t208)) else (spec_LineCells.j1 k x0 x1 x5 x6 false))) else (spec_LineCells.j1 k x0 x1 x5 x6 false)
def spec_LineCells.j1 : Nat → Int → Int → List Int → Int → Bool → Option (List Int)
  | 0, _, _, _, _, _ => none
  | k + 1, x0, x1, x5, x6, x21 => if x21 = true then (if x1 < x0 then (if x5.length < 17592186044416 then (spec_LineCells.l0 k x0 x1 (x5 ++ [wrap64 ((wrap64 (x1 * x0)) + x6)]) (wrap64 (x6 + 1))) else (none)) else (if x5.length < 17592186044416 then (spec_LineCells.l0 k x0 x1 (x5 ++ [wrap64 ((wrap64 ((wrap64 (x6 * x0)) + x1)) - x0)]) (wrap64 (x6 + 1))) else (none))) else (some x5)
end
def spec_LineCells.f (k : Nat) (a0 : Int) (a1 : Int) : Option (List Int) := spec_LineCells.l0 k a0 a1 (([] : List Int)) 0
theorem spec_LineCells.mono_l : ∀ k, (∀ y0 y1 y2 y3, LeO (spec_LineCells.l0 k y0 y1 y2 y3) (spec_LineCells.l0 (k + 1) y0 y1 y2 y3)) ∧ (∀ y0 y1 y2 y3 y4, LeO (spec_LineCells.j1 k y0 y1 y2 y3 y4) (spec_LineCells.j1 (k + 1) y0 y1 y2 y3 y4))
  | 0 => ⟨fun _ _ _ _ r h => by simp [spec_LineCells.l0] at h, fun _ _ _ _ _ r h => by simp [spec_LineCells.j1] at h⟩
  | k + 1 => by
    obtain ⟨ih0, ih1⟩ := spec_LineCells.mono_l k
    refine ⟨?_, ?_⟩
    · intro y0 y1 y2 y3
      unfold spec_LineCells.l0
      repeat' first
      | (with_reducible exact ih0 _ _ _ _)
      | (with_reducible exact ih1 _ _ _ _ _)
      | (with_reducible exact LeO.refl _)
      | (with_reducible exact LeO.none _)
      | (with_reducible refine LeO.ite ?_ ?_)
      | (with_reducible refine LeO.bind ?_ (fun _ => ?_))
      | exact ih0 _ _ _ _
      | exact ih1 _ _ _ _ _
      | exact LeO.none _
      | refine LeO.ite ?_ ?_
      | refine LeO.bind ?_ (fun _ => ?_)
    · intro y0 y1 y2 y3 y4
      unfold spec_LineCells.j1
      repeat' first
      | (with_reducible exact ih0 _ _ _ _)
      | (with_reducible exact ih1 _ _ _ _ _)
      | (with_reducible exact LeO.refl _)
      | (with_reducible exact LeO.none _)
      | (with_reducible refine LeO.ite ?_ ?_)
      | (with_reducible refine LeO.bind ?_ (fun _ => ?_))
      | exact ih0 _ _ _ _
      | exact ih1 _ _ _ _ _
      | exact LeO.none _
      | refine LeO.ite ?_ ?_
      | refine LeO.bind ?_ (fun _ => ?_)
theorem spec_LineCells.mono : ∀ a0 a1 k, LeO (spec_LineCells.f k a0 a1) (spec_LineCells.f (k + 1) a0 a1) := by
  intro a0 a1 k
  obtain ⟨ih0, ih1⟩ := spec_LineCells.mono_l k
  unfold spec_LineCells.f
  repeat' first
      | (with_reducible exact ih0 _ _ _ _)
      | (with_reducible exact ih1 _ _ _ _ _)
      | (with_reducible exact LeO.refl _)
      | (with_reducible exact LeO.none _)
      | (with_reducible refine LeO.ite ?_ ?_)
      | (with_reducible refine LeO.bind ?_ (fun _ => ?_))
      | exact ih0 _ _ _ _
      | exact ih1 _ _ _ _ _
      | exact LeO.none _
      | refine LeO.ite ?_ ?_
      | refine LeO.bind ?_ (fun _ => ?_)
set_option maxHeartbeats 8000000 in
set_option maxRecDepth 100000 in
theorem spec_LineCells.calls (k : Nat) (a0 : Int) (a1 : Int) (r : List Int) (w : World) (h : spec_LineCells.f k a0 a1 = some r) :
    Calls Try.prog 81 #[.int .i64 a0, .int .i64 a1] w fun e w' => ∃ v0_ : Value, e = .returned (v0_) ∧ Kd.R (Kd.int .i64) 3 w' w.heap.size (fun _ => True) v0_ r ∧ Below w.heap.size w w' := by
  have HB := Aside0.mk (Below.refl w.heap.size w)
  have H : (spec_LineCells.l0 k a0 a1 (([] : List Int)) 0) = some r := h
  clear h
  obtain ⟨y204, hy204⟩ : ∃ y_ : List Int, y_ = (([] : List Int)) := ⟨_, rfl⟩
  replace H : (spec_LineCells.l0 k a0 a1 y204 0) = some r := by first | (rw [hy204]; with_reducible exact H) | (have H2_ := (Option.bind_some _ _).symm.trans H; rw [hy204]; with_reducible exact H2_) | (have H2_ := (Option.bind_some _ _).symm.trans H; with_reducible exact H2_) | with_reducible exact H | (rw [hy204]; exact H) | exact H
  have Ny204 := Aside0.mk hy204
  clear hy204
  have H' := Aside0.mk H
  clear H
  go_enter Try.func81, Try.ntmps81
  go_wp2_with (first | ((with_reducible refine gate_dst (N := 7) rfl ?_); refine Kd.R_lit (Kd.int .i64) _ 3 ?hg (N := 7) ?hd (xs := ([] : List Int)) (inner := []) (ok := fun _ => True) (okp := fun _ => True) ?hr ?hp (fun _ hk => hk) trivial (Below.refl _ _) (Nat.le_refl _) (by simp) ?_; (case hd => rfl); (case hg => rfl); (case hr => first | (go_simp; done) | (go_simp; rfl)); (case hp => exact (Reps.none _ _)); intro v205 w3 ho4 hb hg_ hnew_; clear hg_ hnew_; (first | rw [← Ny204.out] at ho4 | (simp only [Int.reduceToNat] at ho4; rw [← Ny204.out] at ho4)); have n0_ := Aside0.mk (Kd.R_lower ho4 (below_size (by repeat (first | (with_reducible first | exact HB.out | apply below_alloc | apply pw_below_drewN | apply below_drew1) | exact HB.out)))); have n1_ := Aside0.mk (below_step (by repeat (first | (with_reducible first | exact HB.out | apply below_alloc | apply pw_below_drewN | apply below_drew1) | exact HB.out)) hb); clear HB; have HO206 := n0_; have HB := n1_; clear n0_ n1_; clear hb ho4))
  go_loopg [5, 6] k (fun kq v5 v6 w' => ∃ (x5_1 : List Int) (x6_1 : Int), v6 = .int .i64 x6_1 ∧ Aside0 (spec_LineCells.l0 kq a0 a1 x5_1 x6_1 = some r) ∧ Aside0 (kq ≤ k) ∧ Aside0 (Kd.R (Kd.int .i64) 3 w' w.heap.size (fun _ => True) v5 x5_1) ∧ Aside0 (Below w.heap.size w w'))
  case atStart => exact ⟨(y204), (0), (by first | rfl | (simp; done) | (simp [*]; done)), H', ⟨Nat.le_refl _⟩, ⟨by (with_reducible repeat (first | apply Kd.R_alloc | apply Kd.R_drewN | apply Kd.R_drew)); exact HO206.out⟩, ⟨by repeat (first | (with_reducible first | exact HB.out | apply below_alloc | apply pw_below_drewN | apply below_drew1) | exact HB.out)⟩⟩
  case round =>
    clear H'
    try clear p2
    obtain ⟨x5_1, x6_1, rfl, HA, HK1, HO_5, HB⟩ := hrel
    cases gk with
    | zero => exact absurd HA.out (by simp [spec_LineCells.l0])
    | succ k1 =>
      have H := HA.out
      clear HA
      simp only [spec_LineCells.l0] at H
      have HC5 := Aside0.mk H
      clear H
      go_upto_region 3 with (fail)
      go_cut [21] (fun v21 wc => ∃ (kq : Nat) (x21_4 : Bool), v21 = .bool x21_4 ∧ Aside0 (spec_LineCells.j1 kq a0 a1 x5_1 x6_1 x21_4 = some r) ∧ Aside0 (kq ≤ k1) ∧ Aside0 (Kd.R (Kd.int .i64) 3 wc w.heap.size (fun _ => True) u5 x5_1) ∧ Aside0 (Below w.heap.size w wc))
      case first =>
        have H := HC5.out
        clear HC5
        by_cases c6 : x6_1 < a0
        · rw [if_pos c6] at H
          have c6b0 : decide (x6_1 < a0) = true := decide_eq_true c6
          clear c6
          (first | rw [c6b0] | (simp only [i64_w, i32_w]; rw [c6b0]) | skip)
          replace H := Option.bind_eq_some_iff.mp H
          obtain ⟨t207, A70, H⟩ := H
          replace H : (if t207 = true then ((spec_l1In.f a1 0 (wrap64 ((wrap64 (2 * a0)) - 1))).bind fun t208 => (spec_LineCells.j1 k1 a0 a1 x5_1 x6_1 t208)) else (spec_LineCells.j1 k1 a0 a1 x5_1 x6_1 false)) = some r := H
          have A7 := Aside0.mk A70
          clear A70
          by_cases c8 : t207 = true
          · subst c8
            have H1 : ((spec_l1In.f a1 0 (wrap64 ((wrap64 (2 * a0)) - 1))).bind fun t208 => (spec_LineCells.j1 k1 a0 a1 x5_1 x6_1 t208)) = some r := by rw [if_pos rfl] at H; exact H
            clear H
            have H := H1
            clear H1
            replace H := Option.bind_eq_some_iff.mp H
            obtain ⟨t208, A90, H⟩ := H
            replace H : (spec_LineCells.j1 k1 a0 a1 x5_1 x6_1 t208) = some r := H
            have A9 := Aside0.mk A90
            clear A90
            have H' := Aside0.mk H
            clear H
            go_wp2_with (first | (go_at_call 51; (with_reducible refine (spec_l1In.calls a0 2 4 true _ A7.out).mono ?_); rintro e w' ⟨rfl, ⟨nd, rfl⟩⟩) | (go_at_call 51; (with_reducible refine (spec_l1In.calls a1 0 (wrap64 ((wrap64 (2 * a0)) - 1)) t208 _ A9.out).mono ?_); rintro e w' ⟨rfl, ⟨nd, rfl⟩⟩))
            go_meet
            case rel => exact ⟨_, (t208), (by first | rfl | (simp; done) | (simp [*]; done)), H', ⟨by have := HK1.out; first | omega | exact Nat.le_refl _⟩, ⟨by (with_reducible repeat (first | apply Kd.R_alloc | apply Kd.R_drewN | apply Kd.R_drew)); exact HO_5.out⟩, ⟨by repeat (first | (with_reducible first | exact HB.out | apply below_alloc | apply pw_below_drewN | apply below_drew1) | exact HB.out)⟩⟩
          · replace c8 := Bool.eq_false_iff.mpr c8
            subst c8
            have H1 : (spec_LineCells.j1 k1 a0 a1 x5_1 x6_1 false) = some r := by rw [if_neg (show ¬ (false = true) by decide)] at H; exact H
            clear H
            have H := H1
            clear H1
            have H' := Aside0.mk H
            clear H
            go_wp2_with (first | (go_at_call 51; (with_reducible refine (spec_l1In.calls a0 2 4 false _ A7.out).mono ?_); rintro e w' ⟨rfl, ⟨nd, rfl⟩⟩))
            go_meet
            case rel => exact ⟨_, (false), (by first | rfl | (simp; done) | (simp [*]; done)), H', ⟨by have := HK1.out; first | omega | exact Nat.le_refl _⟩, ⟨by (with_reducible repeat (first | apply Kd.R_alloc | apply Kd.R_drewN | apply Kd.R_drew)); exact HO_5.out⟩, ⟨by repeat (first | (with_reducible first | exact HB.out | apply below_alloc | apply pw_below_drewN | apply below_drew1) | exact HB.out)⟩⟩
        · rw [if_neg c6] at H
          have c6b0 : decide (x6_1 < a0) = false := decide_eq_false c6
          clear c6
          (first | rw [c6b0] | (simp only [i64_w, i32_w]; rw [c6b0]) | skip)
          have H' := Aside0.mk H
          clear H
          go_wp2
          go_meet
          case rel => exact ⟨_, (false), (by first | rfl | (simp; done) | (simp [*]; done)), H', ⟨by have := HK1.out; first | omega | exact Nat.le_refl _⟩, ⟨by (with_reducible repeat (first | apply Kd.R_alloc | apply Kd.R_drewN | apply Kd.R_drew)); exact HO_5.out⟩, ⟨by repeat (first | (with_reducible first | exact HB.out | apply below_alloc | apply pw_below_drewN | apply below_drew1) | exact HB.out)⟩⟩
      case rest =>
        clear HC5
        try clear p2
        try clear c6
        try clear c6b0
        try clear p6
        try clear c8
        try clear p2
        obtain ⟨kq, x21_4, rfl, HA, HJ4, HO_5, HB⟩ := hcut
        cases kq with
        | zero => exact absurd HA.out (by simp [spec_LineCells.j1])
        | succ kj4 =>
          have H := HA.out
          clear HA
          simp only [spec_LineCells.j1] at H
          by_cases c10 : x21_4 = true
          · subst c10
            have H1 : (if a1 < a0 then (if x5_1.length < 17592186044416 then (spec_LineCells.l0 kj4 a0 a1 (x5_1 ++ [wrap64 ((wrap64 (a1 * a0)) + x6_1)]) (wrap64 (x6_1 + 1))) else (none)) else (if x5_1.length < 17592186044416 then (spec_LineCells.l0 kj4 a0 a1 (x5_1 ++ [wrap64 ((wrap64 ((wrap64 (x6_1 * a0)) + a1)) - a0)]) (wrap64 (x6_1 + 1))) else (none))) = some r := by rw [if_pos rfl] at H; exact H
            clear H
            have H := H1
            clear H1
            by_cases c11 : a1 < a0
            · rw [if_pos c11] at H
              have c11b0 : decide (a1 < a0) = true := decide_eq_true c11
              clear c11
              by_cases c12 : x5_1.length < 17592186044416
              · rw [if_pos c12] at H
                have LMc12 := Aside0.mk c12
                clear c12
                obtain ⟨y209, hy209⟩ : ∃ y_ : List Int, y_ = (x5_1 ++ [wrap64 ((wrap64 (a1 * a0)) + x6_1)]) := ⟨_, rfl⟩
                replace H : (spec_LineCells.l0 kj4 a0 a1 y209 (wrap64 (x6_1 + 1))) = some r := by first | (rw [hy209]; with_reducible exact H) | (have H2_ := (Option.bind_some _ _).symm.trans H; rw [hy209]; with_reducible exact H2_) | (have H2_ := (Option.bind_some _ _).symm.trans H; with_reducible exact H2_) | with_reducible exact H | (rw [hy209]; exact H) | exact H
                have Ny209 := Aside0.mk hy209
                clear hy209
                have H' := Aside0.mk H
                clear H
                go_wp2_with (first | ((with_reducible refine gate_builtin (b := .append) (xs := #[.tmp 27, .tmp 33]) rfl ?_); at_builtin; refine Kd.R_append (Kd.int .i64) (w0 := w) w.heap.size rfl (.tmp 27) (.tmp 33) 25 3 (.int .i64 0) 8 rfl Try.underlying25 info3 rfl (by decide) (by omega) u5 x5_1 (wrap64 ((wrap64 (a1 * a0)) + x6_1)) [.int .i64 (wrap64 ((wrap64 (a1 * a0)) + x6_1))] (fun _ => True) (fun _ => False) rfl rfl ?aP (fun _ hk => hk.elim) ?aF ?aO ?aB ?aS ?aL ?_; (case aP => exact rfl); (case aB => exact (by repeat (first | (with_reducible first | exact HB.out | apply below_alloc | apply pw_below_drewN | apply below_drew1) | exact HB.out))); (case aF => exact (fun _ _ => trivial)); (case aO => exact (by (with_reducible repeat (first | apply Kd.R_alloc | apply Kd.R_drewN | apply Kd.R_drew)); exact HO_5.out)); (case aS => exact (below_size (by repeat (first | (with_reducible first | exact HB.out | apply below_alloc | apply pw_below_drewN | apply below_drew1) | exact HB.out)))); (case aL => have := LMc12.out; omega); intro v210 w13 ho hb hg hat; rw [← Ny209.out] at ho; have n0_ := Aside0.mk (hb); have n1_ := Aside0.mk (ho); clear HB; clear HO_5; have HB := n0_; have HO211 := n1_; clear n0_ n1_; clear ho hb hg hat))
                go_roundg kj4
                case measure => have := HK1.out; have := HJ4.out; omega
                case rel => exact ⟨(y209), (wrap64 (x6_1 + 1)), (by first | rfl | (simp; done) | (simp [*]; done)), H', ⟨by have := HK1.out; have := HJ4.out; omega⟩, ⟨by (with_reducible repeat (first | apply Kd.R_alloc | apply Kd.R_drewN | apply Kd.R_drew)); exact HO211.out⟩, ⟨by repeat (first | (with_reducible first | exact HB.out | apply below_alloc | apply pw_below_drewN | apply below_drew1) | exact HB.out)⟩⟩
              · rw [if_neg c12] at H
                exact absurd H (by simp)
            · rw [if_neg c11] at H
              have c11b0 : decide (a1 < a0) = false := decide_eq_false c11
              clear c11
              by_cases c14 : x5_1.length < 17592186044416
              · rw [if_pos c14] at H
                have LMc14 := Aside0.mk c14
                clear c14
                obtain ⟨y212, hy212⟩ : ∃ y_ : List Int, y_ = (x5_1 ++ [wrap64 ((wrap64 ((wrap64 (x6_1 * a0)) + a1)) - a0)]) := ⟨_, rfl⟩
                replace H : (spec_LineCells.l0 kj4 a0 a1 y212 (wrap64 (x6_1 + 1))) = some r := by first | (rw [hy212]; with_reducible exact H) | (have H2_ := (Option.bind_some _ _).symm.trans H; rw [hy212]; with_reducible exact H2_) | (have H2_ := (Option.bind_some _ _).symm.trans H; with_reducible exact H2_) | with_reducible exact H | (rw [hy212]; exact H) | exact H
                have Ny212 := Aside0.mk hy212
                clear hy212
                have H' := Aside0.mk H
                clear H
                go_wp2_with (first | ((with_reducible refine gate_builtin (b := .append) (xs := #[.tmp 35, .tmp 43]) rfl ?_); at_builtin; refine Kd.R_append (Kd.int .i64) (w0 := w) w.heap.size rfl (.tmp 35) (.tmp 43) 25 3 (.int .i64 0) 8 rfl Try.underlying25 info3 rfl (by decide) (by omega) u5 x5_1 (wrap64 ((wrap64 ((wrap64 (x6_1 * a0)) + a1)) - a0)) [.int .i64 (wrap64 ((wrap64 ((wrap64 (x6_1 * a0)) + a1)) - a0))] (fun _ => True) (fun _ => False) rfl rfl ?aP (fun _ hk => hk.elim) ?aF ?aO ?aB ?aS ?aL ?_; (case aP => exact rfl); (case aB => exact (by repeat (first | (with_reducible first | exact HB.out | apply below_alloc | apply pw_below_drewN | apply below_drew1) | exact HB.out))); (case aF => exact (fun _ _ => trivial)); (case aO => exact (by (with_reducible repeat (first | apply Kd.R_alloc | apply Kd.R_drewN | apply Kd.R_drew)); exact HO_5.out)); (case aS => exact (below_size (by repeat (first | (with_reducible first | exact HB.out | apply below_alloc | apply pw_below_drewN | apply below_drew1) | exact HB.out)))); (case aL => have := LMc14.out; omega); intro v213 w15 ho hb hg hat; rw [← Ny212.out] at ho; have n0_ := Aside0.mk (hb); have n1_ := Aside0.mk (ho); clear HB; clear HO_5; have HB := n0_; have HO214 := n1_; clear n0_ n1_; clear ho hb hg hat))
                go_roundg kj4
                case measure => have := HK1.out; have := HJ4.out; omega
                case rel => exact ⟨(y212), (wrap64 (x6_1 + 1)), (by first | rfl | (simp; done) | (simp [*]; done)), H', ⟨by have := HK1.out; have := HJ4.out; omega⟩, ⟨by (with_reducible repeat (first | apply Kd.R_alloc | apply Kd.R_drewN | apply Kd.R_drew)); exact HO214.out⟩, ⟨by repeat (first | (with_reducible first | exact HB.out | apply below_alloc | apply pw_below_drewN | apply below_drew1) | exact HB.out)⟩⟩
              · rw [if_neg c14] at H
                exact absurd H (by simp)
          · replace c10 := Bool.eq_false_iff.mpr c10
            subst c10
            have H1 : (some x5_1) = some r := by rw [if_neg (show ¬ (false = true) by decide)] at H; exact H
            clear H
            have H := H1
            clear H1
            obtain rfl := Option.some.inj H
            go_wp2
            go_ret
            exact ⟨_, by first | rfl | (simp [errW_none, errW_some] <;> rfl) | (simp [*, errW_none, errW_some] <;> rfl), by (with_reducible repeat (first | apply Kd.R_alloc | apply Kd.R_drewN | apply Kd.R_drew)); exact HO_5.out, by repeat (first | (with_reducible first | exact HB.out | apply below_alloc | apply pw_below_drewN | apply below_drew1) | exact HB.out)⟩

/-! ### spec_l2Clash: function 73 -/
mutual
def spec_l2Clash.l0 : Nat → List Int → Int → Int → Option (Bool)
  | 0, _, _, _ => none
  | k + 1, x0, x1, x5 => if x5 < (wrap64 (2 * x1)) then ((spec_LineCells.f k x1 x5).bind fun t215 => (spec_l2Clash.l1 k x0 x1 x5 t215 0 0)) else (some false)
def spec_l2Clash.l1 : Nat → List Int → Int → Int → List Int → Int → Int → Option (Bool)
  | 0, _, _, _, _, _, _ => none
  | k + 1, x0, x1, x5, x6, x7, x8 => if x8 < (x6.length : Int) then (if 0 ≤ x8 then (if 0 ≤ (rd x6 x8) then (if (rd x6 x8) < (x0.length : Int) then (if (rd x0 (rd x6 x8)) > 0 then (if 0 ≤ (rd x0 (rd x6 x8)) then (if (Int.tmod (shr .i64 x7 (rd x0 (rd x6 x8))) 2) = 1 then (some true) else (spec_l2Clash.l1 k x0 x1 x5 x6 (Go.bits .or .i64 x7 (shl .i64 1 (rd x0 (rd x6 x8)))) (wrap64 (x8 + 1)))) else (none)) else (if 0 ≤ (rd x0 (rd x6 x8)) then (spec_l2Clash.l1 k x0 x1 x5 x6 (Go.bits .or .i64 x7 (shl .i64 1 (rd x0 (rd x6 x8)))) (wrap64 (x8 + 1))) else (none))) else (none)) else (none)) else (none)) else (spec_l2Clash.l0 k x0 x1 (wrap64 (x5 + 1)))
end
def spec_l2Clash.f (k : Nat) (l0 : List Int) (a1 : Int) : Option (Bool) := spec_l2Clash.l0 k l0 a1 0
theorem spec_l2Clash.mono_l : ∀ k, (∀ y0 y1 y2, LeO (spec_l2Clash.l0 k y0 y1 y2) (spec_l2Clash.l0 (k + 1) y0 y1 y2)) ∧ (∀ y0 y1 y2 y3 y4 y5, LeO (spec_l2Clash.l1 k y0 y1 y2 y3 y4 y5) (spec_l2Clash.l1 (k + 1) y0 y1 y2 y3 y4 y5))
  | 0 => ⟨fun _ _ _ r h => by simp [spec_l2Clash.l0] at h, fun _ _ _ _ _ _ r h => by simp [spec_l2Clash.l1] at h⟩
  | k + 1 => by
    obtain ⟨ih0, ih1⟩ := spec_l2Clash.mono_l k
    refine ⟨?_, ?_⟩
    · intro y0 y1 y2
      unfold spec_l2Clash.l0
      repeat' first
      | (with_reducible exact ih0 _ _ _)
      | (with_reducible exact ih1 _ _ _ _ _ _)
      | (with_reducible exact spec_LineCells.mono _ _ _)
      | (with_reducible exact LeO.refl _)
      | (with_reducible exact LeO.none _)
      | (with_reducible refine LeO.ite ?_ ?_)
      | (with_reducible refine LeO.bind ?_ (fun _ => ?_))
      | exact ih0 _ _ _
      | exact ih1 _ _ _ _ _ _
      | exact spec_LineCells.mono _ _ _
      | exact LeO.none _
      | refine LeO.ite ?_ ?_
      | refine LeO.bind ?_ (fun _ => ?_)
    · intro y0 y1 y2 y3 y4 y5
      unfold spec_l2Clash.l1
      repeat' first
      | (with_reducible exact ih0 _ _ _)
      | (with_reducible exact ih1 _ _ _ _ _ _)
      | (with_reducible exact spec_LineCells.mono _ _ _)
      | (with_reducible exact LeO.refl _)
      | (with_reducible exact LeO.none _)
      | (with_reducible refine LeO.ite ?_ ?_)
      | (with_reducible refine LeO.bind ?_ (fun _ => ?_))
      | exact ih0 _ _ _
      | exact ih1 _ _ _ _ _ _
      | exact spec_LineCells.mono _ _ _
      | exact LeO.none _
      | refine LeO.ite ?_ ?_
      | refine LeO.bind ?_ (fun _ => ?_)
theorem spec_l2Clash.mono : ∀ a0 a1 k, LeO (spec_l2Clash.f k a0 a1) (spec_l2Clash.f (k + 1) a0 a1) := by
  intro a0 a1 k
  obtain ⟨ih0, ih1⟩ := spec_l2Clash.mono_l k
  unfold spec_l2Clash.f
  repeat' first
      | (with_reducible exact ih0 _ _ _)
      | (with_reducible exact ih1 _ _ _ _ _ _)
      | (with_reducible exact spec_LineCells.mono _ _ _)
      | (with_reducible exact LeO.refl _)
      | (with_reducible exact LeO.none _)
      | (with_reducible refine LeO.ite ?_ ?_)
      | (with_reducible refine LeO.bind ?_ (fun _ => ?_))
      | exact ih0 _ _ _
      | exact ih1 _ _ _ _ _ _
      | exact spec_LineCells.mono _ _ _
      | exact LeO.none _
      | refine LeO.ite ?_ ?_
      | refine LeO.bind ?_ (fun _ => ?_)
set_option maxHeartbeats 8000000 in
set_option maxRecDepth 100000 in
theorem spec_l2Clash.calls (k : Nat) (A0 : Option Addr) (c0 : Nat) (l0 : List Int) (a1 : Int) (r : Bool) (w : World) (hr0 : Kd.C (Kd.int .i64) w A0 l0.length l0) (hc0 : l0.length ≤ c0) (h : spec_l2Clash.f k l0 a1 = some r) :
    Calls Try.prog 73 #[.slice A0 l0.length c0, .int .i64 a1] w fun e w' => e = .returned (.bool r) ∧ Below w.heap.size w w' := by
  have HR0 := Aside0.mk hr0
  have HC0 := Aside0.mk hc0
  clear hr0 hc0
  have HB := Aside0.mk (Below.refl w.heap.size w)
  have H : (spec_l2Clash.l0 k l0 a1 0) = some r := h
  clear h
  have H' := Aside0.mk H
  clear H
  go_enter Try.func73, Try.ntmps73
  go_wp2
  go_loopg [5] k (fun kq v5 w' => ∃ (x5_1 : Int), v5 = .int .i64 x5_1 ∧ Aside0 (spec_l2Clash.l0 kq l0 a1 x5_1 = some r) ∧ Aside0 (kq ≤ k) ∧ Aside0 (Below w.heap.size w w'))
  case atStart => exact ⟨(0), (by first | rfl | (simp; done) | (simp [*]; done)), H', ⟨Nat.le_refl _⟩, ⟨by repeat (first | (with_reducible first | exact HB.out | apply below_alloc | apply pw_below_drewN | apply below_drew1) | exact HB.out)⟩⟩
  case round =>
    clear H'
    try clear p2
    obtain ⟨x5_1, rfl, HA, HK1, HB⟩ := hrel
    cases gk with
    | zero => exact absurd HA.out (by simp [spec_l2Clash.l0])
    | succ k1 =>
      have H := HA.out
      clear HA
      simp only [spec_l2Clash.l0] at H
      by_cases c3 : x5_1 < (wrap64 (2 * a1))
      · rw [if_pos c3] at H
        have c3b0 : decide (x5_1 < (wrap64 (2 * a1))) = true := decide_eq_true c3
        clear c3
        replace H := Option.bind_eq_some_iff.mp H
        obtain ⟨t215, A40, H⟩ := H
        replace H : (spec_l2Clash.l1 k1 l0 a1 x5_1 t215 0 0) = some r := H
        have A4 := Aside0.mk A40
        clear A40
        have H' := Aside0.mk H
        clear H
        go_wp2_with (first | ((with_reducible refine gate_callee (f := 81) rfl ?_); refine goesL_ (some 18) rfl rfl Try.func81 (by kernel_rfl) rfl #[.int .i64 a1, .int .i64 x5_1] rfl (by (try simp only [List.map_toArray, List.map_cons, List.map_nil]); first | done | rfl | (simp only [List.length_drop, List.length_take]; rfl)) ?_; (with_reducible refine (spec_LineCells.calls k1 a1 x5_1 t215 _ A4.out).mono ?_); rintro e w5 ⟨v216, rfl, ho0, hb⟩; refine ⟨_, rfl, ?_⟩; have n0_ := Aside0.mk (Kd.R_lower ho0 (below_size (by repeat (first | (with_reducible first | exact HB.out | apply below_alloc | apply pw_below_drewN | apply below_drew1) | exact HB.out)))); have n1_ := Aside0.mk (below_step (by repeat (first | (with_reducible first | exact HB.out | apply below_alloc | apply pw_below_drewN | apply below_drew1) | exact HB.out)) hb); clear HB; have HO217 := n0_; have HB := n1_; clear n0_ n1_; (try clear hb); (try clear hb2); (try clear hk); (try clear hi); (try clear ho0)))
        go_loopg [7, 8] k1 (fun kq v7 v8 w' => ∃ (x7_2 : Int) (x8_2 : Int), v7 = .int .i64 x7_2 ∧ v8 = .int .i64 x8_2 ∧ Aside0 (spec_l2Clash.l1 kq l0 a1 x5_1 t215 x7_2 x8_2 = some r) ∧ Aside0 (kq ≤ k1) ∧ Aside0 (Kd.R (Kd.int .i64) 3 w' w.heap.size (fun _ => True) v216 t215) ∧ Aside0 (Below w.heap.size w w'))
        case atStart => exact ⟨(0), (0), (by first | rfl | (simp; done) | (simp [*]; done)), (by first | rfl | (simp; done) | (simp [*]; done)), H', ⟨Nat.le_refl _⟩, ⟨by (with_reducible repeat (first | apply Kd.R_alloc | apply Kd.R_drewN | apply Kd.R_drew)); exact HO217.out⟩, ⟨by repeat (first | (with_reducible first | exact HB.out | apply below_alloc | apply pw_below_drewN | apply below_drew1) | exact HB.out)⟩⟩
        case round =>
          clear H'
          try clear p2
          try clear c3
          try clear c3b0
          try clear p2
          obtain ⟨x7_2, x8_2, rfl, rfl, HA, HK2, HO_6, HB⟩ := hrel
          cases gk with
          | zero => exact absurd HA.out (by simp [spec_l2Clash.l1])
          | succ k2 =>
            have H := HA.out
            clear HA
            simp only [spec_l2Clash.l1] at H
            by_cases c6 : x8_2 < (t215.length : Int)
            · rw [if_pos c6] at H
              have c6b0 : decide (x8_2 < (t215.length : Int)) = true := decide_eq_true c6
              clear c6
              by_cases c7 : 0 ≤ x8_2
              · rw [if_pos c7] at H
                have c7b0 : decide (0 ≤ x8_2) = true := decide_eq_true c7
                clear c7
                by_cases c8 : 0 ≤ (rd t215 x8_2)
                · rw [if_pos c8] at H
                  have c8b0 : decide (0 ≤ (rd t215 x8_2)) = true := decide_eq_true c8
                  clear c8
                  by_cases c9 : (rd t215 x8_2) < (l0.length : Int)
                  · rw [if_pos c9] at H
                    have c9b0 : decide ((rd t215 x8_2) < (l0.length : Int)) = true := decide_eq_true c9
                    clear c9
                    by_cases c10 : (rd l0 (rd t215 x8_2)) > 0
                    · rw [if_pos c10] at H
                      have c10b0 : decide (0 < (rd l0 (rd t215 x8_2))) = true := decide_eq_true c10
                      clear c10
                      by_cases c11 : 0 ≤ (rd l0 (rd t215 x8_2))
                      · rw [if_pos c11] at H
                        have c11b0 := eq_true c11
                        have c11b1 : decide (0 ≤ (rd l0 (rd t215 x8_2))) = true := decide_eq_true c11
                        clear c11
                        obtain ⟨ji12, hji12⟩ : ∃ j_ : Int, (shr .i64 x7_2 (rd l0 (rd t215 x8_2))) = j_ := ⟨_, rfl⟩
                        replace H : (if (Int.tmod (ji12) 2) = 1 then (some true) else (spec_l2Clash.l1 k2 l0 a1 x5_1 t215 (Go.bits .or .i64 x7_2 (shl .i64 1 (rd l0 (rd t215 x8_2)))) (wrap64 (x8_2 + 1)))) = some r := by first | (rw [hji12] at H; exact H) | (simp only [hji12] at H ⊢; exact H)
                        have hji12_ : (x7_2 / 2 ^ min (rd l0 (rd t215 x8_2)).toNat 64) = ji12 := hji12
                        have hji12z : (rd l0 (rd t215 x8_2)) ≤ 64 → (x7_2 / 2 ^ (rd l0 (rd t215 x8_2)).toNat) = ji12 := shr_small hji12
                        by_cases c13 : (Int.tmod (ji12) 2) = 1
                        · rw [if_pos c13] at H
                          have c13b0 : ((Int.tmod (ji12) 2) == 1) = true := beq_iff_eq.mpr c13
                          have c13b1 : ((Int.tmod (ji12) 2) != 1) = false := bne_eq_false_iff_eq.mpr c13
                          clear c13
                          obtain rfl := Option.some.inj H
                          obtain ⟨Ao14, co14, eo14⟩ := Kd.R_slice HO_6.out
                          subst eo14
                          have p218 : 0 ≤ (x8_2 : Int) := of_decide_eq_true (by first | (with_reducible assumption) | assumption)
                          have q218 : x8_2 < (t215.length : Int) := of_decide_eq_true (by first | (with_reducible assumption) | assumption)
                          obtain ⟨ad218, e218, hx218_0⟩ := Kd.at_int (Kd.R_reads' HO_6.out).2.2 x8_2 p218 q218
                          cases e218
                          replace p218 := eq_true p218
                          replace q218 := eq_true q218
                          have p219 : 0 ≤ ((rd t215 x8_2) : Int) := of_decide_eq_true (by first | (with_reducible assumption) | assumption)
                          have q219 : (rd t215 x8_2) < (l0.length : Int) := of_decide_eq_true (by first | (with_reducible assumption) | assumption)
                          obtain ⟨ad219, e219, hx219_0⟩ := Kd.at_int HR0.out (rd t215 x8_2) p219 q219
                          cases e219
                          replace hx219_0 := (HB.out.cell (World.block_lt_of_cell? w _ hx219_0)).trans hx219_0
                          replace p219 := eq_true p219
                          replace q219 := eq_true q219
                          go_wp2
                          go_ret
                          exact ⟨by first | rfl | (simp [errW_none, errW_some] <;> rfl) | (simp only [← hji12]; first | rfl | (simp [errW_none, errW_some] <;> rfl)) | (simp [*, errW_none, errW_some] <;> rfl), by repeat (first | (with_reducible first | exact HB.out | apply below_alloc | apply pw_below_drewN | apply below_drew1) | exact HB.out)⟩
                        · rw [if_neg c13] at H
                          have c13b0 : ((Int.tmod (ji12) 2) == 1) = false := beq_eq_false_iff_ne.mpr c13
                          have c13b1 : ((Int.tmod (ji12) 2) != 1) = true := bne_iff_ne.mpr c13
                          have c15b0 := eq_true (of_decide_eq_true (by first | (with_reducible assumption) | assumption) : 0 ≤ (rd l0 (rd t215 x8_2)))
                          obtain ⟨ji16, hji16⟩ : ∃ j_ : Int, (shl .i64 1 (rd l0 (rd t215 x8_2))) = j_ := ⟨_, rfl⟩
                          replace H : (spec_l2Clash.l1 k2 l0 a1 x5_1 t215 (Go.bits .or .i64 x7_2 (ji16)) (wrap64 (x8_2 + 1))) = some r := by first | (rw [hji16] at H; exact H) | (simp only [hji16] at H ⊢; exact H)
                          have hji16_ : (IntKind.i64.wrap (1 * 2 ^ min (rd l0 (rd t215 x8_2)).toNat 64)) = ji16 := hji16
                          have hji16z : (rd l0 (rd t215 x8_2)) ≤ 64 → (IntKind.i64.wrap (1 * 2 ^ (rd l0 (rd t215 x8_2)).toNat)) = ji16 := shl_small hji16
                          have hji16u : (IntKind.i64.wrap (2 ^ min (rd l0 (rd t215 x8_2)).toNat 64)) = ji16 := by have h_ := hji16_; rw [Int.one_mul] at h_; exact h_
                          have hji16v : (rd l0 (rd t215 x8_2)) ≤ 64 → (IntKind.i64.wrap (2 ^ (rd l0 (rd t215 x8_2)).toNat)) = ji16 := fun hle_ => by have h_ := hji16z hle_; rw [Int.one_mul] at h_; exact h_
                          have hji16y : (wrap64 (1 * 2 ^ min (rd l0 (rd t215 x8_2)).toNat 64)) = ji16 := (i64_w _).symm.trans hji16_
                          have hji16x : (rd l0 (rd t215 x8_2)) ≤ 64 → (wrap64 (1 * 2 ^ (rd l0 (rd t215 x8_2)).toNat)) = ji16 := fun h_ => (i64_w _).symm.trans (hji16z h_)
                          have H' := Aside0.mk H
                          clear H
                          obtain ⟨Ao17, co17, eo17⟩ := Kd.R_slice HO_6.out
                          subst eo17
                          have p218 : 0 ≤ (x8_2 : Int) := of_decide_eq_true (by first | (with_reducible assumption) | assumption)
                          have q218 : x8_2 < (t215.length : Int) := of_decide_eq_true (by first | (with_reducible assumption) | assumption)
                          obtain ⟨ad218, e218, hx218_0⟩ := Kd.at_int (Kd.R_reads' HO_6.out).2.2 x8_2 p218 q218
                          cases e218
                          replace p218 := eq_true p218
                          replace q218 := eq_true q218
                          have p219 : 0 ≤ ((rd t215 x8_2) : Int) := of_decide_eq_true (by first | (with_reducible assumption) | assumption)
                          have q219 : (rd t215 x8_2) < (l0.length : Int) := of_decide_eq_true (by first | (with_reducible assumption) | assumption)
                          obtain ⟨ad219, e219, hx219_0⟩ := Kd.at_int HR0.out (rd t215 x8_2) p219 q219
                          cases e219
                          replace hx219_0 := (HB.out.cell (World.block_lt_of_cell? w _ hx219_0)).trans hx219_0
                          replace p219 := eq_true p219
                          replace q219 := eq_true q219
                          go_wp2
                          go_roundg k2
                          case measure => have := HK1.out; have := HK2.out; omega
                          case rel => exact ⟨(Go.bits .or .i64 x7_2 (ji16)), (wrap64 (x8_2 + 1)), (by first | rfl | (simp; done) | (simp only [← hji16] <;> (first | rfl | simp)) | (simp [*]; done)), (by first | rfl | (simp; done) | (simp [*]; done)), H', ⟨by have := HK1.out; have := HK2.out; omega⟩, ⟨by (with_reducible repeat (first | apply Kd.R_alloc | apply Kd.R_drewN | apply Kd.R_drew)); exact HO_6.out⟩, ⟨by repeat (first | (with_reducible first | exact HB.out | apply below_alloc | apply pw_below_drewN | apply below_drew1) | exact HB.out)⟩⟩
                      · rw [if_neg c11] at H
                        exact absurd H (by simp)
                    · rw [if_neg c10] at H
                      have c10b0 : decide (0 < (rd l0 (rd t215 x8_2))) = false := decide_eq_false c10
                      clear c10
                      by_cases c18 : 0 ≤ (rd l0 (rd t215 x8_2))
                      · rw [if_pos c18] at H
                        have c18b0 := eq_true c18
                        have c18b1 : decide (0 ≤ (rd l0 (rd t215 x8_2))) = true := decide_eq_true c18
                        clear c18
                        obtain ⟨ji19, hji19⟩ : ∃ j_ : Int, (shl .i64 1 (rd l0 (rd t215 x8_2))) = j_ := ⟨_, rfl⟩
                        replace H : (spec_l2Clash.l1 k2 l0 a1 x5_1 t215 (Go.bits .or .i64 x7_2 (ji19)) (wrap64 (x8_2 + 1))) = some r := by first | (rw [hji19] at H; exact H) | (simp only [hji19] at H ⊢; exact H)
                        have hji19_ : (IntKind.i64.wrap (1 * 2 ^ min (rd l0 (rd t215 x8_2)).toNat 64)) = ji19 := hji19
                        have hji19z : (rd l0 (rd t215 x8_2)) ≤ 64 → (IntKind.i64.wrap (1 * 2 ^ (rd l0 (rd t215 x8_2)).toNat)) = ji19 := shl_small hji19
                        have hji19u : (IntKind.i64.wrap (2 ^ min (rd l0 (rd t215 x8_2)).toNat 64)) = ji19 := by have h_ := hji19_; rw [Int.one_mul] at h_; exact h_
                        have hji19v : (rd l0 (rd t215 x8_2)) ≤ 64 → (IntKind.i64.wrap (2 ^ (rd l0 (rd t215 x8_2)).toNat)) = ji19 := fun hle_ => by have h_ := hji19z hle_; rw [Int.one_mul] at h_; exact h_
                        have hji19y : (wrap64 (1 * 2 ^ min (rd l0 (rd t215 x8_2)).toNat 64)) = ji19 := (i64_w _).symm.trans hji19_
                        have hji19x : (rd l0 (rd t215 x8_2)) ≤ 64 → (wrap64 (1 * 2 ^ (rd l0 (rd t215 x8_2)).toNat)) = ji19 := fun h_ => (i64_w _).symm.trans (hji19z h_)
                        have H' := Aside0.mk H
                        clear H
                        obtain ⟨Ao20, co20, eo20⟩ := Kd.R_slice HO_6.out
                        subst eo20
                        have p218 : 0 ≤ (x8_2 : Int) := of_decide_eq_true (by first | (with_reducible assumption) | assumption)
                        have q218 : x8_2 < (t215.length : Int) := of_decide_eq_true (by first | (with_reducible assumption) | assumption)
                        obtain ⟨ad218, e218, hx218_0⟩ := Kd.at_int (Kd.R_reads' HO_6.out).2.2 x8_2 p218 q218
                        cases e218
                        replace p218 := eq_true p218
                        replace q218 := eq_true q218
                        have p219 : 0 ≤ ((rd t215 x8_2) : Int) := of_decide_eq_true (by first | (with_reducible assumption) | assumption)
                        have q219 : (rd t215 x8_2) < (l0.length : Int) := of_decide_eq_true (by first | (with_reducible assumption) | assumption)
                        obtain ⟨ad219, e219, hx219_0⟩ := Kd.at_int HR0.out (rd t215 x8_2) p219 q219
                        cases e219
                        replace hx219_0 := (HB.out.cell (World.block_lt_of_cell? w _ hx219_0)).trans hx219_0
                        replace p219 := eq_true p219
                        replace q219 := eq_true q219
                        go_wp2
                        go_roundg k2
                        case measure => have := HK1.out; have := HK2.out; omega
                        case rel => exact ⟨(Go.bits .or .i64 x7_2 (ji19)), (wrap64 (x8_2 + 1)), (by first | rfl | (simp; done) | (simp only [← hji19] <;> (first | rfl | simp)) | (simp [*]; done)), (by first | rfl | (simp; done) | (simp [*]; done)), H', ⟨by have := HK1.out; have := HK2.out; omega⟩, ⟨by (with_reducible repeat (first | apply Kd.R_alloc | apply Kd.R_drewN | apply Kd.R_drew)); exact HO_6.out⟩, ⟨by repeat (first | (with_reducible first | exact HB.out | apply below_alloc | apply pw_below_drewN | apply below_drew1) | exact HB.out)⟩⟩
                      · rw [if_neg c18] at H
                        exact absurd H (by simp)
                  · rw [if_neg c9] at H
                    exact absurd H (by simp)
                · rw [if_neg c8] at H
                  exact absurd H (by simp)
              · rw [if_neg c7] at H
                exact absurd H (by simp)
            · rw [if_neg c6] at H
              have c6b0 : decide (x8_2 < (t215.length : Int)) = false := decide_eq_false c6
              clear c6
              have H' := Aside0.mk H
              clear H
              obtain ⟨Ao21, co21, eo21⟩ := Kd.R_slice HO_6.out
              subst eo21
              go_wp2
              go_roundg k2
              case measure => have := HK1.out; have := HK2.out; omega
              case rel => exact ⟨(wrap64 (x5_1 + 1)), (by first | rfl | (simp; done) | (simp [*]; done)), H', ⟨by have := HK1.out; have := HK2.out; omega⟩, ⟨by repeat (first | (with_reducible first | exact HB.out | apply below_alloc | apply pw_below_drewN | apply below_drew1) | exact HB.out)⟩⟩
      · rw [if_neg c3] at H
        have c3b0 : decide (x5_1 < (wrap64 (2 * a1))) = false := decide_eq_false c3
        clear c3
        obtain rfl := Option.some.inj H
        go_wp2
        go_ret
        exact ⟨by first | rfl | (simp [errW_none, errW_some] <;> rfl) | (simp [*, errW_none, errW_some] <;> rfl), by repeat (first | (with_reducible first | exact HB.out | apply below_alloc | apply pw_below_drewN | apply below_drew1) | exact HB.out)⟩

-- NOT PRINTED: function 52 (spec_l2Search)

/-! ### spec_SquareNumber: function 17 -/
--@import Derived.Test.YtniinbnpdnajjaaV1
open Go.Proofs.Ytniinbnpdnajjaa.My
mutual
def spec_l2Search.f : Nat → List Int → Int → Int → Int → Option (List Int × Int)
  | 0, _, _, _, _ => none
  | k + 1, l0, a1, a2, q => if a2 = (l0.length : Int) then (if q = 0 then some (l0, q) else some ([], wrap64 (q - 1))) else (spec_l2Search.l0 k l0 a1 a2 q 1)
def spec_l2Search.l0 : Nat → List Int → Int → Int → Int → Int → Option (List Int × Int)
  | 0, _, _, _, _, _ => none
  | k + 1, l0, a1, a2, q, v => if v ≤ a1 then (if l0.length < 4398046511104 then (if 0 ≤ a2 then (if a2 < (l0.length : Int) then ((spec_l2Clash.f k (l0.set a2.toNat v) a1).bind fun b => (if b = true then (spec_l2Search.l0 k l0 a1 a2 q (wrap64 (v + 1))) else ((spec_l2Search.f k (l0.set a2.toNat v) a1 (wrap64 (a2 + 1)) q).bind fun z => (if 0 < z.1.length then some z else (spec_l2Search.l0 k l0 a1 a2 z.2 (wrap64 (v + 1))))))) else none) else none) else none) else some ([], q)
end
theorem spec_l2Search.mono_l : ∀ k, (∀ y0 y1 y2 y3, LeO (spec_l2Search.f k y0 y1 y2 y3) (spec_l2Search.f (k + 1) y0 y1 y2 y3)) ∧ (∀ y0 y1 y2 y3 y4, LeO (spec_l2Search.l0 k y0 y1 y2 y3 y4) (spec_l2Search.l0 (k + 1) y0 y1 y2 y3 y4))
  | 0 => ⟨fun _ _ _ _ r h => by simp [spec_l2Search.f] at h, fun _ _ _ _ _ r h => by simp [spec_l2Search.l0] at h⟩
  | k + 1 => by
    obtain ⟨ih0, ih1⟩ := spec_l2Search.mono_l k
    refine ⟨?_, ?_⟩
    · intro y0 y1 y2 y3
      unfold spec_l2Search.f
      repeat' first
      | (with_reducible exact ih0 _ _ _ _)
      | (with_reducible exact ih1 _ _ _ _ _)
      | (with_reducible exact spec_l2Clash.mono _ _ _)
      | (with_reducible exact LeO.refl _)
      | (with_reducible exact LeO.none _)
      | (with_reducible refine LeO.ite ?_ ?_)
      | (with_reducible refine LeO.bind ?_ (fun _ => ?_))
      | exact ih0 _ _ _ _
      | exact ih1 _ _ _ _ _
      | exact spec_l2Clash.mono _ _ _
      | exact LeO.none _
      | refine LeO.ite ?_ ?_
      | refine LeO.bind ?_ (fun _ => ?_)
    · intro y0 y1 y2 y3 y4
      unfold spec_l2Search.l0
      repeat' first
      | (with_reducible exact ih0 _ _ _ _)
      | (with_reducible exact ih1 _ _ _ _ _)
      | (with_reducible exact spec_l2Clash.mono _ _ _)
      | (with_reducible exact LeO.refl _)
      | (with_reducible exact LeO.none _)
      | (with_reducible refine LeO.ite ?_ ?_)
      | (with_reducible refine LeO.bind ?_ (fun _ => ?_))
      | exact ih0 _ _ _ _
      | exact ih1 _ _ _ _ _
      | exact spec_l2Clash.mono _ _ _
      | exact LeO.none _
      | refine LeO.ite ?_ ?_
      | refine LeO.bind ?_ (fun _ => ?_)
theorem spec_l2Search.mono : ∀ a0 a1 a2 a3 k, LeO (spec_l2Search.f k a0 a1 a2 a3) (spec_l2Search.f (k + 1) a0 a1 a2 a3) := by
  intro a0 a1 a2 a3 k
  obtain ⟨ih0, ih1⟩ := spec_l2Search.mono_l k
  exact ih0 a0 a1 a2 a3
/-- What a call of l2Search leaves. -/
def L2Post (W0 : World) (g : Nat) (w : World) (r : List Int × Int) (e : Ending) (w' : World) : Prop :=
  ∃ v : Value, e = .returned v ∧ Kd.R (Kd.int .i64) 3 w' W0.heap.size (fun k => k ≠ g) v r.1 ∧ Below W0.heap.size W0 w' ∧ w'.heap[g]? = some (Obj.cells #[.int .i64 r.2] 3 (0, 0)) ∧ Kept w w' (fun k => k = g)
set_option maxHeartbeats 8000000 in
set_option maxRecDepth 100000 in
theorem spec_l2Search.calls (W0 : World) (g : Nat) (hg0 : W0.heap.size ≤ g) (a1 : Int) (k : Nat) : ∀ (A0 : Option Addr) (c0 : Nat) (l0 : List Int) (a2 q : Int) (r : List Int × Int) (w : World) (hb : Below W0.heap.size W0 w)
    (hr0 : Kd.R (Kd.int .i64) 3 w W0.heap.size (fun k => k ≠ g) (.slice A0 l0.length c0) l0) (hl : w.heap[g]? = some (Obj.cells #[.int .i64 q] 3 (0, 0))) (h : spec_l2Search.f k l0 a1 a2 q = some r),
    Calls Try.prog 52 #[.slice A0 l0.length c0, .int .i64 a1, .int .i64 a2, .pointer (some ⟨g, 0, none⟩)] w (L2Post W0 g w r) := by
  induction k using Nat.strongRecOn with
  | _ k ih =>
  cases k with
  | zero => intro A0 c0 l0 a2 q r w hb hr0 hl h; exact absurd h (by simp [spec_l2Search.f])
  | succ k =>
    intro A0 c0 l0 a2 q r w hb hr0 hl h
    rw [spec_l2Search.f] at h
    have hi3 : (Try.prog.info? 3).map (fun i => (i.zero, i.size, i.bytes)) = some (some (.int .i64 0), 1, 8) := by kernel_rfl
    have HB := Aside0.mk hb
    have HX := Aside0.mk hr0
    have HL := Aside0.mk hl
    have HIH := Aside0.mk ih
    clear hb hr0 hl ih
    by_cases c1 : a2 = (l0.length : Int)
    · rw [if_pos c1] at h
      have b1 : (a2 == (l0.length : Int)) = true := beq_iff_eq.mpr c1
      have hcell : w.cell? ⟨g, 0, none⟩ = some (.int .i64 q) := blk_cell HL.out 0
      have hfz : w.frozen? ⟨g, 0, none⟩ = false := blk_frozen HL.out 0
      clear c1
      by_cases c2 : q = 0
      · rw [if_pos c2] at h
        have b2 : (q == 0) = true := beq_iff_eq.mpr c2
        obtain rfl := Option.some.inj h
        clear h c2
        go_enter Try.func52, Try.ntmps52
        go_wp2_with fail
        go_ret
        exact ⟨_, rfl, HX.out, HB.out, HL.out, Kept.refl _ _⟩
      · rw [if_neg c2] at h
        have b2 : (q == 0) = false := beq_eq_false_iff_ne.mpr c2
        obtain rfl := Option.some.inj h
        clear h c2
        go_enter Try.func52, Try.ntmps52
        go_wp2_with fail
        go_ret
        exact ⟨_, rfl, Kd.R_nil _ _ _ _ _, HB.out.setCell hg0 _, blk_put HL.out 0 _ rfl, Kept.setCell (Kept.refl w (fun k => k = g)) (p := ⟨g, 0, none⟩) (.inl rfl) _⟩
    · rw [if_neg c1] at h
      have b1 : (a2 == (l0.length : Int)) = false := beq_eq_false_iff_ne.mpr c1
      have HH := Aside0.mk h
      clear h c1
      go_enter Try.func52, Try.ntmps52
      go_wp2_with fail
      go_loopg [9] k (fun kq v9 w' => ∃ (q i : Int), v9 = .int .i64 i ∧ Aside0 (spec_l2Search.l0 kq l0 a1 a2 q i = some r) ∧ Aside0 (kq ≤ k) ∧ Aside0 (Below W0.heap.size W0 w') ∧ Aside0 (Kd.R (Kd.int .i64) 3 w' W0.heap.size (fun k => k ≠ g) (.slice A0 l0.length c0) l0) ∧ Aside0 (w'.heap[g]? = some (Obj.cells #[.int .i64 q] 3 (0, 0))) ∧ Aside0 (Kept w w' (fun k => k = g)))
      case atStart => exact ⟨q, 1, rfl, HH, ⟨Nat.le_refl _⟩, HB, HX, HL, ⟨Kept.refl _ _⟩⟩
      case round =>
        clear HH HB HL
        have HX0 := HX
        clear HX
        obtain ⟨q, v, rfl, HA, HK, HB, HX, HL, HKp⟩ := hrel
        clear HX0
        cases gk with
        | zero => exact absurd HA.out (by simp [spec_l2Search.l0])
        | succ k1 =>
          have H := HA.out
          clear HA
          rw [spec_l2Search.l0] at H
          by_cases c5 : v ≤ a1
          · rw [if_pos c5] at H
            have c5b0 : decide (v ≤ a1) = true := decide_eq_true c5
            clear c5
            by_cases c6 : l0.length < 4398046511104
            · rw [if_pos c6] at H
              have LM := Aside0.mk c6
              clear c6
              by_cases c7 : 0 ≤ a2
              · rw [if_pos c7] at H
                by_cases c8 : a2 < (l0.length : Int)
                · rw [if_pos c8] at H
                  have p6 := Aside0.mk c7
                  have q6 := Aside0.mk c8
                  have p7 := eq_true c7
                  have q7 := eq_true c8
                  have LP : Aside0 (0 < l0.length) := ⟨by omega⟩
                  have HB0 := Aside0.mk (Below.refl wr.heap.size wr)
                  obtain ⟨y, hy⟩ : ∃ y_ : List Int, y_ = l0.set a2.toNat v := ⟨_, rfl⟩
                  rw [← hy] at H
                  have Ny := Aside0.mk hy
                  have Ly : Aside0 (y.length = l0.length) := ⟨by rw [hy, List.length_set]⟩
                  clear hy c7 c8
                  replace H := Option.bind_eq_some_iff.mp H
                  obtain ⟨b, Hb, H⟩ := H
                  have HS := Aside0.mk Hb
                  clear Hb
                  cases b with
                  | true =>
                    replace H : spec_l2Search.l0 k1 l0 a1 a2 q (wrap64 (v + 1)) = some r := H
                    have HH := Aside0.mk H
                    clear H
                    go_wp2_with (first | ((with_reducible refine gate_dst (N := 32) rfl ?_); refine Kd.R_lit (Kd.int .i64) (w0 := wr) wr.heap.size 3 ?hg (N := 32) ?hd (xs := ([] : List Int)) (inner := []) (ok := fun _ => True) (okp := fun _ => True) ?hr ?hp (fun _ hk => hk) trivial HB0.out HB0.out.size (by simp) ?_; (case hd => rfl); (case hg => rfl); (case hr => first | (go_simp; done) | (go_simp; rfl)); (case hp => exact Reps.none _ _); intro vn w1 ho hb hg_ hnew_; have n0_ := Aside0.mk (ho); have n1_ := Aside0.mk (hb); (try clear HN); (try clear HB0); have HN := n0_; have HB0 := n1_; clear n0_ n1_; (try clear ho); (try clear hb); (try clear hg_); (try clear hnew_)) | ((with_reducible refine gate_builtin (b := .append) (xs := #[.tmp 32, .tmp 33]) rfl ?_); at_builtin; refine Kd.R_append_rows (Kd.int .i64) (w0 := wr) wr.heap.size rfl (.tmp 32) (.tmp 33) 25 3 (.int .i64 0) 8 rfl Try.underlying25 hi3 rfl (by decide) (by omega) vn [] l0 _ _ _ (fun _ => True) (fun _ => False) rfl rfl ?aO ?aR (fun _ _ h => h) (fun _ h => h.elim) ?aF ?aB ?aS ?aL ?_; (case aR => exact Kd.C_below (Kd.R_reads' HX.out).2.2 HB0.out); (case aB => exact HB0.out); (case aF => exact fun _ _ => trivial); (case aO => exact HN.out); (case aS => exact HB0.out.size); (case aL => have := LM.out; simp; omega); intro v29 w2 ho hb hg hat; rw [List.nil_append] at ho; obtain ⟨gn, cn, en, hgn1, hgn2, hgn3⟩ := Kd.R_form ho LP.out; subst en; obtain ⟨hxn, hfn⟩ := Kd.R_celln 0 ho a2 p6.out q6.out; have HGN := Aside0.mk hgn1; have n0_ := Aside0.mk (ho); have n1_ := Aside0.mk (hb); (try clear HN); (try clear HB0); have HN := n0_; have HB0 := n1_; clear n0_ n1_; (try clear ho); (try clear hb); (try clear hg); (try clear hat); (try clear hgn1); (try clear hgn2); (try clear hgn3)) | ((with_reducible refine gate_callee (f := 73) rfl ?_); have hny : Kd.R (Kd.int .i64) 3 _ wr.heap.size (fun _ => True) (.slice (some ⟨gn, 0, none⟩) l0.length cn) (l0.set a2.toNat v) := (Kd.R_putg HN.out a2 v).1; rw [← Ny.out, ← Ly.out] at hny; have hb0 := HB0.out.setCell (p := ⟨gn, a2.toNat, none⟩) HGN.out (.int .i64 v); have n0_ := Aside0.mk (hny); have n1_ := Aside0.mk (hb0); (try clear HN); (try clear HB0); have HN := n0_; have HB0 := n1_; clear n0_ n1_; (try clear hny); (try clear hb0); (try clear hxn); (try clear hfn); refine goesL_ (some 41) rfl rfl Try.func73 (by kernel_rfl) rfl #[.slice (some ⟨gn, 0, none⟩) y.length cn, .int .i64 a1] rfl (by (try simp only [List.map_toArray, List.map_cons, List.map_nil]); first | done | rfl | (rw [Ly.out] <;> rfl)) ?_; (with_reducible refine (spec_l2Clash.calls k1 _ _ y a1 _ _ (Kd.R_reads' HN.out).2.2 (Kd.R_reads' HN.out).2.1 HS.out).mono ?_); rintro e wb ⟨rfl, hd⟩; have n0_ := Aside0.mk (Kd.R_below HN.out hd); have n1_ := Aside0.mk (below_step HB0.out hd); (try clear HN); (try clear HB0); have HN := n0_; have HB0 := n1_; clear n0_ n1_; (try clear hd); refine ⟨_, rfl, ?_⟩))
                    go_roundg k1
                    case measure => have := HK.out; omega
                    case rel => exact ⟨q, wrap64 (v + 1), rfl, HH, ⟨by have := HK.out; omega⟩, ⟨below_step HB.out HB0.out⟩, ⟨Kd.R_below HX.out HB0.out⟩, ⟨(HB0.out.block g (lt_of_some HL.out)).trans HL.out⟩, ⟨HKp.out.below HB0.out⟩⟩
                  | false =>
                    replace H : ((spec_l2Search.f k1 y a1 (wrap64 (a2 + 1)) q).bind fun z => (if 0 < z.1.length then some z else (spec_l2Search.l0 k1 l0 a1 a2 z.2 (wrap64 (v + 1))))) = some r := H
                    replace H := Option.bind_eq_some_iff.mp H
                    obtain ⟨z, Hz, H⟩ := H
                    have HZ := Aside0.mk Hz
                    clear Hz
                    by_cases c9 : 0 < z.1.length
                    · rw [if_pos c9] at H
                      have b9 : decide (0 < (z.1.length : Int)) = true := decide_eq_true (by omega)
                      have b9a : decide (0 < z.1.length) = true := decide_eq_true c9
                      have b9b : ¬ (z.1 = []) := fun e => by rw [e] at c9; exact absurd c9 (by simp)
                      obtain rfl := Option.some.inj H
                      clear H c9
                      go_wp2_with (first | ((with_reducible refine gate_dst (N := 32) rfl ?_); refine Kd.R_lit (Kd.int .i64) (w0 := wr) wr.heap.size 3 ?hg (N := 32) ?hd (xs := ([] : List Int)) (inner := []) (ok := fun _ => True) (okp := fun _ => True) ?hr ?hp (fun _ hk => hk) trivial HB0.out HB0.out.size (by simp) ?_; (case hd => rfl); (case hg => rfl); (case hr => first | (go_simp; done) | (go_simp; rfl)); (case hp => exact Reps.none _ _); intro vn w1 ho hb hg_ hnew_; have n0_ := Aside0.mk (ho); have n1_ := Aside0.mk (hb); (try clear HN); (try clear HB0); have HN := n0_; have HB0 := n1_; clear n0_ n1_; (try clear ho); (try clear hb); (try clear hg_); (try clear hnew_)) | ((with_reducible refine gate_builtin (b := .append) (xs := #[.tmp 32, .tmp 33]) rfl ?_); at_builtin; refine Kd.R_append_rows (Kd.int .i64) (w0 := wr) wr.heap.size rfl (.tmp 32) (.tmp 33) 25 3 (.int .i64 0) 8 rfl Try.underlying25 hi3 rfl (by decide) (by omega) vn [] l0 _ _ _ (fun _ => True) (fun _ => False) rfl rfl ?aO ?aR (fun _ _ h => h) (fun _ h => h.elim) ?aF ?aB ?aS ?aL ?_; (case aR => exact Kd.C_below (Kd.R_reads' HX.out).2.2 HB0.out); (case aB => exact HB0.out); (case aF => exact fun _ _ => trivial); (case aO => exact HN.out); (case aS => exact HB0.out.size); (case aL => have := LM.out; simp; omega); intro v29 w2 ho hb hg hat; rw [List.nil_append] at ho; obtain ⟨gn, cn, en, hgn1, hgn2, hgn3⟩ := Kd.R_form ho LP.out; subst en; obtain ⟨hxn, hfn⟩ := Kd.R_celln 0 ho a2 p6.out q6.out; have HGN := Aside0.mk hgn1; have n0_ := Aside0.mk (ho); have n1_ := Aside0.mk (hb); (try clear HN); (try clear HB0); have HN := n0_; have HB0 := n1_; clear n0_ n1_; (try clear ho); (try clear hb); (try clear hg); (try clear hat); (try clear hgn1); (try clear hgn2); (try clear hgn3)) | ((with_reducible refine gate_callee (f := 73) rfl ?_); have hny : Kd.R (Kd.int .i64) 3 _ wr.heap.size (fun _ => True) (.slice (some ⟨gn, 0, none⟩) l0.length cn) (l0.set a2.toNat v) := (Kd.R_putg HN.out a2 v).1; rw [← Ny.out, ← Ly.out] at hny; have hb0 := HB0.out.setCell (p := ⟨gn, a2.toNat, none⟩) HGN.out (.int .i64 v); have n0_ := Aside0.mk (hny); have n1_ := Aside0.mk (hb0); (try clear HN); (try clear HB0); have HN := n0_; have HB0 := n1_; clear n0_ n1_; (try clear hny); (try clear hb0); (try clear hxn); (try clear hfn); refine goesL_ (some 41) rfl rfl Try.func73 (by kernel_rfl) rfl #[.slice (some ⟨gn, 0, none⟩) y.length cn, .int .i64 a1] rfl (by (try simp only [List.map_toArray, List.map_cons, List.map_nil]); first | done | rfl | (rw [Ly.out] <;> rfl)) ?_; (with_reducible refine (spec_l2Clash.calls k1 _ _ y a1 _ _ (Kd.R_reads' HN.out).2.2 (Kd.R_reads' HN.out).2.1 HS.out).mono ?_); rintro e wb ⟨rfl, hd⟩; have n0_ := Aside0.mk (Kd.R_below HN.out hd); have n1_ := Aside0.mk (below_step HB0.out hd); (try clear HN); (try clear HB0); have HN := n0_; have HB0 := n1_; clear n0_ n1_; (try clear hd); refine ⟨_, rfl, ?_⟩) | ((with_reducible refine gate_callee (f := 52) rfl ?_); refine goesL_ (some 47) rfl rfl Try.func52 (by kernel_rfl) rfl #[.slice (some ⟨gn, 0, none⟩) y.length cn, .int .i64 a1, .int .i64 (wrap64 (a2 + 1)), .pointer (some ⟨g, 0, none⟩)] rfl (by (try simp only [List.map_toArray, List.map_cons, List.map_nil]); first | done | rfl | (rw [Ly.out] <;> rfl)) ?_; (with_reducible refine (HIH.out k1 (by have := HK.out; omega) _ _ y (wrap64 (a2 + 1)) q z _ (below_step HB.out HB0.out) (Kd.R_lower (Kd.R_mono (Kd.R_bound HN.out) (fun k hk => (by have h1 := lt_of_some HL.out; have h2 := hk.2.1; omega))) HB.out.size) ((HB0.out.block g (lt_of_some HL.out)).trans HL.out) HZ.out).mono ?_); rintro e wb ⟨vz, rfl, hz1, hz2, hz3, hz4⟩; have n0_ := Aside0.mk (hz1); have n1_ := Aside0.mk (hz2); have n2_ := Aside0.mk (hz3); have n3_ := Aside0.mk (((HKp.out.below HB0.out).then_ hz4 (fun k hk => .inl hk))); (try clear HR2); (try clear HB2); (try clear HL2); (try clear HK2); have HR2 := n0_; have HB2 := n1_; have HL2 := n2_; have HK2 := n3_; clear n0_ n1_ n2_ n3_; have HBC := HB0; have HK3 := Aside0.mk hz4; (try clear hz1); (try clear hz2); (try clear hz3); (try clear hz4); obtain ⟨Az, cz, ez⟩ := Kd.R_slice HR2.out; subst ez; refine ⟨_, rfl, ?_⟩))
                      go_ret
                      exact ⟨_, rfl, HR2.out, HB2.out, HL2.out, HK2.out⟩
                    · rw [if_neg c9] at H
                      have b9 : decide (0 < (z.1.length : Int)) = false := decide_eq_false (by omega)
                      have b9a : decide (0 < z.1.length) = false := decide_eq_false c9
                      have b9b : z.1 = [] := List.eq_nil_of_length_eq_zero (by omega)
                      replace b9b := eq_true b9b
                      have HH := Aside0.mk H
                      clear H c9
                      go_wp2_with (first | ((with_reducible refine gate_dst (N := 32) rfl ?_); refine Kd.R_lit (Kd.int .i64) (w0 := wr) wr.heap.size 3 ?hg (N := 32) ?hd (xs := ([] : List Int)) (inner := []) (ok := fun _ => True) (okp := fun _ => True) ?hr ?hp (fun _ hk => hk) trivial HB0.out HB0.out.size (by simp) ?_; (case hd => rfl); (case hg => rfl); (case hr => first | (go_simp; done) | (go_simp; rfl)); (case hp => exact Reps.none _ _); intro vn w1 ho hb hg_ hnew_; have n0_ := Aside0.mk (ho); have n1_ := Aside0.mk (hb); (try clear HN); (try clear HB0); have HN := n0_; have HB0 := n1_; clear n0_ n1_; (try clear ho); (try clear hb); (try clear hg_); (try clear hnew_)) | ((with_reducible refine gate_builtin (b := .append) (xs := #[.tmp 32, .tmp 33]) rfl ?_); at_builtin; refine Kd.R_append_rows (Kd.int .i64) (w0 := wr) wr.heap.size rfl (.tmp 32) (.tmp 33) 25 3 (.int .i64 0) 8 rfl Try.underlying25 hi3 rfl (by decide) (by omega) vn [] l0 _ _ _ (fun _ => True) (fun _ => False) rfl rfl ?aO ?aR (fun _ _ h => h) (fun _ h => h.elim) ?aF ?aB ?aS ?aL ?_; (case aR => exact Kd.C_below (Kd.R_reads' HX.out).2.2 HB0.out); (case aB => exact HB0.out); (case aF => exact fun _ _ => trivial); (case aO => exact HN.out); (case aS => exact HB0.out.size); (case aL => have := LM.out; simp; omega); intro v29 w2 ho hb hg hat; rw [List.nil_append] at ho; obtain ⟨gn, cn, en, hgn1, hgn2, hgn3⟩ := Kd.R_form ho LP.out; subst en; obtain ⟨hxn, hfn⟩ := Kd.R_celln 0 ho a2 p6.out q6.out; have HGN := Aside0.mk hgn1; have n0_ := Aside0.mk (ho); have n1_ := Aside0.mk (hb); (try clear HN); (try clear HB0); have HN := n0_; have HB0 := n1_; clear n0_ n1_; (try clear ho); (try clear hb); (try clear hg); (try clear hat); (try clear hgn1); (try clear hgn2); (try clear hgn3)) | ((with_reducible refine gate_callee (f := 73) rfl ?_); have hny : Kd.R (Kd.int .i64) 3 _ wr.heap.size (fun _ => True) (.slice (some ⟨gn, 0, none⟩) l0.length cn) (l0.set a2.toNat v) := (Kd.R_putg HN.out a2 v).1; rw [← Ny.out, ← Ly.out] at hny; have hb0 := HB0.out.setCell (p := ⟨gn, a2.toNat, none⟩) HGN.out (.int .i64 v); have n0_ := Aside0.mk (hny); have n1_ := Aside0.mk (hb0); (try clear HN); (try clear HB0); have HN := n0_; have HB0 := n1_; clear n0_ n1_; (try clear hny); (try clear hb0); (try clear hxn); (try clear hfn); refine goesL_ (some 41) rfl rfl Try.func73 (by kernel_rfl) rfl #[.slice (some ⟨gn, 0, none⟩) y.length cn, .int .i64 a1] rfl (by (try simp only [List.map_toArray, List.map_cons, List.map_nil]); first | done | rfl | (rw [Ly.out] <;> rfl)) ?_; (with_reducible refine (spec_l2Clash.calls k1 _ _ y a1 _ _ (Kd.R_reads' HN.out).2.2 (Kd.R_reads' HN.out).2.1 HS.out).mono ?_); rintro e wb ⟨rfl, hd⟩; have n0_ := Aside0.mk (Kd.R_below HN.out hd); have n1_ := Aside0.mk (below_step HB0.out hd); (try clear HN); (try clear HB0); have HN := n0_; have HB0 := n1_; clear n0_ n1_; (try clear hd); refine ⟨_, rfl, ?_⟩) | ((with_reducible refine gate_callee (f := 52) rfl ?_); refine goesL_ (some 47) rfl rfl Try.func52 (by kernel_rfl) rfl #[.slice (some ⟨gn, 0, none⟩) y.length cn, .int .i64 a1, .int .i64 (wrap64 (a2 + 1)), .pointer (some ⟨g, 0, none⟩)] rfl (by (try simp only [List.map_toArray, List.map_cons, List.map_nil]); first | done | rfl | (rw [Ly.out] <;> rfl)) ?_; (with_reducible refine (HIH.out k1 (by have := HK.out; omega) _ _ y (wrap64 (a2 + 1)) q z _ (below_step HB.out HB0.out) (Kd.R_lower (Kd.R_mono (Kd.R_bound HN.out) (fun k hk => (by have h1 := lt_of_some HL.out; have h2 := hk.2.1; omega))) HB.out.size) ((HB0.out.block g (lt_of_some HL.out)).trans HL.out) HZ.out).mono ?_); rintro e wb ⟨vz, rfl, hz1, hz2, hz3, hz4⟩; have n0_ := Aside0.mk (hz1); have n1_ := Aside0.mk (hz2); have n2_ := Aside0.mk (hz3); have n3_ := Aside0.mk (((HKp.out.below HB0.out).then_ hz4 (fun k hk => .inl hk))); (try clear HR2); (try clear HB2); (try clear HL2); (try clear HK2); have HR2 := n0_; have HB2 := n1_; have HL2 := n2_; have HK2 := n3_; clear n0_ n1_ n2_ n3_; have HBC := HB0; have HK3 := Aside0.mk hz4; (try clear hz1); (try clear hz2); (try clear hz3); (try clear hz4); obtain ⟨Az, cz, ez⟩ := Kd.R_slice HR2.out; subst ez; refine ⟨_, rfl, ?_⟩))
                      go_roundg k1
                      case measure => have := HK.out; omega
                      case rel => exact ⟨z.2, wrap64 (v + 1), rfl, HH, ⟨by have := HK.out; omega⟩, HB2, ⟨Kd.R_kept (Kd.R_below HX.out HBC.out) HK3.out (fun k h1 h2 => h1 h2)⟩, HL2, HK2⟩
                · rw [if_neg c8] at H
                  exact absurd H (by simp)
              · rw [if_neg c7] at H
                exact absurd H (by simp)
            · rw [if_neg c6] at H
              exact absurd H (by simp)
          · rw [if_neg c5] at H
            have c5b0 : decide (v ≤ a1) = false := decide_eq_false c5
            clear c5
            obtain rfl := Option.some.inj H
            clear H
            go_wp2_with fail
            go_ret
            exact ⟨_, rfl, Kd.R_nil _ _ _ _ _, HB.out, HL.out, HKp.out⟩
def spec_SquareNumber.f (k : Nat) (a0 a1 : Int) : Option (List Int) := (spec_l1In.f a0 2 4).bind fun t => (if t = true then (if a1 < 0 then some [] else (if 0 ≤ wrap64 (a0 * a0) then (if (wrap64 (a0 * a0)).toNat ≤ 35184372088832 then ((spec_l2Search.f k (List.replicate (wrap64 (a0 * a0)).toNat 0) a0 0 a1).bind fun z => (if z.1.length < 4398046511104 then some z.1 else none)) else none) else none)) else some [])
theorem spec_SquareNumber.mono : ∀ a0 a1 k, LeO (spec_SquareNumber.f k a0 a1) (spec_SquareNumber.f (k + 1) a0 a1) := by
  intro a0 a1 k
  unfold spec_SquareNumber.f
  repeat' first
      | (with_reducible exact spec_l2Search.mono _ _ _ _ _)
      | (with_reducible exact LeO.refl _)
      | (with_reducible exact LeO.none _)
      | (with_reducible refine LeO.ite ?_ ?_)
      | (with_reducible refine LeO.bind ?_ (fun _ => ?_))
      | exact spec_l2Search.mono _ _ _ _ _
      | exact LeO.none _
      | refine LeO.ite ?_ ?_
      | refine LeO.bind ?_ (fun _ => ?_)
set_option maxHeartbeats 8000000 in
set_option maxRecDepth 100000 in
theorem spec_SquareNumber.calls (k : Nat) (a0 a1 : Int) (r : List Int) (w : World) (h : spec_SquareNumber.f k a0 a1 = some r) :
    Calls Try.prog 17 #[.int .i64 a0, .int .i64 a1] w fun e w' => ∃ v0_ : Value, e = .returned (v0_) ∧ Kd.R (Kd.int .i64) 3 w' w.heap.size (fun _ => True) v0_ r ∧ Below w.heap.size w w' := by
  have hi3 : (Try.prog.info? 3).map (fun i => (i.zero, i.size, i.bytes)) = some (some (.int .i64 0), 1, 8) := by kernel_rfl
  unfold spec_SquareNumber.f at h
  obtain ⟨t, ht, h⟩ := Option.bind_eq_some_iff.mp h
  have HA := Aside0.mk ht
  have HB := Aside0.mk (Below.refl w.heap.size w)
  clear ht
  cases t with
  | false =>
    have e0 : [] = r := Option.some.inj h
    subst e0
    clear h
    go_enter Try.func17, Try.ntmps17
    go_wp2_with (first | ((with_reducible refine gate_callee (f := 51) rfl ?_); refine goesL_ (some 9) rfl rfl Try.func51 (by kernel_rfl) rfl #[.int .i64 a0, .int .i64 2, .int .i64 4] rfl (by (try simp only [List.map_toArray, List.map_cons, List.map_nil]); first | done | rfl) ?_; (with_reducible refine (spec_l1In.calls a0 2 4 _ _ HA.out).mono ?_); rintro e wb ⟨rfl, hd⟩; have hb := drawn_below hd; have n0_ := Aside0.mk (below_step HB.out hb); (try clear HB); have HB := n0_; clear n0_; (try clear hb); (try clear hd); refine ⟨_, rfl, ?_⟩) | ((with_reducible refine gate_dst (N := 15) rfl ?_); refine Kd.R_lit (Kd.int .i64) (w0 := w) w.heap.size 3 ?hg (N := 15) ?hd (xs := ([] : List Int)) (inner := []) (ok := fun _ => True) (okp := fun _ => True) ?hr ?hp (fun _ hk => hk) trivial HB.out HB.out.size (by simp) ?_; (case hd => rfl); (case hg => rfl); (case hr => first | (go_simp; done) | (go_simp; rfl)); (case hp => exact Reps.none _ _); intro vn w1 ho hb hg_ hnew_; have n0_ := Aside0.mk (ho); have n1_ := Aside0.mk (hb); (try clear HN); (try clear HB); have HN := n0_; have HB := n1_; clear n0_ n1_; (try clear ho); (try clear hb); (try clear hg_); (try clear hnew_)))
    go_ret
    exact ⟨_, rfl, HN.out, HB.out⟩
  | true =>
    replace h : (if a1 < 0 then some [] else (if 0 ≤ wrap64 (a0 * a0) then (if (wrap64 (a0 * a0)).toNat ≤ 35184372088832 then ((spec_l2Search.f k (List.replicate (wrap64 (a0 * a0)).toNat 0) a0 0 a1).bind fun z => (if z.1.length < 4398046511104 then some z.1 else none)) else none) else none)) = some r := h
    by_cases c1 : a1 < 0
    · rw [if_pos c1] at h
      obtain rfl := Option.some.inj h
      have b1 : decide (a1 < 0) = true := decide_eq_true c1
      clear h c1
      go_enter Try.func17, Try.ntmps17
      go_wp2_with (first | ((with_reducible refine gate_callee (f := 51) rfl ?_); refine goesL_ (some 9) rfl rfl Try.func51 (by kernel_rfl) rfl #[.int .i64 a0, .int .i64 2, .int .i64 4] rfl (by (try simp only [List.map_toArray, List.map_cons, List.map_nil]); first | done | rfl) ?_; (with_reducible refine (spec_l1In.calls a0 2 4 _ _ HA.out).mono ?_); rintro e wb ⟨rfl, hd⟩; have hb := drawn_below hd; have n0_ := Aside0.mk (below_step HB.out hb); (try clear HB); have HB := n0_; clear n0_; (try clear hb); (try clear hd); refine ⟨_, rfl, ?_⟩) | ((with_reducible refine gate_dst (N := 15) rfl ?_); refine Kd.R_lit (Kd.int .i64) (w0 := w) w.heap.size 3 ?hg (N := 15) ?hd (xs := ([] : List Int)) (inner := []) (ok := fun _ => True) (okp := fun _ => True) ?hr ?hp (fun _ hk => hk) trivial HB.out HB.out.size (by simp) ?_; (case hd => rfl); (case hg => rfl); (case hr => first | (go_simp; done) | (go_simp; rfl)); (case hp => exact Reps.none _ _); intro vn w1 ho hb hg_ hnew_; have n0_ := Aside0.mk (ho); have n1_ := Aside0.mk (hb); (try clear HN); (try clear HB); have HN := n0_; have HB := n1_; clear n0_ n1_; (try clear ho); (try clear hb); (try clear hg_); (try clear hnew_)))
      go_ret
      exact ⟨_, rfl, HN.out, HB.out⟩
    · rw [if_neg c1] at h
      have b1 : decide (a1 < 0) = false := decide_eq_false c1
      clear c1
      by_cases c2 : 0 ≤ wrap64 (a0 * a0)
      · rw [if_pos c2] at h
        have P1 := Aside0.mk c2
        clear c2
        by_cases c3 : (wrap64 (a0 * a0)).toNat ≤ 35184372088832
        · rw [if_pos c3] at h
          have P2 : Aside0 ((wrap64 (a0 * a0)).toNat * 8 ≤ 281474976710656) := ⟨by omega⟩
          clear c3
          replace h := Option.bind_eq_some_iff.mp h
          obtain ⟨z, hz, h⟩ := h
          have HZ := Aside0.mk hz
          clear hz
          by_cases c4 : z.1.length < 4398046511104
          · rw [if_pos c4] at h
            have LM := Aside0.mk c4
            clear c4
            obtain rfl := Option.some.inj h
            clear h
            go_enter Try.func17, Try.ntmps17
            go_wp2_with (first | ((with_reducible refine gate_callee (f := 51) rfl ?_); refine goesL_ (some 9) rfl rfl Try.func51 (by kernel_rfl) rfl #[.int .i64 a0, .int .i64 2, .int .i64 4] rfl (by (try simp only [List.map_toArray, List.map_cons, List.map_nil]); first | done | rfl) ?_; (with_reducible refine (spec_l1In.calls a0 2 4 _ _ HA.out).mono ?_); rintro e wb ⟨rfl, hd⟩; have hb := drawn_below hd; have n0_ := Aside0.mk (below_step HB.out hb); (try clear HB); have HB := n0_; clear n0_; (try clear hb); (try clear hd); refine ⟨_, rfl, ?_⟩) | ((with_reducible refine gate_dst (N := 20) rfl ?_); (refine Kd.R_make (Kd.int .i64) (w0 := w) w.heap.size 3 rfl (N := 20) rfl 25 _ _ rfl (wrap64 (a0 * a0)) rfl rfl Try.underlying25 (.int .i64 0) 8 hi3 rfl (by decide) (by omega) 0 (ok := fun k => k ≠ wb.heap.size) (okp := fun k => k ≠ wb.heap.size) rfl (fun _ hk => hk) (by simp) P1.out P2.out (HB.out.alloc HB.out.size _) (by have := HB.out.size; simp; omega) ?_; intro vo w4 ho5 hb hg_ hnew_; clear hnew_; have HO := Aside0.mk ho5; have HC : Aside0 (w4.heap[wb.heap.size]? = some (Obj.cells #[.int .i64 a1] 3 (0, 0))) := ⟨blk_grown (blk_new wb _) hg_ (by simp)⟩; have HG0 := Aside0.mk HB.out.size; clear HB; have HB := Aside0.mk hb; clear hb ho5 hg_; obtain ⟨Av, cv, ev⟩ := Kd.R_slice HO.out; subst ev)) | ((with_reducible refine gate_callee (f := 52) rfl ?_); refine goesL_ (some 23) rfl rfl Try.func52 (by kernel_rfl) rfl #[.slice Av (List.replicate (wrap64 (a0 * a0)).toNat (0 : Int)).length cv, .int .i64 a0, .int .i64 0, .pointer (some ⟨wb.heap.size, 0, none⟩)] rfl (by (try simp only [List.map_toArray, List.map_cons, List.map_nil]); first | done | rfl | (rw [List.length_replicate] <;> rfl)) ?_; (with_reducible refine (spec_l2Search.calls w wb.heap.size HG0.out a0 k Av cv (List.replicate (wrap64 (a0 * a0)).toNat 0) 0 a1 z _ HB.out HO.out HC.out HZ.out).mono ?_); rintro e wb ⟨vz, rfl, hz1, hz2, hz3, hz4⟩; have n0_ := Aside0.mk (hz1); have n1_ := Aside0.mk (hz2); (try clear HR2); (try clear HB); have HR2 := n0_; have HB := n1_; clear n0_ n1_; (try clear hz1); (try clear hz2); (try clear hz3); (try clear hz4); (try clear HO); (try clear HC); obtain ⟨Az, cz, ez⟩ := Kd.R_slice HR2.out; subst ez; refine ⟨_, rfl, ?_⟩) | ((with_reducible refine gate_dst (N := 24) rfl ?_); refine Kd.R_lit (Kd.int .i64) (w0 := w) w.heap.size 3 ?hg (N := 24) ?hd (xs := ([] : List Int)) (inner := []) (ok := fun _ => True) (okp := fun _ => True) ?hr ?hp (fun _ hk => hk) trivial HB.out HB.out.size (by simp) ?_; (case hd => rfl); (case hg => rfl); (case hr => first | (go_simp; done) | (go_simp; rfl)); (case hp => exact Reps.none _ _); intro vn w1 ho hb hg_ hnew_; have n0_ := Aside0.mk (ho); have n1_ := Aside0.mk (Kd.R_grown HR2.out hg_ (by simp)); have n2_ := Aside0.mk (hb); (try clear HN); (try clear HR2); (try clear HB); have HN := n0_; have HR2 := n1_; have HB := n2_; clear n0_ n1_ n2_; (try clear ho); (try clear hb); (try clear hg_); (try clear hnew_)) | ((with_reducible refine gate_builtin (b := .append) (xs := #[.tmp 24, .tmp 25]) rfl ?_); at_builtin; refine Kd.R_append_rows (Kd.int .i64) (w0 := w) w.heap.size rfl (.tmp 24) (.tmp 25) 25 3 (.int .i64 0) 8 rfl Try.underlying25 hi3 rfl (by decide) (by omega) vn [] z.1 _ _ _ (fun _ => True) (fun _ => False) rfl rfl ?aO ?aR (fun _ _ h => h) (fun _ h => h.elim) ?aF ?aB ?aS ?aL ?_; (case aR => exact (Kd.R_reads' HR2.out).2.2); (case aB => exact HB.out); (case aF => exact fun _ _ => trivial); (case aO => exact HN.out); (case aS => exact HB.out.size); (case aL => have := LM.out; simp; omega); intro v29 w2 ho hb hg hat; rw [List.nil_append] at ho; have n0_ := Aside0.mk (ho); have n1_ := Aside0.mk (hb); (try clear HN); (try clear HB); have HN := n0_; have HB := n1_; clear n0_ n1_; (try clear ho); (try clear hb); (try clear hg); (try clear hat)))
            go_ret
            exact ⟨_, rfl, HN.out, HB.out⟩
          · rw [if_neg c4] at h
            exact absurd h (by simp)
        · rw [if_neg c3] at h
          exact absurd h (by simp)
      · rw [if_neg c2] at h
        exact absurd h (by simp)

end Go.Proofs.Ytniinbnpdnajjaa.PFnGridForms
