-- Made by a program of this session (a changed copy of the kit print): the kit print itself does not give this text
import Derived.Test.YtcghheaelgjnfaaPFnStarsFirstx0
import Derived.Test.YtcghheaelgjnfaaPFnStarsFirstx1
import Derived.Test.YtcghheaelgjnfaaPFnStarsFirstx3
import Derived.Test.YtcghheaelgjnfaaPFnStarsFirstx4
import Derived.Test.YtcghheaelgjnfaaPFnStarsFirstx5
import Derived.Test.YtcghheaelgjnfaaPFnStarsFirstx6
namespace Go.Proofs.Ytcghheaelgjnfaa.PFnStarsFirst
open Go.RowKit Go.Proofs.YtcghheaelgjnfaaW.PrintWords Go.Proofs.YtcghheaelgjnfaaW.PrintLast Go.Proofs.YtcghheaelgjnfaaW.PrintMore
attribute [local go_sem] max2_int min2_int max_two min_two max_three min_three max_four min_four   -- for this text's walks alone
set_option linter.unusedVariables false
set_option linter.unusedSimpArgs false

/-! ### laws_FnStarsFirst: function 9 -/
mutual
def laws_FnStarsFirst.j0 : Nat → List Int → Int → List Int → Bool → Bool → Option (Bool)
  | 0, _, _, _, _, _ => none
  | k + 1, x3, x4, x5, x6, x39 => if x39 = true then (some false) else (if x6 = true then (if 0 ≤ x4 then (if (x4 : Int).toNat ≤ 281474976710656 then (laws_FnStarsFirst.l0 k x3 x4 x5 (List.replicate (x4 : Int).toNat false) 0) else (none)) else (none)) else (if (x5.length : Int) = 0 then ((laws_alive.f k).bind fun t221 => (some t221)) else (some false)))
def laws_FnStarsFirst.l0 : Nat → List Int → Int → List Int → List Bool → Int → Option (Bool)
  | 0, _, _, _, _, _ => none
  | k + 1, x3, x4, x5, x9, x10 => if x10 < (x5.length : Int) then (laws_FnStarsFirst.j2 k x3 x4 x5 x9 x10 (decide (x10 < x4))) else (laws_FnStarsFirst.j2 k x3 x4 x5 x9 x10 false)
def laws_FnStarsFirst.j2 : Nat → List Int → Int → List Int → List Bool → Int → Bool → Option (Bool)
  | 0, _, _, _, _, _, _ => none
  | k + 1, x3, x4, x5, x9, x10, x58 => if x58 = true then (if 0 ≤ x10 then (if x10 < (x5.length : Int) then (if (rd x5 x10) < 0 then (laws_FnStarsFirst.j3 k x3 x4 x5 x9 x10 true) else (if (rd x5 x10) ≥ x4 then (laws_FnStarsFirst.j3 k x3 x4 x5 x9 x10 true) else (if 0 ≤ (wrap64 ((wrap64 (x10 * x4)) + (rd x5 x10))) then (if (wrap64 ((wrap64 (x10 * x4)) + (rd x5 x10))) < (x3.length : Int) then (if 0 ≤ (rd x3 (wrap64 ((wrap64 (x10 * x4)) + (rd x5 x10)))) then (if (rd x3 (wrap64 ((wrap64 (x10 * x4)) + (rd x5 x10)))) < (x9.length : Int) then (laws_FnStarsFirst.j3 k x3 x4 x5 x9 x10 (rdOf false x9 (rd x3 (wrap64 ((wrap64 (x10 * x4)) + (rd x5 x10)))))) else (none)) else (none)) else (none)) else (none)))) else (none)) else (none)) else (if (x5.length : Int) = x4 then ((impl_StarsFit.f k x3 x4 x5).bind fun t225 => (some t225)) else (some false))
def laws_FnStarsFirst.j3 : Nat → List Int → Int → List Int → List Bool → Int → Bool → Option (Bool)
  | 0, _, _, _, _, _, _ => none
  | k + 1, x3, x4, x5, x9, x10, x89 => if x89 = true then (some false) else (if 0 ≤ x10 then (if x10 < (x5.length : Int) then (if 0 ≤ (wrap64 ((wrap64 (x10 * x4)) + (rd x5 x10))) then (if (wrap64 ((wrap64 (x10 * x4)) + (rd x5 x10))) < (x3.length : Int) then (if 0 ≤ (rd x3 (wrap64 ((wrap64 (x10 * x4)) + (rd x5 x10)))) then (if (rd x3 (wrap64 ((wrap64 (x10 * x4)) + (rd x5 x10)))) < (x9.length : Int) then (laws_FnStarsFirst.l0 k x3 x4 x5 (x9.set ((rd x3 (wrap64 ((wrap64 (x10 * x4)) + (rd x5 x10)))) : Int).toNat true) (wrap64 (x10 + 1))) else (none)) else (none)) else (none)) else (none)) else (none)) else (none))
end
def laws_FnStarsFirst.f (k : Nat) (l0 : List Int) : Option (Bool) := if (l0.length : Int) > 1048576 then (some true) else ((spec_DrawStarsFirst.f k l0).bind fun bt208 => ((impl_StarsFirst.f k bt208.1 bt208.2).bind fun bt212 => ((spec_StarsFirst.f k bt208.1 bt208.2).bind fun bt216 => ((laws_sameInts.f k bt212.1 bt216.1).bind fun t220 => (if t220 = true then (laws_FnStarsFirst.j0 k bt208.1 bt208.2 bt212.1 bt212.2 (bt212.2 != bt216.2)) else (laws_FnStarsFirst.j0 k bt208.1 bt208.2 bt212.1 bt212.2 true))))))
theorem laws_FnStarsFirst.mono_l : ∀ k, (∀ y0 y1 y2 y3 y4, LeO (laws_FnStarsFirst.j0 k y0 y1 y2 y3 y4) (laws_FnStarsFirst.j0 (k + 1) y0 y1 y2 y3 y4)) ∧ (∀ y0 y1 y2 y3 y4, LeO (laws_FnStarsFirst.l0 k y0 y1 y2 y3 y4) (laws_FnStarsFirst.l0 (k + 1) y0 y1 y2 y3 y4)) ∧ (∀ y0 y1 y2 y3 y4 y5, LeO (laws_FnStarsFirst.j2 k y0 y1 y2 y3 y4 y5) (laws_FnStarsFirst.j2 (k + 1) y0 y1 y2 y3 y4 y5)) ∧ (∀ y0 y1 y2 y3 y4 y5, LeO (laws_FnStarsFirst.j3 k y0 y1 y2 y3 y4 y5) (laws_FnStarsFirst.j3 (k + 1) y0 y1 y2 y3 y4 y5))
  | 0 => ⟨fun _ _ _ _ _ r h => by simp [laws_FnStarsFirst.j0] at h, fun _ _ _ _ _ r h => by simp [laws_FnStarsFirst.l0] at h, fun _ _ _ _ _ _ r h => by simp [laws_FnStarsFirst.j2] at h, fun _ _ _ _ _ _ r h => by simp [laws_FnStarsFirst.j3] at h⟩
  | k + 1 => by
    obtain ⟨ih0, ih1, ih2, ih3⟩ := laws_FnStarsFirst.mono_l k
    refine ⟨?_, ?_, ?_, ?_⟩
    · intro y0 y1 y2 y3 y4
      unfold laws_FnStarsFirst.j0
      repeat' first
      | (with_reducible exact ih0 _ _ _ _ _)
      | (with_reducible exact ih1 _ _ _ _ _)
      | (with_reducible exact ih2 _ _ _ _ _ _)
      | (with_reducible exact ih3 _ _ _ _ _ _)
      | (with_reducible exact impl_StarsFirst.mono _ _ _)
      | (with_reducible exact impl_StarsFit.mono _ _ _ _)
      | (with_reducible exact laws_alive.mono _)
      | (with_reducible exact laws_sameInts.mono _ _ _)
      | (with_reducible exact spec_DrawStarsFirst.mono _ _)
      | (with_reducible exact spec_StarsFirst.mono _ _ _)
      | (with_reducible exact LeO.refl _)
      | (with_reducible exact LeO.none _)
      | (with_reducible refine LeO.ite ?_ ?_)
      | (with_reducible refine LeO.bind ?_ (fun _ => ?_))
      | exact ih0 _ _ _ _ _
      | exact ih1 _ _ _ _ _
      | exact ih2 _ _ _ _ _ _
      | exact ih3 _ _ _ _ _ _
      | exact impl_StarsFirst.mono _ _ _
      | exact impl_StarsFit.mono _ _ _ _
      | exact laws_alive.mono _
      | exact laws_sameInts.mono _ _ _
      | exact spec_DrawStarsFirst.mono _ _
      | exact spec_StarsFirst.mono _ _ _
      | exact LeO.none _
      | refine LeO.ite ?_ ?_
      | refine LeO.bind ?_ (fun _ => ?_)
    · intro y0 y1 y2 y3 y4
      unfold laws_FnStarsFirst.l0
      repeat' first
      | (with_reducible exact ih0 _ _ _ _ _)
      | (with_reducible exact ih1 _ _ _ _ _)
      | (with_reducible exact ih2 _ _ _ _ _ _)
      | (with_reducible exact ih3 _ _ _ _ _ _)
      | (with_reducible exact impl_StarsFirst.mono _ _ _)
      | (with_reducible exact impl_StarsFit.mono _ _ _ _)
      | (with_reducible exact laws_alive.mono _)
      | (with_reducible exact laws_sameInts.mono _ _ _)
      | (with_reducible exact spec_DrawStarsFirst.mono _ _)
      | (with_reducible exact spec_StarsFirst.mono _ _ _)
      | (with_reducible exact LeO.refl _)
      | (with_reducible exact LeO.none _)
      | (with_reducible refine LeO.ite ?_ ?_)
      | (with_reducible refine LeO.bind ?_ (fun _ => ?_))
      | exact ih0 _ _ _ _ _
      | exact ih1 _ _ _ _ _
      | exact ih2 _ _ _ _ _ _
      | exact ih3 _ _ _ _ _ _
      | exact impl_StarsFirst.mono _ _ _
      | exact impl_StarsFit.mono _ _ _ _
      | exact laws_alive.mono _
      | exact laws_sameInts.mono _ _ _
      | exact spec_DrawStarsFirst.mono _ _
      | exact spec_StarsFirst.mono _ _ _
      | exact LeO.none _
      | refine LeO.ite ?_ ?_
      | refine LeO.bind ?_ (fun _ => ?_)
    · intro y0 y1 y2 y3 y4 y5
      unfold laws_FnStarsFirst.j2
      repeat' first
      | (with_reducible exact ih0 _ _ _ _ _)
      | (with_reducible exact ih1 _ _ _ _ _)
      | (with_reducible exact ih2 _ _ _ _ _ _)
      | (with_reducible exact ih3 _ _ _ _ _ _)
      | (with_reducible exact impl_StarsFirst.mono _ _ _)
      | (with_reducible exact impl_StarsFit.mono _ _ _ _)
      | (with_reducible exact laws_alive.mono _)
      | (with_reducible exact laws_sameInts.mono _ _ _)
      | (with_reducible exact spec_DrawStarsFirst.mono _ _)
      | (with_reducible exact spec_StarsFirst.mono _ _ _)
      | (with_reducible exact LeO.refl _)
      | (with_reducible exact LeO.none _)
      | (with_reducible refine LeO.ite ?_ ?_)
      | (with_reducible refine LeO.bind ?_ (fun _ => ?_))
      | exact ih0 _ _ _ _ _
      | exact ih1 _ _ _ _ _
      | exact ih2 _ _ _ _ _ _
      | exact ih3 _ _ _ _ _ _
      | exact impl_StarsFirst.mono _ _ _
      | exact impl_StarsFit.mono _ _ _ _
      | exact laws_alive.mono _
      | exact laws_sameInts.mono _ _ _
      | exact spec_DrawStarsFirst.mono _ _
      | exact spec_StarsFirst.mono _ _ _
      | exact LeO.none _
      | refine LeO.ite ?_ ?_
      | refine LeO.bind ?_ (fun _ => ?_)
    · intro y0 y1 y2 y3 y4 y5
      unfold laws_FnStarsFirst.j3
      repeat' first
      | (with_reducible exact ih0 _ _ _ _ _)
      | (with_reducible exact ih1 _ _ _ _ _)
      | (with_reducible exact ih2 _ _ _ _ _ _)
      | (with_reducible exact ih3 _ _ _ _ _ _)
      | (with_reducible exact impl_StarsFirst.mono _ _ _)
      | (with_reducible exact impl_StarsFit.mono _ _ _ _)
      | (with_reducible exact laws_alive.mono _)
      | (with_reducible exact laws_sameInts.mono _ _ _)
      | (with_reducible exact spec_DrawStarsFirst.mono _ _)
      | (with_reducible exact spec_StarsFirst.mono _ _ _)
      | (with_reducible exact LeO.refl _)
      | (with_reducible exact LeO.none _)
      | (with_reducible refine LeO.ite ?_ ?_)
      | (with_reducible refine LeO.bind ?_ (fun _ => ?_))
      | exact ih0 _ _ _ _ _
      | exact ih1 _ _ _ _ _
      | exact ih2 _ _ _ _ _ _
      | exact ih3 _ _ _ _ _ _
      | exact impl_StarsFirst.mono _ _ _
      | exact impl_StarsFit.mono _ _ _ _
      | exact laws_alive.mono _
      | exact laws_sameInts.mono _ _ _
      | exact spec_DrawStarsFirst.mono _ _
      | exact spec_StarsFirst.mono _ _ _
      | exact LeO.none _
      | refine LeO.ite ?_ ?_
      | refine LeO.bind ?_ (fun _ => ?_)
theorem laws_FnStarsFirst.mono : ∀ a0 k, LeO (laws_FnStarsFirst.f k a0) (laws_FnStarsFirst.f (k + 1) a0) := by
  intro a0 k
  obtain ⟨ih0, ih1, ih2, ih3⟩ := laws_FnStarsFirst.mono_l k
  unfold laws_FnStarsFirst.f
  repeat' first
      | (with_reducible exact ih0 _ _ _ _ _)
      | (with_reducible exact ih1 _ _ _ _ _)
      | (with_reducible exact ih2 _ _ _ _ _ _)
      | (with_reducible exact ih3 _ _ _ _ _ _)
      | (with_reducible exact impl_StarsFirst.mono _ _ _)
      | (with_reducible exact impl_StarsFit.mono _ _ _ _)
      | (with_reducible exact laws_alive.mono _)
      | (with_reducible exact laws_sameInts.mono _ _ _)
      | (with_reducible exact spec_DrawStarsFirst.mono _ _)
      | (with_reducible exact spec_StarsFirst.mono _ _ _)
      | (with_reducible exact LeO.refl _)
      | (with_reducible exact LeO.none _)
      | (with_reducible refine LeO.ite ?_ ?_)
      | (with_reducible refine LeO.bind ?_ (fun _ => ?_))
      | exact ih0 _ _ _ _ _
      | exact ih1 _ _ _ _ _
      | exact ih2 _ _ _ _ _ _
      | exact ih3 _ _ _ _ _ _
      | exact impl_StarsFirst.mono _ _ _
      | exact impl_StarsFit.mono _ _ _ _
      | exact laws_alive.mono _
      | exact laws_sameInts.mono _ _ _
      | exact spec_DrawStarsFirst.mono _ _
      | exact spec_StarsFirst.mono _ _ _
      | exact LeO.none _
      | refine LeO.ite ?_ ?_
      | refine LeO.bind ?_ (fun _ => ?_)
set_option maxHeartbeats 8000000 in
set_option maxRecDepth 100000 in
theorem laws_FnStarsFirst.calls (k : Nat) (A0 : Option Addr) (c0 : Nat) (l0 : List Int) (r : Bool) (w : World) (hr0 : Kd.C (Kd.int .u8) w A0 l0.length l0) (hc0 : l0.length ≤ c0) (h : laws_FnStarsFirst.f k l0 = some r) :
    Calls Try.prog 9 #[.slice A0 l0.length c0] w fun e w' => e = .returned (.bool r) ∧ Below w.heap.size w w' := by
  have HR0 := Aside0.mk hr0
  have HC0 := Aside0.mk hc0
  clear hr0 hc0
  have HB := Aside0.mk (Below.refl w.heap.size w)
  have H : (if (l0.length : Int) > 1048576 then (some true) else ((spec_DrawStarsFirst.f k l0).bind fun bt208 => ((impl_StarsFirst.f k bt208.1 bt208.2).bind fun bt212 => ((spec_StarsFirst.f k bt208.1 bt208.2).bind fun bt216 => ((laws_sameInts.f k bt212.1 bt216.1).bind fun t220 => (if t220 = true then (laws_FnStarsFirst.j0 k bt208.1 bt208.2 bt212.1 bt212.2 (bt212.2 != bt216.2)) else (laws_FnStarsFirst.j0 k bt208.1 bt208.2 bt212.1 bt212.2 true))))))) = some r := h
  clear h
  by_cases c2 : (l0.length : Int) > 1048576
  · rw [if_pos c2] at H
    have c2b0 : decide (1048576 < (l0.length : Int)) = true := decide_eq_true c2
    have c2b1 : decide (1048576 < l0.length) = true := decide_eq_true (by omega)
    clear c2
    obtain rfl := Option.some.inj H
    go_enter Try.func9, Try.ntmps9
    go_wp2
    go_ret
    exact ⟨by first | rfl | (simp [errW_none, errW_some] <;> rfl) | (simp [*, errW_none, errW_some] <;> rfl), by repeat (first | (with_reducible first | exact HB.out | apply below_alloc | apply pw_below_drewN | apply below_drew1) | exact HB.out)⟩
  · rw [if_neg c2] at H
    have c2b0 : decide (1048576 < (l0.length : Int)) = false := decide_eq_false c2
    have c2b1 : decide (1048576 < l0.length) = false := decide_eq_false (by omega)
    clear c2
    replace H := Option.bind_eq_some_iff.mp H
    obtain ⟨⟨t208, t209⟩, A30, H⟩ := H
    replace H : ((impl_StarsFirst.f k t208 t209).bind fun bt212 => ((spec_StarsFirst.f k t208 t209).bind fun bt216 => ((laws_sameInts.f k bt212.1 bt216.1).bind fun t220 => (if t220 = true then (laws_FnStarsFirst.j0 k t208 t209 bt212.1 bt212.2 (bt212.2 != bt216.2)) else (laws_FnStarsFirst.j0 k t208 t209 bt212.1 bt212.2 true))))) = some r := H
    have A3 := Aside0.mk A30
    clear A30
    replace H := Option.bind_eq_some_iff.mp H
    obtain ⟨⟨t212, t213⟩, A40, H⟩ := H
    replace H : ((spec_StarsFirst.f k t208 t209).bind fun bt216 => ((laws_sameInts.f k t212 bt216.1).bind fun t220 => (if t220 = true then (laws_FnStarsFirst.j0 k t208 t209 t212 t213 (t213 != bt216.2)) else (laws_FnStarsFirst.j0 k t208 t209 t212 t213 true)))) = some r := H
    have A4 := Aside0.mk A40
    clear A40
    replace H := Option.bind_eq_some_iff.mp H
    obtain ⟨⟨t216, t217⟩, A50, H⟩ := H
    replace H : ((laws_sameInts.f k t212 t216).bind fun t220 => (if t220 = true then (laws_FnStarsFirst.j0 k t208 t209 t212 t213 (t213 != t217)) else (laws_FnStarsFirst.j0 k t208 t209 t212 t213 true))) = some r := H
    have A5 := Aside0.mk A50
    clear A50
    have HC6 := Aside0.mk H
    clear H
    go_enter Try.func9, Try.ntmps9
    go_upto_region 6 with (first | ((with_reducible refine gate_callee (f := 23) rfl ?_); refine goesL_ (some 16) rfl rfl Try.func23 (by kernel_rfl) rfl #[.slice A0 l0.length c0] rfl (by (try simp only [List.map_toArray, List.map_cons, List.map_nil]); first | done | rfl | (simp only [List.length_drop, List.length_take]; rfl)) ?_; (with_reducible refine (spec_DrawStarsFirst.calls k _ _ l0 t208 t209 _ ?side1 ?side2 A3.out).mono ?_); (case side1 => repeat (first | exact HR0.out | (with_reducible refine Kd.C_alloc ?_ _) | (with_reducible refine Kd.C_drewN ?_ _) | (with_reducible refine Kd.C_drew ?_))); (case side2 => exact HC0.out); rintro e w7 ⟨v210, rfl, ho0, hb⟩; refine ⟨_, rfl, ?_⟩; have n0_ := Aside0.mk (Kd.Q_lower ho0 (below_size (by repeat (first | (with_reducible first | exact HB.out | apply below_alloc | apply pw_below_drewN | apply below_drew1) | exact HB.out)))); have n1_ := Aside0.mk (below_step (by repeat (first | (with_reducible first | exact HB.out | apply below_alloc | apply pw_below_drewN | apply below_drew1) | exact HB.out)) hb); clear HB; have HO211 := n0_; have HB := n1_; clear n0_ n1_; (try clear hb); (try clear hb2); (try clear hk); (try clear hi); (try clear ho0); obtain ⟨Ao8, co8, eo8, _⟩ := Kd.Q_slice HO211.out; subst eo8) | ((with_reducible refine gate_callee (f := 17) rfl ?_); refine goesL_ (some 22) rfl rfl Try.func17 (by kernel_rfl) rfl #[.slice Ao8 t208.length co8, .int .i64 t209] rfl (by (try simp only [List.map_toArray, List.map_cons, List.map_nil]); first | done | rfl | (simp only [List.length_drop, List.length_take]; rfl)) ?_; (with_reducible refine (impl_StarsFirst.calls k _ _ t208 t209 t212 t213 _ ?side1 ?side2 A4.out).mono ?_); (case side1 => repeat (first | exact (Kd.Q_reads' HO211.out).2.2 | (with_reducible refine Kd.C_alloc ?_ _) | (with_reducible refine Kd.C_drewN ?_ _) | (with_reducible refine Kd.C_drew ?_))); (case side2 => exact (Kd.Q_reads' HO211.out).2.1); rintro e w9 ⟨v214, rfl, ho0, hb⟩; refine ⟨_, rfl, ?_⟩; have n0_ := Aside0.mk (Kd.Q_elder' (by (with_reducible repeat (first | apply Kd.Q_alloc | apply Kd.Q_drewN | apply Kd.Q_drew)); exact HO211.out) (Kd.R_base ho0) hb); have n1_ := Aside0.mk (Kd.R_lower (Kd.R_new' ho0 (Kd.Q_lt (by (with_reducible repeat (first | apply Kd.Q_alloc | apply Kd.Q_drewN | apply Kd.Q_drew)); exact HO211.out))) (below_size (by repeat (first | (with_reducible first | exact HB.out | apply below_alloc | apply pw_below_drewN | apply below_drew1) | exact HB.out)))); have n2_ := Aside0.mk (below_step (by repeat (first | (with_reducible first | exact HB.out | apply below_alloc | apply pw_below_drewN | apply below_drew1) | exact HB.out)) hb); clear HO211; clear HB; have HO211 := n0_; have HO215 := n1_; have HB := n2_; clear n0_ n1_ n2_; (try clear hb); (try clear hb2); (try clear hk); (try clear hi); (try clear ho0)) | ((with_reducible refine gate_callee (f := 16) rfl ?_); refine goesL_ (some 28) rfl rfl Try.func16 (by kernel_rfl) rfl #[.slice Ao8 t208.length co8, .int .i64 t209] rfl (by (try simp only [List.map_toArray, List.map_cons, List.map_nil]); first | done | rfl | (simp only [List.length_drop, List.length_take]; rfl)) ?_; (with_reducible refine (spec_StarsFirst.calls k _ _ t208 t209 t216 t217 _ ?side1 ?side2 A5.out).mono ?_); (case side1 => repeat (first | exact (Kd.Q_reads' HO211.out).2.2 | (with_reducible refine Kd.C_alloc ?_ _) | (with_reducible refine Kd.C_drewN ?_ _) | (with_reducible refine Kd.C_drew ?_))); (case side2 => exact (Kd.Q_reads' HO211.out).2.1); rintro e w10 ⟨v218, rfl, ho0, hb⟩; refine ⟨_, rfl, ?_⟩; have n0_ := Aside0.mk (Kd.Q_elder' (by (with_reducible repeat (first | apply Kd.Q_alloc | apply Kd.Q_drewN | apply Kd.Q_drew)); exact HO211.out) (Kd.R_base ho0) hb); have n1_ := Aside0.mk (Kd.R_elder' (by (with_reducible repeat (first | apply Kd.R_alloc | apply Kd.R_drewN | apply Kd.R_drew)); exact HO215.out) (Kd.R_base ho0) hb); have n2_ := Aside0.mk (Kd.R_lower (Kd.R_new' (Kd.R_new' ho0 (Kd.Q_lt (by (with_reducible repeat (first | apply Kd.Q_alloc | apply Kd.Q_drewN | apply Kd.Q_drew)); exact HO211.out))) (Kd.R_lt (by (with_reducible repeat (first | apply Kd.R_alloc | apply Kd.R_drewN | apply Kd.R_drew)); exact HO215.out))) (below_size (by repeat (first | (with_reducible first | exact HB.out | apply below_alloc | apply pw_below_drewN | apply below_drew1) | exact HB.out)))); have n3_ := Aside0.mk (below_step (by repeat (first | (with_reducible first | exact HB.out | apply below_alloc | apply pw_below_drewN | apply below_drew1) | exact HB.out)) hb); clear HO211; clear HO215; clear HB; have HO211 := n0_; have HO215 := n1_; have HO219 := n2_; have HB := n3_; clear n0_ n1_ n2_ n3_; (try clear hb); (try clear hb2); (try clear hk); (try clear hi); (try clear ho0)))
    (try simp only [Act.put, List.setIfInBounds_toArray, List.set_cons_zero, List.set_cons_succ])
    go_cut [39] (fun v39 wc => ∃ (kq : Nat) (x39_5 : Bool), v39 = .bool x39_5 ∧ Aside0 (laws_FnStarsFirst.j0 kq t208 t209 t212 t213 x39_5 = some r) ∧ Aside0 (kq ≤ k) ∧ Aside0 (Kd.Q (Kd.int .i64) 3 wc w.heap.size (fun k_ => some k_ ≠ (v214 : Value).ownBlock) (.slice Ao8 t208.length co8) t208) ∧ Aside0 (Kd.R (Kd.int .i64) 3 wc w.heap.size (fun k_ => some k_ ≠ ((.slice Ao8 t208.length co8) : Value).ownBlock) v214 t212) ∧ Aside0 (Below w.heap.size w wc))
    case first =>
      have H := HC6.out
      clear HC6
      replace H := Option.bind_eq_some_iff.mp H
      obtain ⟨t220, A110, H⟩ := H
      replace H : (if t220 = true then (laws_FnStarsFirst.j0 k t208 t209 t212 t213 (t213 != t217)) else (laws_FnStarsFirst.j0 k t208 t209 t212 t213 true)) = some r := H
      have A11 := Aside0.mk A110
      clear A110
      by_cases c12 : t220 = true
      · subst c12
        have H1 : (laws_FnStarsFirst.j0 k t208 t209 t212 t213 (t213 != t217)) = some r := by rw [if_pos rfl] at H; exact H
        clear H
        have H := H1
        clear H1
        have H' := Aside0.mk H
        clear H
        obtain ⟨Ao13, co13, eo13⟩ := Kd.R_slice HO215.out
        subst eo13
        obtain ⟨Ao14, co14, eo14⟩ := Kd.R_slice HO219.out
        subst eo14
        go_wp2_with (first | ((with_reducible refine gate_callee (f := 24) rfl ?_); refine goesL_ (some 33) rfl rfl Try.func24 (by kernel_rfl) rfl #[.slice Ao13 t212.length co13, .slice Ao14 t216.length co14] rfl (by (try simp only [List.map_toArray, List.map_cons, List.map_nil]); first | done | rfl | (simp only [List.length_drop, List.length_take]; rfl)) ?_; (with_reducible refine (laws_sameInts.calls k _ _ t212 _ _ t216 true _ ?side1 ?side2 ?side3 ?side4 A11.out).mono ?_); (case side1 => repeat (first | exact (Kd.R_reads' HO215.out).2.2 | (with_reducible refine Kd.C_alloc ?_ _) | (with_reducible refine Kd.C_drewN ?_ _) | (with_reducible refine Kd.C_drew ?_))); (case side2 => exact (Kd.R_reads' HO215.out).2.1); (case side3 => repeat (first | exact (Kd.R_reads' HO219.out).2.2 | (with_reducible refine Kd.C_alloc ?_ _) | (with_reducible refine Kd.C_drewN ?_ _) | (with_reducible refine Kd.C_drew ?_))); (case side4 => exact (Kd.R_reads' HO219.out).2.1); rintro e w' ⟨rfl, ⟨nd, rfl⟩⟩; refine ⟨_, rfl, ?_⟩))
        go_meet
        case rel => exact ⟨_, ((t213 != t217)), (by first | rfl | (simp; done) | (simp [*]; done)), H', ⟨by first | omega | exact Nat.le_refl _⟩, ⟨by (with_reducible repeat (first | apply Kd.Q_alloc | apply Kd.Q_drewN | apply Kd.Q_drew)); exact Kd.Q_mono HO211.out (fun _ hk => hk.1.2)⟩, ⟨by (with_reducible repeat (first | apply Kd.R_alloc | apply Kd.R_drewN | apply Kd.R_drew)); exact Kd.R_mono HO215.out (fun _ hk => hk.1.2)⟩, ⟨by repeat (first | (with_reducible first | exact HB.out | apply below_alloc | apply pw_below_drewN | apply below_drew1) | exact HB.out)⟩⟩
      · replace c12 := Bool.eq_false_iff.mpr c12
        subst c12
        have H1 : (laws_FnStarsFirst.j0 k t208 t209 t212 t213 true) = some r := by rw [if_neg (show ¬ (false = true) by decide)] at H; exact H
        clear H
        have H := H1
        clear H1
        have H' := Aside0.mk H
        clear H
        obtain ⟨Ao15, co15, eo15⟩ := Kd.R_slice HO215.out
        subst eo15
        obtain ⟨Ao16, co16, eo16⟩ := Kd.R_slice HO219.out
        subst eo16
        go_wp2_with (first | ((with_reducible refine gate_callee (f := 24) rfl ?_); refine goesL_ (some 33) rfl rfl Try.func24 (by kernel_rfl) rfl #[.slice Ao15 t212.length co15, .slice Ao16 t216.length co16] rfl (by (try simp only [List.map_toArray, List.map_cons, List.map_nil]); first | done | rfl | (simp only [List.length_drop, List.length_take]; rfl)) ?_; (with_reducible refine (laws_sameInts.calls k _ _ t212 _ _ t216 false _ ?side1 ?side2 ?side3 ?side4 A11.out).mono ?_); (case side1 => repeat (first | exact (Kd.R_reads' HO215.out).2.2 | (with_reducible refine Kd.C_alloc ?_ _) | (with_reducible refine Kd.C_drewN ?_ _) | (with_reducible refine Kd.C_drew ?_))); (case side2 => exact (Kd.R_reads' HO215.out).2.1); (case side3 => repeat (first | exact (Kd.R_reads' HO219.out).2.2 | (with_reducible refine Kd.C_alloc ?_ _) | (with_reducible refine Kd.C_drewN ?_ _) | (with_reducible refine Kd.C_drew ?_))); (case side4 => exact (Kd.R_reads' HO219.out).2.1); rintro e w' ⟨rfl, ⟨nd, rfl⟩⟩; refine ⟨_, rfl, ?_⟩))
        go_meet
        case rel => exact ⟨_, (true), (by first | rfl | (simp; done) | (simp [*]; done)), H', ⟨by first | omega | exact Nat.le_refl _⟩, ⟨by (with_reducible repeat (first | apply Kd.Q_alloc | apply Kd.Q_drewN | apply Kd.Q_drew)); exact Kd.Q_mono HO211.out (fun _ hk => hk.1.2)⟩, ⟨by (with_reducible repeat (first | apply Kd.R_alloc | apply Kd.R_drewN | apply Kd.R_drew)); exact Kd.R_mono HO215.out (fun _ hk => hk.1.2)⟩, ⟨by repeat (first | (with_reducible first | exact HB.out | apply below_alloc | apply pw_below_drewN | apply below_drew1) | exact HB.out)⟩⟩
    case rest =>
      clear HC6
      try clear c1
      try clear c2
      try clear c2b0
      try clear c2b1
      try clear p2
      try clear c9
      try clear c12
      try clear c16
      obtain ⟨kq, x39_5, rfl, HA, HJ5, HO_3, HO_5, HB⟩ := hcut
      cases kq with
      | zero => exact absurd HA.out (by simp [laws_FnStarsFirst.j0])
      | succ kj5 =>
        have H := HA.out
        clear HA
        simp only [laws_FnStarsFirst.j0] at H
        by_cases c17 : x39_5 = true
        · subst c17
          have H1 : (some false) = some r := by rw [if_pos rfl] at H; exact H
          clear H
          have H := H1
          clear H1
          obtain rfl := Option.some.inj H
          go_wp2
          go_ret
          exact ⟨by first | rfl | (simp [errW_none, errW_some] <;> rfl) | (simp [*, errW_none, errW_some] <;> rfl), by repeat (first | (with_reducible first | exact HB.out | apply below_alloc | apply pw_below_drewN | apply below_drew1) | exact HB.out)⟩
        · replace c17 := Bool.eq_false_iff.mpr c17
          subst c17
          have H1 : (if t213 = true then (if 0 ≤ t209 then (if (t209 : Int).toNat ≤ 281474976710656 then (laws_FnStarsFirst.l0 kj5 t208 t209 t212 (List.replicate (t209 : Int).toNat false) 0) else (none)) else (none)) else (if (t212.length : Int) = 0 then ((laws_alive.f kj5).bind fun t221 => (some t221)) else (some false))) = some r := by rw [if_neg (show ¬ (false = true) by decide)] at H; exact H
          clear H
          have H := H1
          clear H1
          by_cases c18 : t213 = true
          · subst c18
            have H1 : (if 0 ≤ t209 then (if (t209 : Int).toNat ≤ 281474976710656 then (laws_FnStarsFirst.l0 kj5 t208 t209 t212 (List.replicate (t209 : Int).toNat false) 0) else (none)) else (none)) = some r := by rw [if_pos rfl] at H; exact H
            clear H
            have H := H1
            clear H1
            by_cases c19 : 0 ≤ t209
            · rw [if_pos c19] at H
              have c19b0 := eq_true c19
              have c19b1 : decide (0 ≤ t209) = true := decide_eq_true c19
              clear c19
              by_cases c20 : (t209 : Int).toNat ≤ 281474976710656
              · rw [if_pos c20] at H
                have c20b0 := eq_true c20
                have c20b1 : decide ((t209 : Int).toNat ≤ 281474976710656) = true := decide_eq_true c20
                clear c20
                obtain ⟨y222, hy222⟩ : ∃ y_ : List Bool, y_ = (List.replicate (t209 : Int).toNat false) := ⟨_, rfl⟩
                replace H : (laws_FnStarsFirst.l0 kj5 t208 t209 t212 y222 0) = some r := by first | (rw [hy222]; with_reducible exact H) | (have H2_ := (Option.bind_some _ _).symm.trans H; rw [hy222]; with_reducible exact H2_) | (have H2_ := (Option.bind_some _ _).symm.trans H; with_reducible exact H2_) | with_reducible exact H | (rw [hy222]; exact H) | exact H
                have Ny222 := Aside0.mk hy222
                clear hy222
                have H' := Aside0.mk H
                clear H
                go_wp2_with (first | ((with_reducible refine gate_dst (N := 49) rfl ?_); refine Kd.R_make Kd.bool _ 4 rfl (N := 49) rfl 37 _ _ rfl t209 rfl rfl Try.underlying37 (.bool false) 1 info4 rfl (by decide) (by omega) false (ok := fun _ => True) (okp := fun _ => True) rfl (fun _ hk => hk) trivial (of_decide_eq_true (by first | (with_reducible assumption) | assumption)) (Nat.le_trans (Nat.mul_le_mul_right _ (of_decide_eq_true (by first | (with_reducible assumption) | assumption) : t209.toNat ≤ 281474976710656)) (by omega)) (Below.refl _ _) (Nat.le_refl _) ?_; intro v223 w21 ho22 hb hg_ hnew_; clear hg_ hnew_; (first | rw [← Ny222.out] at ho22 | (simp only [Int.reduceToNat] at ho22; rw [← Ny222.out] at ho22)); have n0_ := Aside0.mk (Kd.Q_below (by (with_reducible repeat (first | apply Kd.Q_alloc | apply Kd.Q_drewN | apply Kd.Q_drew)); exact HO_3.out) hb); have n1_ := Aside0.mk (Kd.R_below (by (with_reducible repeat (first | apply Kd.R_alloc | apply Kd.R_drewN | apply Kd.R_drew)); exact HO_5.out) hb); have n2_ := Aside0.mk (Kd.R_lower ho22 (below_size (by repeat (first | (with_reducible first | exact HB.out | apply below_alloc | apply pw_below_drewN | apply below_drew1) | exact HB.out)))); have n3_ := Aside0.mk (below_step (by repeat (first | (with_reducible first | exact HB.out | apply below_alloc | apply pw_below_drewN | apply below_drew1) | exact HB.out)) hb); clear HO_3; clear HO_5; clear HB; have HO_3 := n0_; have HO_5 := n1_; have HO224 := n2_; have HB := n3_; clear n0_ n1_ n2_ n3_; clear hb ho22))
                go_loopg [10] kj5 (fun kq v10 w' => ∃ (x9_2 : List Bool) (x10_2 : Int), v10 = .int .i64 x10_2 ∧ Aside0 (laws_FnStarsFirst.l0 kq t208 t209 t212 x9_2 x10_2 = some r) ∧ Aside0 (kq ≤ kj5) ∧ Aside0 (Kd.Q (Kd.int .i64) 3 w' w.heap.size (fun k_ => some k_ ≠ (v214 : Value).ownBlock) (.slice Ao8 t208.length co8) t208) ∧ Aside0 (Kd.R (Kd.int .i64) 3 w' w.heap.size (fun k_ => some k_ ≠ ((.slice Ao8 t208.length co8) : Value).ownBlock) v214 t212) ∧ Aside0 (Kd.R Kd.bool 4 w' w.heap.size (fun _ => True) v223 x9_2) ∧ Aside0 (Below w.heap.size w w'))
                case atStart => exact ⟨(y222), (0), (by first | rfl | (simp; done) | (simp [*]; done)), H', ⟨Nat.le_refl _⟩, ⟨by (with_reducible repeat (first | apply Kd.Q_alloc | apply Kd.Q_drewN | apply Kd.Q_drew)); exact HO_3.out⟩, ⟨by (with_reducible repeat (first | apply Kd.R_alloc | apply Kd.R_drewN | apply Kd.R_drew)); exact HO_5.out⟩, ⟨by (with_reducible repeat (first | apply Kd.R_alloc | apply Kd.R_drewN | apply Kd.R_drew)); exact HO224.out⟩, ⟨by repeat (first | (with_reducible first | exact HB.out | apply below_alloc | apply pw_below_drewN | apply below_drew1) | exact HB.out)⟩⟩
                case round =>
                  clear H'
                  try clear c1
                  try clear c2
                  try clear c2b0
                  try clear c2b1
                  try clear p2
                  try clear c9
                  try clear c12
                  try clear c16
                  try clear c17
                  try clear c18
                  try clear c19
                  try clear c19b0
                  try clear c19b1
                  try clear c20
                  try clear c20b0
                  try clear c20b1
                  try clear p2
                  obtain ⟨x9_2, x10_2, rfl, HA, HK2, HO_3, HO_5, HO_9, HB⟩ := hrel
                  cases gk with
                  | zero => exact absurd HA.out (by simp [laws_FnStarsFirst.l0])
                  | succ k2 =>
                    have H := HA.out
                    clear HA
                    simp only [laws_FnStarsFirst.l0] at H
                    have HC23 := Aside0.mk H
                    clear H
                    go_upto_region 12 with (fail)
                    go_cut [58] (fun v58 wc => ∃ (kq : Nat) (x58_22 : Bool), v58 = .bool x58_22 ∧ Aside0 (laws_FnStarsFirst.j2 kq t208 t209 t212 x9_2 x10_2 x58_22 = some r) ∧ Aside0 (kq ≤ k2) ∧ Aside0 (Kd.Q (Kd.int .i64) 3 wc w.heap.size (fun k_ => some k_ ≠ (v214 : Value).ownBlock) (.slice Ao8 t208.length co8) t208) ∧ Aside0 (Kd.R (Kd.int .i64) 3 wc w.heap.size (fun k_ => some k_ ≠ ((.slice Ao8 t208.length co8) : Value).ownBlock) v214 t212) ∧ Aside0 (Kd.R Kd.bool 4 wc w.heap.size (fun _ => True) v223 x9_2) ∧ Aside0 (Below w.heap.size w wc))
                    case first =>
                      have H := HC23.out
                      clear HC23
                      by_cases c24 : x10_2 < (t212.length : Int)
                      · rw [if_pos c24] at H
                        have c24b0 : decide (x10_2 < (t212.length : Int)) = true := decide_eq_true c24
                        clear c24
                        (first | rw [c24b0] | (simp only [i64_w, i32_w]; rw [c24b0]) | skip)
                        have H' := Aside0.mk H
                        clear H
                        obtain ⟨Ao25, co25, eo25⟩ := Kd.R_slice HO_5.out
                        subst eo25
                        go_wp2
                        go_meet
                        case rel => exact ⟨_, (decide (x10_2 < t209)), (by first | rfl | (simp; done) | (simp [*]; done)), H', ⟨by have := HJ5.out; have := HK2.out; first | omega | exact Nat.le_refl _⟩, ⟨by (with_reducible repeat (first | apply Kd.Q_alloc | apply Kd.Q_drewN | apply Kd.Q_drew)); exact HO_3.out⟩, ⟨by (with_reducible repeat (first | apply Kd.R_alloc | apply Kd.R_drewN | apply Kd.R_drew)); exact HO_5.out⟩, ⟨by (with_reducible repeat (first | apply Kd.R_alloc | apply Kd.R_drewN | apply Kd.R_drew)); exact HO_9.out⟩, ⟨by repeat (first | (with_reducible first | exact HB.out | apply below_alloc | apply pw_below_drewN | apply below_drew1) | exact HB.out)⟩⟩
                      · rw [if_neg c24] at H
                        have c24b0 : decide (x10_2 < (t212.length : Int)) = false := decide_eq_false c24
                        clear c24
                        (first | rw [c24b0] | (simp only [i64_w, i32_w]; rw [c24b0]) | skip)
                        have H' := Aside0.mk H
                        clear H
                        obtain ⟨Ao26, co26, eo26⟩ := Kd.R_slice HO_5.out
                        subst eo26
                        go_wp2
                        go_meet
                        case rel => exact ⟨_, (false), (by first | rfl | (simp; done) | (simp [*]; done)), H', ⟨by have := HJ5.out; have := HK2.out; first | omega | exact Nat.le_refl _⟩, ⟨by (with_reducible repeat (first | apply Kd.Q_alloc | apply Kd.Q_drewN | apply Kd.Q_drew)); exact HO_3.out⟩, ⟨by (with_reducible repeat (first | apply Kd.R_alloc | apply Kd.R_drewN | apply Kd.R_drew)); exact HO_5.out⟩, ⟨by (with_reducible repeat (first | apply Kd.R_alloc | apply Kd.R_drewN | apply Kd.R_drew)); exact HO_9.out⟩, ⟨by repeat (first | (with_reducible first | exact HB.out | apply below_alloc | apply pw_below_drewN | apply below_drew1) | exact HB.out)⟩⟩
                    case rest =>
                      clear HC23
                      try clear c1
                      try clear c2
                      try clear c2b0
                      try clear c2b1
                      try clear p2
                      try clear c9
                      try clear c12
                      try clear c16
                      try clear c17
                      try clear c18
                      try clear c19
                      try clear c19b0
                      try clear c19b1
                      try clear c20
                      try clear c20b0
                      try clear c20b1
                      try clear c23
                      try clear c24
                      try clear c24b0
                      try clear p2
                      obtain ⟨kq, x58_22, rfl, HA, HJ22, HO_3, HO_5, HO_9, HB⟩ := hcut
                      cases kq with
                      | zero => exact absurd HA.out (by simp [laws_FnStarsFirst.j2])
                      | succ kj22 =>
                        have H := HA.out
                        clear HA
                        simp only [laws_FnStarsFirst.j2] at H
                        by_cases c27 : x58_22 = true
                        · subst c27
                          have H1 : (if 0 ≤ x10_2 then (if x10_2 < (t212.length : Int) then (if (rd t212 x10_2) < 0 then (laws_FnStarsFirst.j3 kj22 t208 t209 t212 x9_2 x10_2 true) else (if (rd t212 x10_2) ≥ t209 then (laws_FnStarsFirst.j3 kj22 t208 t209 t212 x9_2 x10_2 true) else (if 0 ≤ (wrap64 ((wrap64 (x10_2 * t209)) + (rd t212 x10_2))) then (if (wrap64 ((wrap64 (x10_2 * t209)) + (rd t212 x10_2))) < (t208.length : Int) then (if 0 ≤ (rd t208 (wrap64 ((wrap64 (x10_2 * t209)) + (rd t212 x10_2)))) then (if (rd t208 (wrap64 ((wrap64 (x10_2 * t209)) + (rd t212 x10_2)))) < (x9_2.length : Int) then (laws_FnStarsFirst.j3 kj22 t208 t209 t212 x9_2 x10_2 (rdOf false x9_2 (rd t208 (wrap64 ((wrap64 (x10_2 * t209)) + (rd t212 x10_2)))))) else (none)) else (none)) else (none)) else (none)))) else (none)) else (none)) = some r := by rw [if_pos rfl] at H; exact H
                          clear H
                          have H := H1
                          clear H1
                          have HC28 := Aside0.mk H
                          clear H
                          go_upto_region 14 with (fail)
                          go_cut [89] (fun v89 wc => ∃ (kq : Nat) (x89_27 : Bool), v89 = .bool x89_27 ∧ Aside0 (laws_FnStarsFirst.j3 kq t208 t209 t212 x9_2 x10_2 x89_27 = some r) ∧ Aside0 (kq ≤ kj22) ∧ Aside0 (Kd.Q (Kd.int .i64) 3 wc w.heap.size (fun k_ => some k_ ≠ (v214 : Value).ownBlock) (.slice Ao8 t208.length co8) t208) ∧ Aside0 (Kd.R (Kd.int .i64) 3 wc w.heap.size (fun k_ => some k_ ≠ ((.slice Ao8 t208.length co8) : Value).ownBlock) v214 t212) ∧ Aside0 (Kd.R Kd.bool 4 wc w.heap.size (fun _ => True) v223 x9_2) ∧ Aside0 (Below w.heap.size w wc))
                          case first =>
                            have H := HC28.out
                            clear HC28
                            by_cases c29 : 0 ≤ x10_2
                            · rw [if_pos c29] at H
                              have c29b0 : decide (0 ≤ x10_2) = true := decide_eq_true c29
                              clear c29
                              (first | rw [c29b0] | (simp only [i64_w, i32_w]; rw [c29b0]) | skip)
                              by_cases c30 : x10_2 < (t212.length : Int)
                              · rw [if_pos c30] at H
                                have c30b0 : decide (x10_2 < (t212.length : Int)) = true := decide_eq_true c30
                                clear c30
                                by_cases c31 : (rd t212 x10_2) < 0
                                · rw [if_pos c31] at H
                                  have c31b0 : decide ((rd t212 x10_2) < 0) = true := decide_eq_true c31
                                  clear c31
                                  have H' := Aside0.mk H
                                  clear H
                                  obtain ⟨Ao32, co32, eo32⟩ := Kd.R_slice HO_5.out
                                  subst eo32
                                  have p226 : 0 ≤ (x10_2 : Int) := of_decide_eq_true (by first | (with_reducible assumption) | assumption)
                                  have q226 : x10_2 < (t212.length : Int) := of_decide_eq_true (by first | (with_reducible assumption) | assumption)
                                  obtain ⟨ad226, e226, hx226_0⟩ := Kd.at_int (Kd.R_reads' HO_5.out).2.2 x10_2 p226 q226
                                  cases e226
                                  replace p226 := eq_true p226
                                  replace q226 := eq_true q226
                                  go_wp2
                                  go_meet
                                  case rel => exact ⟨_, (true), (by first | rfl | (simp; done) | (simp [*]; done)), H', ⟨by have := HJ5.out; have := HK2.out; have := HJ22.out; first | omega | exact Nat.le_refl _⟩, ⟨by (with_reducible repeat (first | apply Kd.Q_alloc | apply Kd.Q_drewN | apply Kd.Q_drew)); exact HO_3.out⟩, ⟨by (with_reducible repeat (first | apply Kd.R_alloc | apply Kd.R_drewN | apply Kd.R_drew)); exact HO_5.out⟩, ⟨by (with_reducible repeat (first | apply Kd.R_alloc | apply Kd.R_drewN | apply Kd.R_drew)); exact HO_9.out⟩, ⟨by repeat (first | (with_reducible first | exact HB.out | apply below_alloc | apply pw_below_drewN | apply below_drew1) | exact HB.out)⟩⟩
                                · rw [if_neg c31] at H
                                  have c31b0 : decide ((rd t212 x10_2) < 0) = false := decide_eq_false c31
                                  clear c31
                                  by_cases c33 : (rd t212 x10_2) ≥ t209
                                  · rw [if_pos c33] at H
                                    have c33b0 : decide (t209 ≤ (rd t212 x10_2)) = true := decide_eq_true c33
                                    clear c33
                                    have H' := Aside0.mk H
                                    clear H
                                    obtain ⟨Ao34, co34, eo34⟩ := Kd.R_slice HO_5.out
                                    subst eo34
                                    have p226 : 0 ≤ (x10_2 : Int) := of_decide_eq_true (by first | (with_reducible assumption) | assumption)
                                    have q226 : x10_2 < (t212.length : Int) := of_decide_eq_true (by first | (with_reducible assumption) | assumption)
                                    obtain ⟨ad226, e226, hx226_0⟩ := Kd.at_int (Kd.R_reads' HO_5.out).2.2 x10_2 p226 q226
                                    cases e226
                                    replace p226 := eq_true p226
                                    replace q226 := eq_true q226
                                    have p227 : 0 ≤ (x10_2 : Int) := of_decide_eq_true (by first | (with_reducible assumption) | assumption)
                                    have q227 : x10_2 < (t212.length : Int) := of_decide_eq_true (by first | (with_reducible assumption) | assumption)
                                    obtain ⟨ad227, e227, hx227_0⟩ := Kd.at_int (Kd.R_reads' HO_5.out).2.2 x10_2 p227 q227
                                    obtain rfl : ad226 = ad227 := (by injection e227)
                                    replace p227 := eq_true p227
                                    replace q227 := eq_true q227
                                    go_wp2
                                    go_meet
                                    case rel => exact ⟨_, (true), (by first | rfl | (simp; done) | (simp [*]; done)), H', ⟨by have := HJ5.out; have := HK2.out; have := HJ22.out; first | omega | exact Nat.le_refl _⟩, ⟨by (with_reducible repeat (first | apply Kd.Q_alloc | apply Kd.Q_drewN | apply Kd.Q_drew)); exact HO_3.out⟩, ⟨by (with_reducible repeat (first | apply Kd.R_alloc | apply Kd.R_drewN | apply Kd.R_drew)); exact HO_5.out⟩, ⟨by (with_reducible repeat (first | apply Kd.R_alloc | apply Kd.R_drewN | apply Kd.R_drew)); exact HO_9.out⟩, ⟨by repeat (first | (with_reducible first | exact HB.out | apply below_alloc | apply pw_below_drewN | apply below_drew1) | exact HB.out)⟩⟩
                                  · rw [if_neg c33] at H
                                    have c33b0 : decide (t209 ≤ (rd t212 x10_2)) = false := decide_eq_false c33
                                    clear c33
                                    obtain ⟨ji35, hji35⟩ : ∃ j_ : Int, (wrap64 ((wrap64 (x10_2 * t209)) + (rd t212 x10_2))) = j_ := ⟨_, rfl⟩
                                    replace H : (if 0 ≤ (ji35) then (if (ji35) < (t208.length : Int) then (if 0 ≤ (rd t208 (ji35)) then (if (rd t208 (ji35)) < (x9_2.length : Int) then (laws_FnStarsFirst.j3 kj22 t208 t209 t212 x9_2 x10_2 (rdOf false x9_2 (rd t208 (ji35)))) else (none)) else (none)) else (none)) else (none)) = some r := by first | (rw [hji35] at H; exact H) | (simp only [hji35] at H ⊢; exact H)
                                    have hji35w : (IntKind.i64.wrap ((wrap64 (x10_2 * t209)) + (rd t212 x10_2))) = ji35 := (i64_w _).trans hji35
                                    by_cases c36 : 0 ≤ (ji35)
                                    · rw [if_pos c36] at H
                                      have c36b0 : decide (0 ≤ (ji35)) = true := decide_eq_true c36
                                      clear c36
                                      by_cases c37 : (ji35) < (t208.length : Int)
                                      · rw [if_pos c37] at H
                                        have c37b0 : decide ((ji35) < (t208.length : Int)) = true := decide_eq_true c37
                                        clear c37
                                        by_cases c38 : 0 ≤ (rd t208 (ji35))
                                        · rw [if_pos c38] at H
                                          have c38b0 : decide (0 ≤ (rd t208 (ji35))) = true := decide_eq_true c38
                                          clear c38
                                          by_cases c39 : (rd t208 (ji35)) < (x9_2.length : Int)
                                          · rw [if_pos c39] at H
                                            have c39b0 : decide ((rd t208 (ji35)) < (x9_2.length : Int)) = true := decide_eq_true c39
                                            clear c39
                                            have H' := Aside0.mk H
                                            clear H
                                            obtain ⟨Ao40, co40, eo40⟩ := Kd.R_slice HO_5.out
                                            subst eo40
                                            have p226 : 0 ≤ (x10_2 : Int) := of_decide_eq_true (by first | (with_reducible assumption) | assumption)
                                            have q226 : x10_2 < (t212.length : Int) := of_decide_eq_true (by first | (with_reducible assumption) | assumption)
                                            obtain ⟨ad226, e226, hx226_0⟩ := Kd.at_int (Kd.R_reads' HO_5.out).2.2 x10_2 p226 q226
                                            cases e226
                                            replace p226 := eq_true p226
                                            replace q226 := eq_true q226
                                            have p227 : 0 ≤ (x10_2 : Int) := of_decide_eq_true (by first | (with_reducible assumption) | assumption)
                                            have q227 : x10_2 < (t212.length : Int) := of_decide_eq_true (by first | (with_reducible assumption) | assumption)
                                            obtain ⟨ad227, e227, hx227_0⟩ := Kd.at_int (Kd.R_reads' HO_5.out).2.2 x10_2 p227 q227
                                            obtain rfl : ad226 = ad227 := (by injection e227)
                                            replace p227 := eq_true p227
                                            replace q227 := eq_true q227
                                            have p228 : 0 ≤ (x10_2 : Int) := of_decide_eq_true (by first | (with_reducible assumption) | assumption)
                                            have q228 : x10_2 < (t212.length : Int) := of_decide_eq_true (by first | (with_reducible assumption) | assumption)
                                            obtain ⟨ad228, e228, hx228_0⟩ := Kd.at_int (Kd.R_reads' HO_5.out).2.2 x10_2 p228 q228
                                            obtain rfl : ad226 = ad228 := (by injection e228)
                                            replace p228 := eq_true p228
                                            replace q228 := eq_true q228
                                            have p229 : 0 ≤ ((ji35) : Int) := of_decide_eq_true (by first | (with_reducible assumption) | assumption)
                                            have q229 : (ji35) < (t208.length : Int) := of_decide_eq_true (by first | (with_reducible assumption) | assumption)
                                            obtain ⟨ad229, e229, hx229_0⟩ := Kd.at_int (Kd.Q_reads' HO_3.out).2.2 (ji35) p229 q229
                                            cases e229
                                            replace p229 := eq_true p229
                                            replace q229 := eq_true q229
                                            obtain ⟨Ao41, co41, eo41⟩ := Kd.R_slice HO_9.out
                                            subst eo41
                                            have p230 : 0 ≤ ((rd t208 (ji35)) : Int) := of_decide_eq_true (by first | (with_reducible assumption) | assumption)
                                            have q230 : (rd t208 (ji35)) < (x9_2.length : Int) := of_decide_eq_true (by first | (with_reducible assumption) | assumption)
                                            obtain ⟨ad230, e230, hx230_0⟩ := Kd.at_bool (Kd.R_reads' HO_9.out).2.2 (rd t208 (ji35)) p230 q230
                                            cases e230
                                            replace p230 := eq_true p230
                                            replace q230 := eq_true q230
                                            go_wp2
                                            go_meet
                                            case rel => exact ⟨_, (rdOf false x9_2 (rd t208 (ji35))), (by first | rfl | (simp; done) | (simp only [← hji35] <;> (first | rfl | simp)) | (simp [*]; done)), H', ⟨by have := HJ5.out; have := HK2.out; have := HJ22.out; first | omega | exact Nat.le_refl _⟩, ⟨by (with_reducible repeat (first | apply Kd.Q_alloc | apply Kd.Q_drewN | apply Kd.Q_drew)); exact HO_3.out⟩, ⟨by (with_reducible repeat (first | apply Kd.R_alloc | apply Kd.R_drewN | apply Kd.R_drew)); exact HO_5.out⟩, ⟨by (with_reducible repeat (first | apply Kd.R_alloc | apply Kd.R_drewN | apply Kd.R_drew)); exact HO_9.out⟩, ⟨by repeat (first | (with_reducible first | exact HB.out | apply below_alloc | apply pw_below_drewN | apply below_drew1) | exact HB.out)⟩⟩
                                          · rw [if_neg c39] at H
                                            exact absurd H (by simp)
                                        · rw [if_neg c38] at H
                                          exact absurd H (by simp)
                                      · rw [if_neg c37] at H
                                        exact absurd H (by simp)
                                    · rw [if_neg c36] at H
                                      exact absurd H (by simp)
                              · rw [if_neg c30] at H
                                exact absurd H (by simp)
                            · rw [if_neg c29] at H
                              exact absurd H (by simp)
                          case rest =>
                            clear HC28
                            try clear c1
                            try clear c2
                            try clear c2b0
                            try clear c2b1
                            try clear p2
                            try clear q2
                            try clear hx2
                            try clear c3
                            try clear p6
                            try clear c9
                            try clear c12
                            try clear c16
                            try clear c17
                            try clear c18
                            try clear c19
                            try clear c19b0
                            try clear c19b1
                            try clear c20
                            try clear c20b0
                            try clear c20b1
                            try clear p22
                            try clear q22
                            try clear hx22
                            try clear c23
                            try clear p23
                            try clear q23
                            try clear hx23
                            try clear c24
                            try clear c24b0
                            try clear c27
                            try clear c29
                            try clear c29b0
                            try clear c30
                            try clear c30b0
                            try clear c31
                            try clear c31b0
                            try clear c33
                            try clear c33b0
                            try clear c36
                            try clear c36b0
                            try clear c37
                            try clear c37b0
                            try clear c38
                            try clear c38b0
                            try clear c39
                            try clear c39b0
                            try clear hx226_0
                            try clear hx227_0
                            try clear hx228_0
                            try clear hx229_0
                            try clear hx230_0
                            try clear p2
                            try clear p226
                            try clear p227
                            try clear p228
                            try clear p229
                            try clear p230
                            try clear q226
                            try clear q227
                            try clear q228
                            try clear q229
                            try clear q230
                            obtain ⟨kq, x89_27, rfl, HA, HJ27, HO_3, HO_5, HO_9, HB⟩ := hcut
                            cases kq with
                            | zero => exact absurd HA.out (by simp [laws_FnStarsFirst.j3])
                            | succ kj27 =>
                              have H := HA.out
                              clear HA
                              simp only [laws_FnStarsFirst.j3] at H
                              by_cases c42 : x89_27 = true
                              · subst c42
                                have H1 : (some false) = some r := by rw [if_pos rfl] at H; exact H
                                clear H
                                have H := H1
                                clear H1
                                obtain rfl := Option.some.inj H
                                go_wp2
                                go_ret
                                exact ⟨by first | rfl | (simp [errW_none, errW_some] <;> rfl) | (simp [*, errW_none, errW_some] <;> rfl), by repeat (first | (with_reducible first | exact HB.out | apply below_alloc | apply pw_below_drewN | apply below_drew1) | exact HB.out)⟩
                              · replace c42 := Bool.eq_false_iff.mpr c42
                                subst c42
                                have H1 : (if 0 ≤ x10_2 then (if x10_2 < (t212.length : Int) then (if 0 ≤ (wrap64 ((wrap64 (x10_2 * t209)) + (rd t212 x10_2))) then (if (wrap64 ((wrap64 (x10_2 * t209)) + (rd t212 x10_2))) < (t208.length : Int) then (if 0 ≤ (rd t208 (wrap64 ((wrap64 (x10_2 * t209)) + (rd t212 x10_2)))) then (if (rd t208 (wrap64 ((wrap64 (x10_2 * t209)) + (rd t212 x10_2)))) < (x9_2.length : Int) then (laws_FnStarsFirst.l0 kj27 t208 t209 t212 (x9_2.set ((rd t208 (wrap64 ((wrap64 (x10_2 * t209)) + (rd t212 x10_2)))) : Int).toNat true) (wrap64 (x10_2 + 1))) else (none)) else (none)) else (none)) else (none)) else (none)) else (none)) = some r := by rw [if_neg (show ¬ (false = true) by decide)] at H; exact H
                                clear H
                                have H := H1
                                clear H1
                                by_cases c43 : 0 ≤ x10_2
                                · rw [if_pos c43] at H
                                  have c43b0 : decide (0 ≤ x10_2) = true := decide_eq_true c43
                                  clear c43
                                  by_cases c44 : x10_2 < (t212.length : Int)
                                  · rw [if_pos c44] at H
                                    have c44b0 : decide (x10_2 < (t212.length : Int)) = true := decide_eq_true c44
                                    clear c44
                                    obtain ⟨ji45, hji45⟩ : ∃ j_ : Int, (wrap64 ((wrap64 (x10_2 * t209)) + (rd t212 x10_2))) = j_ := ⟨_, rfl⟩
                                    replace H : (if 0 ≤ (ji45) then (if (ji45) < (t208.length : Int) then (if 0 ≤ (rd t208 (ji45)) then (if (rd t208 (ji45)) < (x9_2.length : Int) then (laws_FnStarsFirst.l0 kj27 t208 t209 t212 (x9_2.set ((rd t208 (ji45)) : Int).toNat true) (wrap64 (x10_2 + 1))) else (none)) else (none)) else (none)) else (none)) = some r := by first | (rw [hji45] at H; exact H) | (simp only [hji45] at H ⊢; exact H)
                                    have hji45w : (IntKind.i64.wrap ((wrap64 (x10_2 * t209)) + (rd t212 x10_2))) = ji45 := (i64_w _).trans hji45
                                    by_cases c46 : 0 ≤ (ji45)
                                    · rw [if_pos c46] at H
                                      have c46b0 : decide (0 ≤ (ji45)) = true := decide_eq_true c46
                                      clear c46
                                      by_cases c47 : (ji45) < (t208.length : Int)
                                      · rw [if_pos c47] at H
                                        have c47b0 : decide ((ji45) < (t208.length : Int)) = true := decide_eq_true c47
                                        clear c47
                                        by_cases c48 : 0 ≤ (rd t208 (ji45))
                                        · rw [if_pos c48] at H
                                          have c48b0 : decide (0 ≤ (rd t208 (ji45))) = true := decide_eq_true c48
                                          clear c48
                                          by_cases c49 : (rd t208 (ji45)) < (x9_2.length : Int)
                                          · rw [if_pos c49] at H
                                            have c49b0 : decide ((rd t208 (ji45)) < (x9_2.length : Int)) = true := decide_eq_true c49
                                            clear c49
                                            obtain ⟨y233, hy233⟩ : ∃ y_ : List Bool, y_ = (x9_2.set ((rd t208 (ji45)) : Int).toNat true) := ⟨_, rfl⟩
                                            replace H : (laws_FnStarsFirst.l0 kj27 t208 t209 t212 y233 (wrap64 (x10_2 + 1))) = some r := by first | (rw [hy233]; with_reducible exact H) | (have H2_ := (Option.bind_some _ _).symm.trans H; rw [hy233]; with_reducible exact H2_) | (have H2_ := (Option.bind_some _ _).symm.trans H; with_reducible exact H2_) | with_reducible exact H | (rw [hy233]; exact H) | exact H
                                            have Ny233 := Aside0.mk hy233
                                            clear hy233
                                            have H' := Aside0.mk H
                                            clear H
                                            obtain ⟨Ao51, co51, eo51⟩ := Kd.R_slice HO_5.out
                                            subst eo51
                                            have p231 : 0 ≤ (x10_2 : Int) := of_decide_eq_true (by first | (with_reducible assumption) | assumption)
                                            have q231 : x10_2 < (t212.length : Int) := of_decide_eq_true (by first | (with_reducible assumption) | assumption)
                                            obtain ⟨ad231, e231, hx231_0⟩ := Kd.at_int (Kd.R_reads' HO_5.out).2.2 x10_2 p231 q231
                                            cases e231
                                            replace p231 := eq_true p231
                                            replace q231 := eq_true q231
                                            have p232 : 0 ≤ ((ji45) : Int) := of_decide_eq_true (by first | (with_reducible assumption) | assumption)
                                            have q232 : (ji45) < (t208.length : Int) := of_decide_eq_true (by first | (with_reducible assumption) | assumption)
                                            obtain ⟨ad232, e232, hx232_0⟩ := Kd.at_int (Kd.Q_reads' HO_3.out).2.2 (ji45) p232 q232
                                            cases e232
                                            replace p232 := eq_true p232
                                            replace q232 := eq_true q232
                                            have p50 : 0 ≤ ((rd t208 (ji45)) : Int) := of_decide_eq_true (by first | (with_reducible assumption) | assumption)
                                            have q50 : ((rd t208 (ji45)) : Int) < ((x9_2.length : Int) : Int) := of_decide_eq_true (by first | (with_reducible assumption) | assumption)
                                            obtain ⟨go50, co50, eo50, gb50, gl50, cl50, HG50⟩ := Kd.R_form HO_9.out (by omega)
                                            (first | cases eo50 | (injection eo50 with ea_ en_ ec_; (first | subst ea_ | (injection ea_ with ea_; subst ea_)); subst ec_; clear en_))
                                            have GB50 := Aside0.mk gb50
                                            have GG50 := Aside0.mk HG50
                                            clear gb50 gl50 HG50
                                            obtain ⟨hx50_0, hf50_0⟩ := Kd.R_celln false HO_9.out ((rd t208 (ji45)) : Int) p50 q50
                                            replace p50 := eq_true p50
                                            replace q50 := eq_true q50
                                            have HP52 := Kd.R_putg HO_9.out ((rd t208 (ji45)) : Int) true
                                            go_wp2_with (first | ((with_reducible refine gate_store (t := 4) (p := 102) rfl ?_); refine store_event (t := 4) (p := 102) (v := ?vo_w53) (w1 := (wc.setCell ⟨go50, ((rd t208 (ji45)) : Int).toNat, none⟩ (.bool true))) ?hg ?ho ?hn ?hr ?_; (case ho => rfl); (case hg => rfl); (case hn => rfl); (case hr => first | (go_simp; done) | (go_simp; rfl)); intro w53 hw; have hg : wc.grownBy w53 (some go50) := (by rw [hw]; exact HP52.2); have hp_ : Kd.R Kd.bool 4 w53 w.heap.size (fun _ => True) (.slice (some ⟨go50, 0, none⟩) x9_2.length co50) y233 := (by rw [hw, Ny233.out]; exact HP52.1); clear HP52; have n0_ := Aside0.mk (Kd.Q_over' (v := (.slice (some ⟨go50, 0, none⟩) x9_2.length co50)) (by (with_reducible repeat (first | apply Kd.Q_alloc | apply Kd.Q_drewN | apply Kd.Q_drew)); exact HO_3.out) (Kd.R_typed HO_9.out) (by decide) hg); have n1_ := Aside0.mk (Kd.R_over' (v := (.slice (some ⟨go50, 0, none⟩) x9_2.length co50)) (by (with_reducible repeat (first | apply Kd.R_alloc | apply Kd.R_drewN | apply Kd.R_drew)); exact HO_5.out) (Kd.R_typed HO_9.out) (by decide) hg); have n2_ := Aside0.mk (hp_); have n3_ := Aside0.mk ((by rw [hw]; exact below_set (HB.out) GB50.out : Below w.heap.size w w53)); clear HO_3; clear HO_5; clear HO_9; clear HB; have HO_3 := n0_; have HO_5 := n1_; have HO_9 := n2_; have HB := n3_; clear n0_ n1_ n2_ n3_; clear hg hw hp_))
                                            go_roundg kj27
                                            case measure => have := HJ5.out; have := HK2.out; have := HJ22.out; have := HJ27.out; omega
                                            case rel => exact ⟨(y233), (wrap64 (x10_2 + 1)), (by first | rfl | (simp; done) | (simp [*]; done)), H', ⟨by have := HJ5.out; have := HK2.out; have := HJ22.out; have := HJ27.out; omega⟩, ⟨by (with_reducible repeat (first | apply Kd.Q_alloc | apply Kd.Q_drewN | apply Kd.Q_drew)); exact HO_3.out⟩, ⟨by (with_reducible repeat (first | apply Kd.R_alloc | apply Kd.R_drewN | apply Kd.R_drew)); exact HO_5.out⟩, ⟨by (with_reducible repeat (first | apply Kd.R_alloc | apply Kd.R_drewN | apply Kd.R_drew)); exact HO_9.out⟩, ⟨by repeat (first | (with_reducible first | exact HB.out | apply below_alloc | apply pw_below_drewN | apply below_drew1) | exact HB.out)⟩⟩
                                          · rw [if_neg c49] at H
                                            exact absurd H (by simp)
                                        · rw [if_neg c48] at H
                                          exact absurd H (by simp)
                                      · rw [if_neg c47] at H
                                        exact absurd H (by simp)
                                    · rw [if_neg c46] at H
                                      exact absurd H (by simp)
                                  · rw [if_neg c44] at H
                                    exact absurd H (by simp)
                                · rw [if_neg c43] at H
                                  exact absurd H (by simp)
                        · replace c27 := Bool.eq_false_iff.mpr c27
                          subst c27
                          have H1 : (if (t212.length : Int) = t209 then ((impl_StarsFit.f kj22 t208 t209 t212).bind fun t225 => (some t225)) else (some false)) = some r := by rw [if_neg (show ¬ (false = true) by decide)] at H; exact H
                          clear H
                          have H := H1
                          clear H1
                          by_cases c54 : (t212.length : Int) = t209
                          · rw [if_pos c54] at H
                            have c54b0 : ((t212.length : Int) == t209) = true := beq_iff_eq.mpr c54
                            have c54b1 : ((t212.length : Int) != t209) = false := bne_eq_false_iff_eq.mpr c54
                            clear c54
                            replace H := Option.bind_eq_some_iff.mp H
                            obtain ⟨t225, A550, H⟩ := H
                            replace H : (some t225) = some r := H
                            have A55 := Aside0.mk A550
                            clear A550
                            obtain rfl := Option.some.inj H
                            obtain ⟨Ao56, co56, eo56⟩ := Kd.R_slice HO_5.out
                            subst eo56
                            go_wp2_with (first | (go_at_call 12; (with_reducible refine (impl_StarsFit.calls kj22 _ _ t208 t209 _ _ t212 t225 _ ?side1 ?side2 ?side3 ?side4 A55.out).mono ?_); (case side1 => repeat (first | exact (Kd.Q_reads' HO_3.out).2.2 | (with_reducible refine Kd.C_alloc ?_ _) | (with_reducible refine Kd.C_drewN ?_ _) | (with_reducible refine Kd.C_drew ?_))); (case side2 => exact (Kd.Q_reads' HO_3.out).2.1); (case side3 => repeat (first | exact (Kd.R_reads' HO_5.out).2.2 | (with_reducible refine Kd.C_alloc ?_ _) | (with_reducible refine Kd.C_drewN ?_ _) | (with_reducible refine Kd.C_drew ?_))); (case side4 => exact (Kd.R_reads' HO_5.out).2.1); rintro e w57 ⟨rfl, hb⟩; have n0_ := Aside0.mk (Kd.Q_below (by (with_reducible repeat (first | apply Kd.Q_alloc | apply Kd.Q_drewN | apply Kd.Q_drew)); exact HO_3.out) hb); have n1_ := Aside0.mk (Kd.R_below (by (with_reducible repeat (first | apply Kd.R_alloc | apply Kd.R_drewN | apply Kd.R_drew)); exact HO_5.out) hb); have n2_ := Aside0.mk (Kd.R_below (by (with_reducible repeat (first | apply Kd.R_alloc | apply Kd.R_drewN | apply Kd.R_drew)); exact HO_9.out) hb); have n3_ := Aside0.mk (below_step (by repeat (first | (with_reducible first | exact HB.out | apply below_alloc | apply pw_below_drewN | apply below_drew1) | exact HB.out)) hb); clear HO_3; clear HO_5; clear HO_9; clear HB; have HO_3 := n0_; have HO_5 := n1_; have HO_9 := n2_; have HB := n3_; clear n0_ n1_ n2_ n3_; (try clear hb); (try clear hb2); (try clear hk); (try clear hi)))
                            go_ret
                            exact ⟨by first | rfl | (simp [errW_none, errW_some] <;> rfl) | (simp [*, errW_none, errW_some] <;> rfl), by repeat (first | (with_reducible first | exact HB.out | apply below_alloc | apply pw_below_drewN | apply below_drew1) | exact HB.out)⟩
                          · rw [if_neg c54] at H
                            have c54b0 : ((t212.length : Int) == t209) = false := beq_eq_false_iff_ne.mpr c54
                            have c54b1 : ((t212.length : Int) != t209) = true := bne_iff_ne.mpr c54
                            obtain rfl := Option.some.inj H
                            obtain ⟨Ao58, co58, eo58⟩ := Kd.R_slice HO_5.out
                            subst eo58
                            go_wp2
                            go_ret
                            exact ⟨by first | rfl | (simp [errW_none, errW_some] <;> rfl) | (simp [*, errW_none, errW_some] <;> rfl), by repeat (first | (with_reducible first | exact HB.out | apply below_alloc | apply pw_below_drewN | apply below_drew1) | exact HB.out)⟩
              · rw [if_neg c20] at H
                exact absurd H (by simp)
            · rw [if_neg c19] at H
              exact absurd H (by simp)
          · replace c18 := Bool.eq_false_iff.mpr c18
            subst c18
            have H1 : (if (t212.length : Int) = 0 then ((laws_alive.f kj5).bind fun t221 => (some t221)) else (some false)) = some r := by rw [if_neg (show ¬ (false = true) by decide)] at H; exact H
            clear H
            have H := H1
            clear H1
            by_cases c59 : (t212.length : Int) = 0
            · rw [if_pos c59] at H
              have c59b0 : ((t212.length : Int) == 0) = true := beq_iff_eq.mpr c59
              have c59b1 : ((t212.length : Int) != 0) = false := bne_eq_false_iff_eq.mpr c59
              clear c59
              replace H := Option.bind_eq_some_iff.mp H
              obtain ⟨t221, A600, H⟩ := H
              replace H : (some t221) = some r := H
              have A60 := Aside0.mk A600
              clear A600
              obtain rfl := Option.some.inj H
              obtain ⟨Ao61, co61, eo61⟩ := Kd.R_slice HO_5.out
              subst eo61
              go_wp2_with (first | (go_at_call 21; (with_reducible refine (laws_alive.calls kj5  t221 _ A60.out).mono ?_); rintro e w62 ⟨rfl, hb⟩; have n0_ := Aside0.mk (Kd.Q_below (by (with_reducible repeat (first | apply Kd.Q_alloc | apply Kd.Q_drewN | apply Kd.Q_drew)); exact HO_3.out) hb); have n1_ := Aside0.mk (Kd.R_below (by (with_reducible repeat (first | apply Kd.R_alloc | apply Kd.R_drewN | apply Kd.R_drew)); exact HO_5.out) hb); have n2_ := Aside0.mk (below_step (by repeat (first | (with_reducible first | exact HB.out | apply below_alloc | apply pw_below_drewN | apply below_drew1) | exact HB.out)) hb); clear HO_3; clear HO_5; clear HB; have HO_3 := n0_; have HO_5 := n1_; have HB := n2_; clear n0_ n1_ n2_; (try clear hb); (try clear hb2); (try clear hk); (try clear hi)))
              go_ret
              exact ⟨by first | rfl | (simp [errW_none, errW_some] <;> rfl) | (simp [*, errW_none, errW_some] <;> rfl), by repeat (first | (with_reducible first | exact HB.out | apply below_alloc | apply pw_below_drewN | apply below_drew1) | exact HB.out)⟩
            · rw [if_neg c59] at H
              have c59b0 : ((t212.length : Int) == 0) = false := beq_eq_false_iff_ne.mpr c59
              have c59b1 : ((t212.length : Int) != 0) = true := bne_iff_ne.mpr c59
              have c59b2 : ¬ (t212 = []) := fun h_ => c59 (by rw [h_]; rfl)
              obtain rfl := Option.some.inj H
              obtain ⟨Ao63, co63, eo63⟩ := Kd.R_slice HO_5.out
              subst eo63
              go_wp2
              go_ret
              exact ⟨by first | rfl | (simp [errW_none, errW_some] <;> rfl) | (simp [*, errW_none, errW_some] <;> rfl), by repeat (first | (with_reducible first | exact HB.out | apply below_alloc | apply pw_below_drewN | apply below_drew1) | exact HB.out)⟩

/-- THE ONE PURE STATEMENT of laws_FnStarsFirst: yours. -/
def laws_FnStarsFirst.Pure : Prop := ∀ (l0 : List Int), l0.length ≤ maxLen → l0.length * 1 ≤ 140737488351232 → (∀ x ∈ l0, (Lit.int .u8 x).wf = true) → ∃ k, laws_FnStarsFirst.f k l0 = some true
theorem laws_FnStarsFirst.walk (P : laws_FnStarsFirst.Pure) (a0 : Option Addr) (len0 cap0 : Nat) (z0 : List Int) (w : World) (w0 : (a0 = none ∧ len0 = 0 ∧ cap0 = 0 ∧ z0 = []) ∨ ∃ x, a0 = some x ∧ len0 ≤ cap0 ∧ cap0 ≤ maxLen ∧ z0.length = cap0 ∧ (∀ i, i < z0.length → w.cell? (x.add i) = some (.int .u8 (z0.getD i 0))) ∧ ∀ n ∈ z0, (Lit.int .u8 n).wf = true) (y0 : len0 * 1 ≤ 140737488351232) :
    Calls Try.prog 9 #[.slice a0 len0 cap0] w fun e w' => e = .returned (.bool true) ∧ Below w.heap.size w w' := by
  obtain ⟨l0, rfl, hr0, hm0, hw0, hc0⟩ := ReadsInt.ofRowC w0
  obtain ⟨k, h⟩ := P l0 hm0 y0 hw0
  refine (laws_FnStarsFirst.calls k _ _ l0 true w (Kd.C_of_reads (d := (0 : Int)) (h1 := fun _ => rfl) hr0) hc0 h).mono ?_
  rintro e w' ⟨rfl, hd⟩
  exact ⟨rfl, hd⟩

end Go.Proofs.Ytcghheaelgjnfaa.PFnStarsFirst
