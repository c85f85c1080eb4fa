-- Made by a program of this session (a changed copy of the kit print): the kit print itself does not give this text
import Derived.Test.YtnmlcbdbbnaabaaPFnClueOfx0
import Derived.Test.YtnmlcbdbbnaabaaPFnClueOfx2
import Derived.Test.YtnmlcbdbbnaabaaPFnClueOfx3
import Derived.Test.YtnmlcbdbbnaabaaV0
namespace Go.Proofs.Ytnmlcbdbbnaabaa.PFnClueOf
open Go.RowKit Go.Proofs.YtnmlcbdbbnaabaaW.PrintWords Go.Proofs.YtnmlcbdbbnaabaaW.PrintLast Go.Proofs.YtnmlcbdbbnaabaaW.PrintMore
attribute [local go_sem] max2_int min2_int max_two min_two max_three min_three max_four min_four   -- for this text's walks alone
set_option linter.unusedVariables false
set_option linter.unusedSimpArgs false

/-! ### spec_DrawClueOf: function 30 -/
--@import Derived.Test.YtnmlcbdbbnaabaaV0
open Go.Proofs.Ytnmlcbdbbnaabaa.My
def spec_DrawClueOf.f (k : Nat) (l0 : List Int) : Option (List Bool) := (spec_l20Open.f l0).bind fun bt => ((spec_l20Rd_odd.f k bt.1 bt.2 9).bind fun bo => (if bo.1 = true then ((spec_l20Rd_pick.f k bt.1 bo.2 2).bind fun bp => (if bp.1 = 0 then some [] else (if bp.1 = 1 then some (List.replicate 9 false) else none))) else ((spec_l20Line.f k bt.1 bo.2 8).bind fun bl => some bl.1)))
theorem spec_DrawClueOf.mono : ∀ a0 k, LeO (spec_DrawClueOf.f k a0) (spec_DrawClueOf.f (k + 1) a0) := by
  intro a0 k
  unfold spec_DrawClueOf.f
  repeat' first
      | (with_reducible exact spec_l20Rd_odd.mono _ _ _ _)
      | (with_reducible exact spec_l20Rd_pick.mono _ _ _ _)
      | (with_reducible exact spec_l20Line.mono _ _ _ _)
      | (with_reducible exact LeO.refl _)
      | (with_reducible exact LeO.none _)
      | (with_reducible refine LeO.ite ?_ ?_)
      | (with_reducible refine LeO.bind ?_ (fun _ => ?_))
      | exact spec_l20Rd_odd.mono _ _ _ _
      | exact spec_l20Rd_pick.mono _ _ _ _
      | exact spec_l20Line.mono _ _ _ _
      | exact LeO.none _
      | refine LeO.ite ?_ ?_
      | refine LeO.bind ?_ (fun _ => ?_)
set_option maxHeartbeats 8000000 in
set_option maxRecDepth 100000 in
theorem spec_DrawClueOf.calls (k : Nat) (A0 : Option Addr) (c0 : Nat) (l0 : List Int) (r : List Bool) (w : World) (hr0 : Kd.C (Kd.int .u8) w A0 l0.length l0) (hc0 : l0.length ≤ c0) (h : spec_DrawClueOf.f k l0 = some r) :
    Calls Try.prog 30 #[.slice A0 l0.length c0] w fun e w' => ∃ v0_ : Value, e = .returned (v0_) ∧ Kd.R Kd.bool 4 w' w.heap.size (fun _ => True) v0_ r ∧ Below w.heap.size w w' := by
  unfold spec_DrawClueOf.f at h
  obtain ⟨⟨b, p0⟩, h0, h⟩ := Option.bind_eq_some_iff.mp h
  obtain ⟨⟨o, p1⟩, h1, h⟩ := Option.bind_eq_some_iff.mp h
  have HO0 := Aside0.mk h0
  have HO1 := Aside0.mk h1
  have HR := Aside0.mk hr0
  have hi4 : (Try.prog.info? 4).map (fun i => (i.zero, i.size, i.bytes)) = some (some (.bool false), 1, 1) := by kernel_rfl
  clear h0 h1 hr0
  cases o with
  | false =>
    obtain ⟨⟨bl, p2⟩, h2, h⟩ := Option.bind_eq_some_iff.mp (show ((spec_l20Line.f k b p1 8).bind fun bl => some bl.1) = some r from h)
    have e0 : bl = r := Option.some.inj h
    subst e0
    have HL := Aside0.mk h2
    clear h h2
    go_enter Try.func30, Try.ntmps30
    go_wp2_with (first | ((with_reducible refine gate_callee (f := 40) rfl ?_); refine goesL_ (some 5) rfl rfl Try.func40 (by kernel_rfl) rfl #[.slice A0 l0.length c0] rfl (by (try simp only [List.map_toArray, List.map_cons, List.map_nil]); first | done | rfl) ?_; (with_reducible refine (spec_l20Open.calls A0 c0 l0 b p0 w w (Below.refl _ _) HR.out hc0 HO0.out).mono ?_); rintro e wb ⟨g, rfl, hi, hb, hb2⟩; have HI := Aside0.mk hi; have HB := Aside0.mk hb; clear hi hb hb2; refine ⟨_, rfl, ?_⟩) | ((with_reducible refine gate_callee (f := 44) rfl ?_); refine goesL_ (some 7) rfl rfl Try.func44 (by kernel_rfl) rfl #[.pointer (some ⟨g, 0, none⟩), .int .i64 9] rfl (by (try simp only [List.map_toArray, List.map_cons, List.map_nil]); first | done | rfl) ?_; (with_reducible refine (spec_l20Rd_odd.calls k g b p0 9 _ p1 w _ HI.out HB.out HO1.out).mono ?_); rintro e wb ⟨rfl, hi, hb, hk⟩; have n1_ := Aside0.mk hi; have n2_ := Aside0.mk hb; clear HI HB; have HI := n1_; have HB := n2_; clear n1_ n2_ hi hb hk; refine ⟨_, rfl, ?_⟩) | ((with_reducible refine gate_callee (f := 42) rfl ?_); refine goesL_ (some 16) rfl rfl Try.func42 (by kernel_rfl) rfl #[.pointer (some ⟨g, 0, none⟩), .int .i64 8] rfl (by (try simp only [List.map_toArray, List.map_cons, List.map_nil]); first | done | rfl) ?_; (with_reducible refine (spec_l20Line.calls k g b p1 8 bl p2 w _ HI.out HB.out HL.out).mono ?_); rintro e wb ⟨v16, rfl, ho, hi, hb, hk⟩; have HV := Aside0.mk (Kd.R_lower ho HB.out.size); have HB2 := Aside0.mk hb; clear HI HB ho hi hb hk; refine ⟨_, rfl, ?_⟩))
    go_ret
    exact ⟨_, rfl, HV.out, HB2.out⟩
  | true =>
    obtain ⟨⟨x, p2⟩, h2, h⟩ := Option.bind_eq_some_iff.mp (show ((spec_l20Rd_pick.f k b p1 2).bind fun bp => (if bp.1 = 0 then some [] else (if bp.1 = 1 then some (List.replicate 9 false) else none))) = some r from h)
    have HP := Aside0.mk h2
    clear h2
    by_cases c0 : x = 0
    · rw [if_pos c0] at h
      have e0 : [] = r := Option.some.inj h
      subst e0
      subst c0
      clear h
      go_enter Try.func30, Try.ntmps30
      go_wp2_with (first | ((with_reducible refine gate_callee (f := 40) rfl ?_); refine goesL_ (some 5) rfl rfl Try.func40 (by kernel_rfl) rfl #[.slice A0 l0.length c0] rfl (by (try simp only [List.map_toArray, List.map_cons, List.map_nil]); first | done | rfl) ?_; (with_reducible refine (spec_l20Open.calls A0 c0 l0 b p0 w w (Below.refl _ _) HR.out hc0 HO0.out).mono ?_); rintro e wb ⟨g, rfl, hi, hb, hb2⟩; have HI := Aside0.mk hi; have HB := Aside0.mk hb; clear hi hb hb2; refine ⟨_, rfl, ?_⟩) | ((with_reducible refine gate_callee (f := 44) rfl ?_); refine goesL_ (some 7) rfl rfl Try.func44 (by kernel_rfl) rfl #[.pointer (some ⟨g, 0, none⟩), .int .i64 9] rfl (by (try simp only [List.map_toArray, List.map_cons, List.map_nil]); first | done | rfl) ?_; (with_reducible refine (spec_l20Rd_odd.calls k g b p0 9 _ p1 w _ HI.out HB.out HO1.out).mono ?_); rintro e wb ⟨rfl, hi, hb, hk⟩; have n1_ := Aside0.mk hi; have n2_ := Aside0.mk hb; clear HI HB; have HI := n1_; have HB := n2_; clear n1_ n2_ hi hb hk; refine ⟨_, rfl, ?_⟩))
      refine start_ (n := 8) (S := fun _ => True) (ds := []) #[false, false, false, false, false, false, false, false] (by kernel_rfl) rfl rfl trivial (fun hHeld => ?_)
      have HId : Aside0 (IsS58 w wb.drew g b p1) := ⟨IsS58.drew HI.out⟩
      have HBd : Aside0 (Below w.heap.size w wb.drew) := ⟨below_drew1 HB.out⟩
      generalize wb.drew = wd at HId HBd ⊢
      refine pure_ (i := 3) (N := some 11) (v := ?_) (a' := ?_) #[false, false, false, true, false, false, false, false] rfl rfl (by kernel_rfl) (fun _ _ _ h => h) (Or.inl ⟨by rfl, ?_⟩) ?_ ?_
      rotate_left
      · intro w'
        go_simp
        with_reducible rfl
      rotate_left
      · simp only [Act.put, List.setIfInBounds_toArray, List.set_cons_zero, List.set_cons_succ, i64_w, i32_w]
        rfl
      refine three_ (i := 0) (j := 1) (k := 4) (Ni := some 8) (Nj := some 9) (Nk := some 12) #[true, false, false, true, false, false, false, false] #[false, true, false, true, false, false, false, false] #[false, false, false, true, true, false, false, false] rfl rfl rfl rfl rfl rfl (by kernel_rfl) (by decide) (by decide) (by decide) (fun K hK => ?_) (fun K hK => ?_) (fun K hK => ?_)
      · refine Kd.R_lit_step Kd.bool (w0 := wd) wd.heap.size 4 (by rfl) (N := 8) rfl (xs := ([] : List Bool)) (inner := []) (ok := fun _ => True) (okp := fun _ => True) (by first | (go_simp; done) | (go_simp; rfl)) (Reps.none _ _) (fun _ hk => hk) trivial (Below.refl _ _) (Nat.le_refl _) (by simp) ?_
        intro v8 w1_ ho hb hg_ hnew_
        obtain ⟨A8, c8, e8⟩ := Kd.R_slice ho
        subst e8
        have FI1_ := Aside0.mk (IsS58.below HId.out hb)
        have FB1_ := Aside0.mk (below_then HBd.out HBd.out.size hb)
        have F81_ := Aside0.mk (Kd.R_lower ho HBd.out.size)
        clear ho hb hg_ hnew_
        refine hK.out _ _ trivial (fun hHeld => ?_)
        clear hK K
        refine norm_ (a' := ?_) ?_ ?_
        rotate_left
        · show Act.put _ (some 8) _ = _
          simp only [Act.put, List.setIfInBounds_toArray, List.set_cons_zero, List.set_cons_succ, i64_w, i32_w]
          rfl
        refine two_ (i := 1) (j := 4) (Ni := some 9) (Nj := some 12) #[true, true, false, true, false, false, false, false] #[true, false, false, true, true, false, false, false] rfl rfl rfl rfl (by kernel_rfl) (by decide) (by decide) (fun K hK => ?_) (fun K hK => ?_)
        · refine Kd.R_make_step Kd.bool (w0 := w1_) w1_.heap.size 4 (by rfl) (N := 9) rfl 27 _ _ rfl 9 rfl rfl Try.underlying27 (.bool false) 1 hi4 rfl (by decide) (by omega) false (ok := fun _ => True) (okp := fun _ => True) rfl (fun _ hk => hk) trivial (by omega) (by decide) (Below.refl _ _) (Nat.le_refl _) ?_
          intro v9 w4_ ho hb hg_ hnew_
          obtain ⟨A9, c9, e9⟩ := Kd.R_slice ho
          subst e9
          have FI4_ := Aside0.mk (IsS58.below FI1_.out hb)
          have FB4_ := Aside0.mk (below_then FB1_.out FB1_.out.size hb)
          have F84_ := Aside0.mk (Kd.R_below F81_.out hb)
          have F94_ := Aside0.mk (Kd.R_lower ho FB1_.out.size)
          clear ho hb hg_ hnew_
          refine hK.out _ _ trivial (fun hHeld => ?_)
          clear hK K
          refine norm_ (a' := ?_) ?_ ?_
          rotate_left
          · show Act.put _ (some 9) _ = _
            simp only [Act.put, List.setIfInBounds_toArray, List.set_cons_zero, List.set_cons_succ, i64_w, i32_w]
            rfl
          refine two_ (i := 2) (j := 4) (Ni := some 10) (Nj := some 12) #[true, true, true, true, false, false, false, false] #[true, true, false, true, true, false, false, false] rfl rfl rfl rfl (by kernel_rfl) (by decide) (by decide) (fun K hK => ?_) (fun K hK => ?_)
          · refine event_step (v := .slice (some ⟨w4_.heap.size, 0, none⟩) 2 2) (w1 := w4_.alloc (Obj.cells #[.slice A8 0 c8, .slice A9 9 c9] 27)) (by rfl) ?_ ?_
            · first | (go_simp; done) | (go_simp; rfl)
            have hb : Below w4_.heap.size w4_ (w4_.alloc (Obj.cells #[.slice A8 0 c8, .slice A9 9 c9] 27)) := (Below.refl _ _).alloc (Nat.le_refl _) _
            have FI6_ := Aside0.mk (IsS58.below FI4_.out hb)
            have FB6_ := Aside0.mk (below_then FB4_.out FB4_.out.size hb)
            have F86_ := Aside0.mk (Kd.R_below F84_.out hb)
            have F96_ := Aside0.mk (Kd.R_below F94_.out hb)
            have FX6_ := Aside0.mk (blk_new w4_ (Obj.cells #[.slice A8 0 c8, .slice A9 9 c9] 27))
            clear hb
            generalize w4_.alloc (Obj.cells #[.slice A8 0 c8, .slice A9 9 c9] 27) = w6_ at FI6_ FB6_ F86_ F96_ FX6_ ⊢
            obtain ⟨bx, hbx⟩ : ∃ bx, w4_.heap.size = bx := ⟨_, rfl⟩
            rw [hbx] at FX6_ ⊢
            clear hbx
            refine hK.out _ _ trivial (fun hHeld => ?_)
            clear hK K
            refine norm_ (a' := ?_) ?_ ?_
            rotate_left
            · show Act.put _ (some 10) _ = _
              simp only [Act.put, List.setIfInBounds_toArray, List.set_cons_zero, List.set_cons_succ, i64_w, i32_w]
              rfl
            refine one_ (i := 4) (N := some 12) #[true, true, true, true, true, false, false, false] rfl rfl (by kernel_rfl) (by decide) (fun K hK => ?_)
            refine goes_ Try.func45 (by kernel_rfl) rfl #[.pointer (some ⟨g, 0, none⟩), .int .i64 2] (by rfl) rfl rfl (by (try simp only [List.map_toArray, List.map_cons, List.map_nil]); first | done | rfl) ?_
            with_reducible refine (spec_l20Rd_pick.calls k g b p1 2 _ p2 w w6_ FI6_.out FB6_.out HP.out).mono ?_
            rintro e w8_ ⟨rfl, hi, hb, hk⟩
            have F88_ := Aside0.mk (Kd.R_mono (Kd.R_keep (IsS58.apart FI6_.out F86_.out (by simp [Kd.bool, Kd.scalar])) hk (fun _ h => h.2)) (fun _ h => h.1))
            have F98_ := Aside0.mk (Kd.R_mono (Kd.R_keep (IsS58.apart FI6_.out F96_.out (by simp [Kd.bool, Kd.scalar])) hk (fun _ h => h.2)) (fun _ h => h.1))
            have FX8_ := Aside0.mk ((hk.2 bx (blk_lt FX6_.out) (IsS58.ne_blk FI6_.out FX6_.out (by decide)).symm (by simp)).trans FX6_.out)
            have FI8_ := Aside0.mk hi
            have FB8_ := Aside0.mk hb
            clear hi hb hk
            refine ⟨_, rfl, ?_⟩
            refine hK.out _ _ trivial (fun hHeld => ?_)
            clear hK K
            refine norm_ (a' := ?_) ?_ ?_
            rotate_left
            · show Act.put _ (some 12) _ = _
              simp only [Act.put, List.setIfInBounds_toArray, List.set_cons_zero, List.set_cons_succ, i64_w, i32_w]
              rfl
            refine pure_ (i := 5) (N := some 13) (v := ?_) (a' := ?_) #[true, true, true, true, true, true, false, false] rfl rfl (by kernel_rfl) (fun _ _ _ h => h) (Or.inl ⟨by rfl, ?_⟩) ?_ ?_
            rotate_left
            · intro w'
              go_simp
              with_reducible rfl
            rotate_left
            · simp only [Act.put, List.setIfInBounds_toArray, List.set_cons_zero, List.set_cons_succ, i64_w, i32_w]
              rfl
            have hcx : w8_.cell? ⟨bx, 0, none⟩ = some (.slice A8 0 c8) := blk_cell FX8_.out 0
            refine one_ (i := 6) (N := some 14) #[true, true, true, true, true, true, true, false] rfl rfl (by kernel_rfl) (by decide) (fun K hK => ?_)
            refine event_step (v := (.slice A8 0 c8)) (w1 := w8_) (by rfl) ?_ ?_
            · first | (go_simp; done) | (go_simp; rfl)
            refine hK.out _ _ trivial (fun hHeld => ?_)
            clear hK K
            refine norm_ (a' := ?_) ?_ ?_
            rotate_left
            · show Act.put _ (some 14) _ = _
              simp only [Act.put, List.setIfInBounds_toArray, List.set_cons_zero, List.set_cons_succ, i64_w, i32_w]
              rfl
            refine pure_ (i := 7) (N := some 2) (v := ?_) (a' := ?_) #[true, true, true, true, true, true, true, true] rfl rfl (by kernel_rfl) (fun _ _ _ h => h) (Or.inl ⟨by rfl, ?_⟩) ?_ ?_
            rotate_left
            · intro w'
              go_simp
              with_reducible rfl
            rotate_left
            · simp only [Act.put, List.setIfInBounds_toArray, List.set_cons_zero, List.set_cons_succ, i64_w, i32_w]
              rfl
            refine done_ (by kernel_rfl) ?_
            go_wp2
            go_ret
            exact ⟨_, rfl, F88_.out, FB8_.out⟩
          · refine goes_ Try.func45 (by kernel_rfl) rfl #[.pointer (some ⟨g, 0, none⟩), .int .i64 2] (by rfl) rfl rfl (by (try simp only [List.map_toArray, List.map_cons, List.map_nil]); first | done | rfl) ?_
            with_reducible refine (spec_l20Rd_pick.calls k g b p1 2 _ p2 w w4_ FI4_.out FB4_.out HP.out).mono ?_
            rintro e w7_ ⟨rfl, hi, hb, hk⟩
            have F87_ := Aside0.mk (Kd.R_mono (Kd.R_keep (IsS58.apart FI4_.out F84_.out (by simp [Kd.bool, Kd.scalar])) hk (fun _ h => h.2)) (fun _ h => h.1))
            have F97_ := Aside0.mk (Kd.R_mono (Kd.R_keep (IsS58.apart FI4_.out F94_.out (by simp [Kd.bool, Kd.scalar])) hk (fun _ h => h.2)) (fun _ h => h.1))
            have FI7_ := Aside0.mk hi
            have FB7_ := Aside0.mk hb
            clear hi hb hk
            refine ⟨_, rfl, ?_⟩
            refine hK.out _ _ trivial (fun hHeld => ?_)
            clear hK K
            refine norm_ (a' := ?_) ?_ ?_
            rotate_left
            · show Act.put _ (some 12) _ = _
              simp only [Act.put, List.setIfInBounds_toArray, List.set_cons_zero, List.set_cons_succ, i64_w, i32_w]
              rfl
            refine one_ (i := 2) (N := some 10) #[true, true, true, true, true, false, false, false] rfl rfl (by kernel_rfl) (by decide) (fun K hK => ?_)
            refine event_step (v := .slice (some ⟨w7_.heap.size, 0, none⟩) 2 2) (w1 := w7_.alloc (Obj.cells #[.slice A8 0 c8, .slice A9 9 c9] 27)) (by rfl) ?_ ?_
            · first | (go_simp; done) | (go_simp; rfl)
            have hb : Below w7_.heap.size w7_ (w7_.alloc (Obj.cells #[.slice A8 0 c8, .slice A9 9 c9] 27)) := (Below.refl _ _).alloc (Nat.le_refl _) _
            have FI9_ := Aside0.mk (IsS58.below FI7_.out hb)
            have FB9_ := Aside0.mk (below_then FB7_.out FB7_.out.size hb)
            have F89_ := Aside0.mk (Kd.R_below F87_.out hb)
            have F99_ := Aside0.mk (Kd.R_below F97_.out hb)
            have FX9_ := Aside0.mk (blk_new w7_ (Obj.cells #[.slice A8 0 c8, .slice A9 9 c9] 27))
            clear hb
            generalize w7_.alloc (Obj.cells #[.slice A8 0 c8, .slice A9 9 c9] 27) = w9_ at FI9_ FB9_ F89_ F99_ FX9_ ⊢
            obtain ⟨bx, hbx⟩ : ∃ bx, w7_.heap.size = bx := ⟨_, rfl⟩
            rw [hbx] at FX9_ ⊢
            clear hbx
            refine hK.out _ _ trivial (fun hHeld => ?_)
            clear hK K
            refine norm_ (a' := ?_) ?_ ?_
            rotate_left
            · show Act.put _ (some 10) _ = _
              simp only [Act.put, List.setIfInBounds_toArray, List.set_cons_zero, List.set_cons_succ, i64_w, i32_w]
              rfl
            refine pure_ (i := 5) (N := some 13) (v := ?_) (a' := ?_) #[true, true, true, true, true, true, false, false] rfl rfl (by kernel_rfl) (fun _ _ _ h => h) (Or.inl ⟨by rfl, ?_⟩) ?_ ?_
            rotate_left
            · intro w'
              go_simp
              with_reducible rfl
            rotate_left
            · simp only [Act.put, List.setIfInBounds_toArray, List.set_cons_zero, List.set_cons_succ, i64_w, i32_w]
              rfl
            have hcx : w9_.cell? ⟨bx, 0, none⟩ = some (.slice A8 0 c8) := blk_cell FX9_.out 0
            refine one_ (i := 6) (N := some 14) #[true, true, true, true, true, true, true, false] rfl rfl (by kernel_rfl) (by decide) (fun K hK => ?_)
            refine event_step (v := (.slice A8 0 c8)) (w1 := w9_) (by rfl) ?_ ?_
            · first | (go_simp; done) | (go_simp; rfl)
            refine hK.out _ _ trivial (fun hHeld => ?_)
            clear hK K
            refine norm_ (a' := ?_) ?_ ?_
            rotate_left
            · show Act.put _ (some 14) _ = _
              simp only [Act.put, List.setIfInBounds_toArray, List.set_cons_zero, List.set_cons_succ, i64_w, i32_w]
              rfl
            refine pure_ (i := 7) (N := some 2) (v := ?_) (a' := ?_) #[true, true, true, true, true, true, true, true] rfl rfl (by kernel_rfl) (fun _ _ _ h => h) (Or.inl ⟨by rfl, ?_⟩) ?_ ?_
            rotate_left
            · intro w'
              go_simp
              with_reducible rfl
            rotate_left
            · simp only [Act.put, List.setIfInBounds_toArray, List.set_cons_zero, List.set_cons_succ, i64_w, i32_w]
              rfl
            refine done_ (by kernel_rfl) ?_
            go_wp2
            go_ret
            exact ⟨_, rfl, F89_.out, FB9_.out⟩
        · refine goes_ Try.func45 (by kernel_rfl) rfl #[.pointer (some ⟨g, 0, none⟩), .int .i64 2] (by rfl) rfl rfl (by (try simp only [List.map_toArray, List.map_cons, List.map_nil]); first | done | rfl) ?_
          with_reducible refine (spec_l20Rd_pick.calls k g b p1 2 _ p2 w w1_ FI1_.out FB1_.out HP.out).mono ?_
          rintro e w5_ ⟨rfl, hi, hb, hk⟩
          have F85_ := Aside0.mk (Kd.R_mono (Kd.R_keep (IsS58.apart FI1_.out F81_.out (by simp [Kd.bool, Kd.scalar])) hk (fun _ h => h.2)) (fun _ h => h.1))
          have FI5_ := Aside0.mk hi
          have FB5_ := Aside0.mk hb
          clear hi hb hk
          refine ⟨_, rfl, ?_⟩
          refine hK.out _ _ trivial (fun hHeld => ?_)
          clear hK K
          refine norm_ (a' := ?_) ?_ ?_
          rotate_left
          · show Act.put _ (some 12) _ = _
            simp only [Act.put, List.setIfInBounds_toArray, List.set_cons_zero, List.set_cons_succ, i64_w, i32_w]
            rfl
          refine one_ (i := 1) (N := some 9) #[true, true, false, true, true, false, false, false] rfl rfl (by kernel_rfl) (by decide) (fun K hK => ?_)
          refine Kd.R_make_step Kd.bool (w0 := w5_) w5_.heap.size 4 (by rfl) (N := 9) rfl 27 _ _ rfl 9 rfl rfl Try.underlying27 (.bool false) 1 hi4 rfl (by decide) (by omega) false (ok := fun _ => True) (okp := fun _ => True) rfl (fun _ hk => hk) trivial (by omega) (by decide) (Below.refl _ _) (Nat.le_refl _) ?_
          intro v9 w10_ ho hb hg_ hnew_
          obtain ⟨A9, c9, e9⟩ := Kd.R_slice ho
          subst e9
          have FI10_ := Aside0.mk (IsS58.below FI5_.out hb)
          have FB10_ := Aside0.mk (below_then FB5_.out FB5_.out.size hb)
          have F810_ := Aside0.mk (Kd.R_below F85_.out hb)
          have F910_ := Aside0.mk (Kd.R_lower ho FB5_.out.size)
          clear ho hb hg_ hnew_
          refine hK.out _ _ trivial (fun hHeld => ?_)
          clear hK K
          refine norm_ (a' := ?_) ?_ ?_
          rotate_left
          · show Act.put _ (some 9) _ = _
            simp only [Act.put, List.setIfInBounds_toArray, List.set_cons_zero, List.set_cons_succ, i64_w, i32_w]
            rfl
          refine one_ (i := 2) (N := some 10) #[true, true, true, true, true, false, false, false] rfl rfl (by kernel_rfl) (by decide) (fun K hK => ?_)
          refine event_step (v := .slice (some ⟨w10_.heap.size, 0, none⟩) 2 2) (w1 := w10_.alloc (Obj.cells #[.slice A8 0 c8, .slice A9 9 c9] 27)) (by rfl) ?_ ?_
          · first | (go_simp; done) | (go_simp; rfl)
          have hb : Below w10_.heap.size w10_ (w10_.alloc (Obj.cells #[.slice A8 0 c8, .slice A9 9 c9] 27)) := (Below.refl _ _).alloc (Nat.le_refl _) _
          have FI11_ := Aside0.mk (IsS58.below FI10_.out hb)
          have FB11_ := Aside0.mk (below_then FB10_.out FB10_.out.size hb)
          have F811_ := Aside0.mk (Kd.R_below F810_.out hb)
          have F911_ := Aside0.mk (Kd.R_below F910_.out hb)
          have FX11_ := Aside0.mk (blk_new w10_ (Obj.cells #[.slice A8 0 c8, .slice A9 9 c9] 27))
          clear hb
          generalize w10_.alloc (Obj.cells #[.slice A8 0 c8, .slice A9 9 c9] 27) = w11_ at FI11_ FB11_ F811_ F911_ FX11_ ⊢
          obtain ⟨bx, hbx⟩ : ∃ bx, w10_.heap.size = bx := ⟨_, rfl⟩
          rw [hbx] at FX11_ ⊢
          clear hbx
          refine hK.out _ _ trivial (fun hHeld => ?_)
          clear hK K
          refine norm_ (a' := ?_) ?_ ?_
          rotate_left
          · show Act.put _ (some 10) _ = _
            simp only [Act.put, List.setIfInBounds_toArray, List.set_cons_zero, List.set_cons_succ, i64_w, i32_w]
            rfl
          refine pure_ (i := 5) (N := some 13) (v := ?_) (a' := ?_) #[true, true, true, true, true, true, false, false] rfl rfl (by kernel_rfl) (fun _ _ _ h => h) (Or.inl ⟨by rfl, ?_⟩) ?_ ?_
          rotate_left
          · intro w'
            go_simp
            with_reducible rfl
          rotate_left
          · simp only [Act.put, List.setIfInBounds_toArray, List.set_cons_zero, List.set_cons_succ, i64_w, i32_w]
            rfl
          have hcx : w11_.cell? ⟨bx, 0, none⟩ = some (.slice A8 0 c8) := blk_cell FX11_.out 0
          refine one_ (i := 6) (N := some 14) #[true, true, true, true, true, true, true, false] rfl rfl (by kernel_rfl) (by decide) (fun K hK => ?_)
          refine event_step (v := (.slice A8 0 c8)) (w1 := w11_) (by rfl) ?_ ?_
          · first | (go_simp; done) | (go_simp; rfl)
          refine hK.out _ _ trivial (fun hHeld => ?_)
          clear hK K
          refine norm_ (a' := ?_) ?_ ?_
          rotate_left
          · show Act.put _ (some 14) _ = _
            simp only [Act.put, List.setIfInBounds_toArray, List.set_cons_zero, List.set_cons_succ, i64_w, i32_w]
            rfl
          refine pure_ (i := 7) (N := some 2) (v := ?_) (a' := ?_) #[true, true, true, true, true, true, true, true] rfl rfl (by kernel_rfl) (fun _ _ _ h => h) (Or.inl ⟨by rfl, ?_⟩) ?_ ?_
          rotate_left
          · intro w'
            go_simp
            with_reducible rfl
          rotate_left
          · simp only [Act.put, List.setIfInBounds_toArray, List.set_cons_zero, List.set_cons_succ, i64_w, i32_w]
            rfl
          refine done_ (by kernel_rfl) ?_
          go_wp2
          go_ret
          exact ⟨_, rfl, F811_.out, FB11_.out⟩
      · refine Kd.R_make_step Kd.bool (w0 := wd) wd.heap.size 4 (by rfl) (N := 9) rfl 27 _ _ rfl 9 rfl rfl Try.underlying27 (.bool false) 1 hi4 rfl (by decide) (by omega) false (ok := fun _ => True) (okp := fun _ => True) rfl (fun _ hk => hk) trivial (by omega) (by decide) (Below.refl _ _) (Nat.le_refl _) ?_
        intro v9 w2_ ho hb hg_ hnew_
        obtain ⟨A9, c9, e9⟩ := Kd.R_slice ho
        subst e9
        have FI2_ := Aside0.mk (IsS58.below HId.out hb)
        have FB2_ := Aside0.mk (below_then HBd.out HBd.out.size hb)
        have F92_ := Aside0.mk (Kd.R_lower ho HBd.out.size)
        clear ho hb hg_ hnew_
        refine hK.out _ _ trivial (fun hHeld => ?_)
        clear hK K
        refine norm_ (a' := ?_) ?_ ?_
        rotate_left
        · show Act.put _ (some 9) _ = _
          simp only [Act.put, List.setIfInBounds_toArray, List.set_cons_zero, List.set_cons_succ, i64_w, i32_w]
          rfl
        refine two_ (i := 0) (j := 4) (Ni := some 8) (Nj := some 12) #[true, true, false, true, false, false, false, false] #[false, true, false, true, true, false, false, false] rfl rfl rfl rfl (by kernel_rfl) (by decide) (by decide) (fun K hK => ?_) (fun K hK => ?_)
        · refine Kd.R_lit_step Kd.bool (w0 := w2_) w2_.heap.size 4 (by rfl) (N := 8) rfl (xs := ([] : List Bool)) (inner := []) (ok := fun _ => True) (okp := fun _ => True) (by first | (go_simp; done) | (go_simp; rfl)) (Reps.none _ _) (fun _ hk => hk) trivial (Below.refl _ _) (Nat.le_refl _) (by simp) ?_
          intro v8 w12_ ho hb hg_ hnew_
          obtain ⟨A8, c8, e8⟩ := Kd.R_slice ho
          subst e8
          have FI12_ := Aside0.mk (IsS58.below FI2_.out hb)
          have FB12_ := Aside0.mk (below_then FB2_.out FB2_.out.size hb)
          have F912_ := Aside0.mk (Kd.R_below F92_.out hb)
          have F812_ := Aside0.mk (Kd.R_lower ho FB2_.out.size)
          clear ho hb hg_ hnew_
          refine hK.out _ _ trivial (fun hHeld => ?_)
          clear hK K
          refine norm_ (a' := ?_) ?_ ?_
          rotate_left
          · show Act.put _ (some 8) _ = _
            simp only [Act.put, List.setIfInBounds_toArray, List.set_cons_zero, List.set_cons_succ, i64_w, i32_w]
            rfl
          refine two_ (i := 2) (j := 4) (Ni := some 10) (Nj := some 12) #[true, true, true, true, false, false, false, false] #[true, true, false, true, true, false, false, false] rfl rfl rfl rfl (by kernel_rfl) (by decide) (by decide) (fun K hK => ?_) (fun K hK => ?_)
          · refine event_step (v := .slice (some ⟨w12_.heap.size, 0, none⟩) 2 2) (w1 := w12_.alloc (Obj.cells #[.slice A8 0 c8, .slice A9 9 c9] 27)) (by rfl) ?_ ?_
            · first | (go_simp; done) | (go_simp; rfl)
            have hb : Below w12_.heap.size w12_ (w12_.alloc (Obj.cells #[.slice A8 0 c8, .slice A9 9 c9] 27)) := (Below.refl _ _).alloc (Nat.le_refl _) _
            have FI14_ := Aside0.mk (IsS58.below FI12_.out hb)
            have FB14_ := Aside0.mk (below_then FB12_.out FB12_.out.size hb)
            have F914_ := Aside0.mk (Kd.R_below F912_.out hb)
            have F814_ := Aside0.mk (Kd.R_below F812_.out hb)
            have FX14_ := Aside0.mk (blk_new w12_ (Obj.cells #[.slice A8 0 c8, .slice A9 9 c9] 27))
            clear hb
            generalize w12_.alloc (Obj.cells #[.slice A8 0 c8, .slice A9 9 c9] 27) = w14_ at FI14_ FB14_ F914_ F814_ FX14_ ⊢
            obtain ⟨bx, hbx⟩ : ∃ bx, w12_.heap.size = bx := ⟨_, rfl⟩
            rw [hbx] at FX14_ ⊢
            clear hbx
            refine hK.out _ _ trivial (fun hHeld => ?_)
            clear hK K
            refine norm_ (a' := ?_) ?_ ?_
            rotate_left
            · show Act.put _ (some 10) _ = _
              simp only [Act.put, List.setIfInBounds_toArray, List.set_cons_zero, List.set_cons_succ, i64_w, i32_w]
              rfl
            refine one_ (i := 4) (N := some 12) #[true, true, true, true, true, false, false, false] rfl rfl (by kernel_rfl) (by decide) (fun K hK => ?_)
            refine goes_ Try.func45 (by kernel_rfl) rfl #[.pointer (some ⟨g, 0, none⟩), .int .i64 2] (by rfl) rfl rfl (by (try simp only [List.map_toArray, List.map_cons, List.map_nil]); first | done | rfl) ?_
            with_reducible refine (spec_l20Rd_pick.calls k g b p1 2 _ p2 w w14_ FI14_.out FB14_.out HP.out).mono ?_
            rintro e w16_ ⟨rfl, hi, hb, hk⟩
            have F916_ := Aside0.mk (Kd.R_mono (Kd.R_keep (IsS58.apart FI14_.out F914_.out (by simp [Kd.bool, Kd.scalar])) hk (fun _ h => h.2)) (fun _ h => h.1))
            have F816_ := Aside0.mk (Kd.R_mono (Kd.R_keep (IsS58.apart FI14_.out F814_.out (by simp [Kd.bool, Kd.scalar])) hk (fun _ h => h.2)) (fun _ h => h.1))
            have FX16_ := Aside0.mk ((hk.2 bx (blk_lt FX14_.out) (IsS58.ne_blk FI14_.out FX14_.out (by decide)).symm (by simp)).trans FX14_.out)
            have FI16_ := Aside0.mk hi
            have FB16_ := Aside0.mk hb
            clear hi hb hk
            refine ⟨_, rfl, ?_⟩
            refine hK.out _ _ trivial (fun hHeld => ?_)
            clear hK K
            refine norm_ (a' := ?_) ?_ ?_
            rotate_left
            · show Act.put _ (some 12) _ = _
              simp only [Act.put, List.setIfInBounds_toArray, List.set_cons_zero, List.set_cons_succ, i64_w, i32_w]
              rfl
            refine pure_ (i := 5) (N := some 13) (v := ?_) (a' := ?_) #[true, true, true, true, true, true, false, false] rfl rfl (by kernel_rfl) (fun _ _ _ h => h) (Or.inl ⟨by rfl, ?_⟩) ?_ ?_
            rotate_left
            · intro w'
              go_simp
              with_reducible rfl
            rotate_left
            · simp only [Act.put, List.setIfInBounds_toArray, List.set_cons_zero, List.set_cons_succ, i64_w, i32_w]
              rfl
            have hcx : w16_.cell? ⟨bx, 0, none⟩ = some (.slice A8 0 c8) := blk_cell FX16_.out 0
            refine one_ (i := 6) (N := some 14) #[true, true, true, true, true, true, true, false] rfl rfl (by kernel_rfl) (by decide) (fun K hK => ?_)
            refine event_step (v := (.slice A8 0 c8)) (w1 := w16_) (by rfl) ?_ ?_
            · first | (go_simp; done) | (go_simp; rfl)
            refine hK.out _ _ trivial (fun hHeld => ?_)
            clear hK K
            refine norm_ (a' := ?_) ?_ ?_
            rotate_left
            · show Act.put _ (some 14) _ = _
              simp only [Act.put, List.setIfInBounds_toArray, List.set_cons_zero, List.set_cons_succ, i64_w, i32_w]
              rfl
            refine pure_ (i := 7) (N := some 2) (v := ?_) (a' := ?_) #[true, true, true, true, true, true, true, true] rfl rfl (by kernel_rfl) (fun _ _ _ h => h) (Or.inl ⟨by rfl, ?_⟩) ?_ ?_
            rotate_left
            · intro w'
              go_simp
              with_reducible rfl
            rotate_left
            · simp only [Act.put, List.setIfInBounds_toArray, List.set_cons_zero, List.set_cons_succ, i64_w, i32_w]
              rfl
            refine done_ (by kernel_rfl) ?_
            go_wp2
            go_ret
            exact ⟨_, rfl, F816_.out, FB16_.out⟩
          · refine goes_ Try.func45 (by kernel_rfl) rfl #[.pointer (some ⟨g, 0, none⟩), .int .i64 2] (by rfl) rfl rfl (by (try simp only [List.map_toArray, List.map_cons, List.map_nil]); first | done | rfl) ?_
            with_reducible refine (spec_l20Rd_pick.calls k g b p1 2 _ p2 w w12_ FI12_.out FB12_.out HP.out).mono ?_
            rintro e w15_ ⟨rfl, hi, hb, hk⟩
            have F915_ := Aside0.mk (Kd.R_mono (Kd.R_keep (IsS58.apart FI12_.out F912_.out (by simp [Kd.bool, Kd.scalar])) hk (fun _ h => h.2)) (fun _ h => h.1))
            have F815_ := Aside0.mk (Kd.R_mono (Kd.R_keep (IsS58.apart FI12_.out F812_.out (by simp [Kd.bool, Kd.scalar])) hk (fun _ h => h.2)) (fun _ h => h.1))
            have FI15_ := Aside0.mk hi
            have FB15_ := Aside0.mk hb
            clear hi hb hk
            refine ⟨_, rfl, ?_⟩
            refine hK.out _ _ trivial (fun hHeld => ?_)
            clear hK K
            refine norm_ (a' := ?_) ?_ ?_
            rotate_left
            · show Act.put _ (some 12) _ = _
              simp only [Act.put, List.setIfInBounds_toArray, List.set_cons_zero, List.set_cons_succ, i64_w, i32_w]
              rfl
            refine one_ (i := 2) (N := some 10) #[true, true, true, true, true, false, false, false] rfl rfl (by kernel_rfl) (by decide) (fun K hK => ?_)
            refine event_step (v := .slice (some ⟨w15_.heap.size, 0, none⟩) 2 2) (w1 := w15_.alloc (Obj.cells #[.slice A8 0 c8, .slice A9 9 c9] 27)) (by rfl) ?_ ?_
            · first | (go_simp; done) | (go_simp; rfl)
            have hb : Below w15_.heap.size w15_ (w15_.alloc (Obj.cells #[.slice A8 0 c8, .slice A9 9 c9] 27)) := (Below.refl _ _).alloc (Nat.le_refl _) _
            have FI17_ := Aside0.mk (IsS58.below FI15_.out hb)
            have FB17_ := Aside0.mk (below_then FB15_.out FB15_.out.size hb)
            have F917_ := Aside0.mk (Kd.R_below F915_.out hb)
            have F817_ := Aside0.mk (Kd.R_below F815_.out hb)
            have FX17_ := Aside0.mk (blk_new w15_ (Obj.cells #[.slice A8 0 c8, .slice A9 9 c9] 27))
            clear hb
            generalize w15_.alloc (Obj.cells #[.slice A8 0 c8, .slice A9 9 c9] 27) = w17_ at FI17_ FB17_ F917_ F817_ FX17_ ⊢
            obtain ⟨bx, hbx⟩ : ∃ bx, w15_.heap.size = bx := ⟨_, rfl⟩
            rw [hbx] at FX17_ ⊢
            clear hbx
            refine hK.out _ _ trivial (fun hHeld => ?_)
            clear hK K
            refine norm_ (a' := ?_) ?_ ?_
            rotate_left
            · show Act.put _ (some 10) _ = _
              simp only [Act.put, List.setIfInBounds_toArray, List.set_cons_zero, List.set_cons_succ, i64_w, i32_w]
              rfl
            refine pure_ (i := 5) (N := some 13) (v := ?_) (a' := ?_) #[true, true, true, true, true, true, false, false] rfl rfl (by kernel_rfl) (fun _ _ _ h => h) (Or.inl ⟨by rfl, ?_⟩) ?_ ?_
            rotate_left
            · intro w'
              go_simp
              with_reducible rfl
            rotate_left
            · simp only [Act.put, List.setIfInBounds_toArray, List.set_cons_zero, List.set_cons_succ, i64_w, i32_w]
              rfl
            have hcx : w17_.cell? ⟨bx, 0, none⟩ = some (.slice A8 0 c8) := blk_cell FX17_.out 0
            refine one_ (i := 6) (N := some 14) #[true, true, true, true, true, true, true, false] rfl rfl (by kernel_rfl) (by decide) (fun K hK => ?_)
            refine event_step (v := (.slice A8 0 c8)) (w1 := w17_) (by rfl) ?_ ?_
            · first | (go_simp; done) | (go_simp; rfl)
            refine hK.out _ _ trivial (fun hHeld => ?_)
            clear hK K
            refine norm_ (a' := ?_) ?_ ?_
            rotate_left
            · show Act.put _ (some 14) _ = _
              simp only [Act.put, List.setIfInBounds_toArray, List.set_cons_zero, List.set_cons_succ, i64_w, i32_w]
              rfl
            refine pure_ (i := 7) (N := some 2) (v := ?_) (a' := ?_) #[true, true, true, true, true, true, true, true] rfl rfl (by kernel_rfl) (fun _ _ _ h => h) (Or.inl ⟨by rfl, ?_⟩) ?_ ?_
            rotate_left
            · intro w'
              go_simp
              with_reducible rfl
            rotate_left
            · simp only [Act.put, List.setIfInBounds_toArray, List.set_cons_zero, List.set_cons_succ, i64_w, i32_w]
              rfl
            refine done_ (by kernel_rfl) ?_
            go_wp2
            go_ret
            exact ⟨_, rfl, F817_.out, FB17_.out⟩
        · refine goes_ Try.func45 (by kernel_rfl) rfl #[.pointer (some ⟨g, 0, none⟩), .int .i64 2] (by rfl) rfl rfl (by (try simp only [List.map_toArray, List.map_cons, List.map_nil]); first | done | rfl) ?_
          with_reducible refine (spec_l20Rd_pick.calls k g b p1 2 _ p2 w w2_ FI2_.out FB2_.out HP.out).mono ?_
          rintro e w13_ ⟨rfl, hi, hb, hk⟩
          have F913_ := Aside0.mk (Kd.R_mono (Kd.R_keep (IsS58.apart FI2_.out F92_.out (by simp [Kd.bool, Kd.scalar])) hk (fun _ h => h.2)) (fun _ h => h.1))
          have FI13_ := Aside0.mk hi
          have FB13_ := Aside0.mk hb
          clear hi hb hk
          refine ⟨_, rfl, ?_⟩
          refine hK.out _ _ trivial (fun hHeld => ?_)
          clear hK K
          refine norm_ (a' := ?_) ?_ ?_
          rotate_left
          · show Act.put _ (some 12) _ = _
            simp only [Act.put, List.setIfInBounds_toArray, List.set_cons_zero, List.set_cons_succ, i64_w, i32_w]
            rfl
          refine one_ (i := 0) (N := some 8) #[true, true, false, true, true, false, false, false] rfl rfl (by kernel_rfl) (by decide) (fun K hK => ?_)
          refine Kd.R_lit_step Kd.bool (w0 := w13_) w13_.heap.size 4 (by rfl) (N := 8) rfl (xs := ([] : List Bool)) (inner := []) (ok := fun _ => True) (okp := fun _ => True) (by first | (go_simp; done) | (go_simp; rfl)) (Reps.none _ _) (fun _ hk => hk) trivial (Below.refl _ _) (Nat.le_refl _) (by simp) ?_
          intro v8 w18_ ho hb hg_ hnew_
          obtain ⟨A8, c8, e8⟩ := Kd.R_slice ho
          subst e8
          have FI18_ := Aside0.mk (IsS58.below FI13_.out hb)
          have FB18_ := Aside0.mk (below_then FB13_.out FB13_.out.size hb)
          have F918_ := Aside0.mk (Kd.R_below F913_.out hb)
          have F818_ := Aside0.mk (Kd.R_lower ho FB13_.out.size)
          clear ho hb hg_ hnew_
          refine hK.out _ _ trivial (fun hHeld => ?_)
          clear hK K
          refine norm_ (a' := ?_) ?_ ?_
          rotate_left
          · show Act.put _ (some 8) _ = _
            simp only [Act.put, List.setIfInBounds_toArray, List.set_cons_zero, List.set_cons_succ, i64_w, i32_w]
            rfl
          refine one_ (i := 2) (N := some 10) #[true, true, true, true, true, false, false, false] rfl rfl (by kernel_rfl) (by decide) (fun K hK => ?_)
          refine event_step (v := .slice (some ⟨w18_.heap.size, 0, none⟩) 2 2) (w1 := w18_.alloc (Obj.cells #[.slice A8 0 c8, .slice A9 9 c9] 27)) (by rfl) ?_ ?_
          · first | (go_simp; done) | (go_simp; rfl)
          have hb : Below w18_.heap.size w18_ (w18_.alloc (Obj.cells #[.slice A8 0 c8, .slice A9 9 c9] 27)) := (Below.refl _ _).alloc (Nat.le_refl _) _
          have FI19_ := Aside0.mk (IsS58.below FI18_.out hb)
          have FB19_ := Aside0.mk (below_then FB18_.out FB18_.out.size hb)
          have F919_ := Aside0.mk (Kd.R_below F918_.out hb)
          have F819_ := Aside0.mk (Kd.R_below F818_.out hb)
          have FX19_ := Aside0.mk (blk_new w18_ (Obj.cells #[.slice A8 0 c8, .slice A9 9 c9] 27))
          clear hb
          generalize w18_.alloc (Obj.cells #[.slice A8 0 c8, .slice A9 9 c9] 27) = w19_ at FI19_ FB19_ F919_ F819_ FX19_ ⊢
          obtain ⟨bx, hbx⟩ : ∃ bx, w18_.heap.size = bx := ⟨_, rfl⟩
          rw [hbx] at FX19_ ⊢
          clear hbx
          refine hK.out _ _ trivial (fun hHeld => ?_)
          clear hK K
          refine norm_ (a' := ?_) ?_ ?_
          rotate_left
          · show Act.put _ (some 10) _ = _
            simp only [Act.put, List.setIfInBounds_toArray, List.set_cons_zero, List.set_cons_succ, i64_w, i32_w]
            rfl
          refine pure_ (i := 5) (N := some 13) (v := ?_) (a' := ?_) #[true, true, true, true, true, true, false, false] rfl rfl (by kernel_rfl) (fun _ _ _ h => h) (Or.inl ⟨by rfl, ?_⟩) ?_ ?_
          rotate_left
          · intro w'
            go_simp
            with_reducible rfl
          rotate_left
          · simp only [Act.put, List.setIfInBounds_toArray, List.set_cons_zero, List.set_cons_succ, i64_w, i32_w]
            rfl
          have hcx : w19_.cell? ⟨bx, 0, none⟩ = some (.slice A8 0 c8) := blk_cell FX19_.out 0
          refine one_ (i := 6) (N := some 14) #[true, true, true, true, true, true, true, false] rfl rfl (by kernel_rfl) (by decide) (fun K hK => ?_)
          refine event_step (v := (.slice A8 0 c8)) (w1 := w19_) (by rfl) ?_ ?_
          · first | (go_simp; done) | (go_simp; rfl)
          refine hK.out _ _ trivial (fun hHeld => ?_)
          clear hK K
          refine norm_ (a' := ?_) ?_ ?_
          rotate_left
          · show Act.put _ (some 14) _ = _
            simp only [Act.put, List.setIfInBounds_toArray, List.set_cons_zero, List.set_cons_succ, i64_w, i32_w]
            rfl
          refine pure_ (i := 7) (N := some 2) (v := ?_) (a' := ?_) #[true, true, true, true, true, true, true, true] rfl rfl (by kernel_rfl) (fun _ _ _ h => h) (Or.inl ⟨by rfl, ?_⟩) ?_ ?_
          rotate_left
          · intro w'
            go_simp
            with_reducible rfl
          rotate_left
          · simp only [Act.put, List.setIfInBounds_toArray, List.set_cons_zero, List.set_cons_succ, i64_w, i32_w]
            rfl
          refine done_ (by kernel_rfl) ?_
          go_wp2
          go_ret
          exact ⟨_, rfl, F819_.out, FB19_.out⟩
      · refine goes_ Try.func45 (by kernel_rfl) rfl #[.pointer (some ⟨g, 0, none⟩), .int .i64 2] (by rfl) rfl rfl (by (try simp only [List.map_toArray, List.map_cons, List.map_nil]); first | done | rfl) ?_
        with_reducible refine (spec_l20Rd_pick.calls k g b p1 2 _ p2 w wd HId.out HBd.out HP.out).mono ?_
        rintro e w3_ ⟨rfl, hi, hb, hk⟩
        have FI3_ := Aside0.mk hi
        have FB3_ := Aside0.mk hb
        clear hi hb hk
        refine ⟨_, rfl, ?_⟩
        refine hK.out _ _ trivial (fun hHeld => ?_)
        clear hK K
        refine norm_ (a' := ?_) ?_ ?_
        rotate_left
        · show Act.put _ (some 12) _ = _
          simp only [Act.put, List.setIfInBounds_toArray, List.set_cons_zero, List.set_cons_succ, i64_w, i32_w]
          rfl
        refine two_ (i := 0) (j := 1) (Ni := some 8) (Nj := some 9) #[true, false, false, true, true, false, false, false] #[false, true, false, true, true, false, false, false] rfl rfl rfl rfl (by kernel_rfl) (by decide) (by decide) (fun K hK => ?_) (fun K hK => ?_)
        · refine Kd.R_lit_step Kd.bool (w0 := w3_) w3_.heap.size 4 (by rfl) (N := 8) rfl (xs := ([] : List Bool)) (inner := []) (ok := fun _ => True) (okp := fun _ => True) (by first | (go_simp; done) | (go_simp; rfl)) (Reps.none _ _) (fun _ hk => hk) trivial (Below.refl _ _) (Nat.le_refl _) (by simp) ?_
          intro v8 w20_ ho hb hg_ hnew_
          obtain ⟨A8, c8, e8⟩ := Kd.R_slice ho
          subst e8
          have FI20_ := Aside0.mk (IsS58.below FI3_.out hb)
          have FB20_ := Aside0.mk (below_then FB3_.out FB3_.out.size hb)
          have F820_ := Aside0.mk (Kd.R_lower ho FB3_.out.size)
          clear ho hb hg_ hnew_
          refine hK.out _ _ trivial (fun hHeld => ?_)
          clear hK K
          refine norm_ (a' := ?_) ?_ ?_
          rotate_left
          · show Act.put _ (some 8) _ = _
            simp only [Act.put, List.setIfInBounds_toArray, List.set_cons_zero, List.set_cons_succ, i64_w, i32_w]
            rfl
          refine one_ (i := 1) (N := some 9) #[true, true, false, true, true, false, false, false] rfl rfl (by kernel_rfl) (by decide) (fun K hK => ?_)
          refine Kd.R_make_step Kd.bool (w0 := w20_) w20_.heap.size 4 (by rfl) (N := 9) rfl 27 _ _ rfl 9 rfl rfl Try.underlying27 (.bool false) 1 hi4 rfl (by decide) (by omega) false (ok := fun _ => True) (okp := fun _ => True) rfl (fun _ hk => hk) trivial (by omega) (by decide) (Below.refl _ _) (Nat.le_refl _) ?_
          intro v9 w22_ ho hb hg_ hnew_
          obtain ⟨A9, c9, e9⟩ := Kd.R_slice ho
          subst e9
          have FI22_ := Aside0.mk (IsS58.below FI20_.out hb)
          have FB22_ := Aside0.mk (below_then FB20_.out FB20_.out.size hb)
          have F822_ := Aside0.mk (Kd.R_below F820_.out hb)
          have F922_ := Aside0.mk (Kd.R_lower ho FB20_.out.size)
          clear ho hb hg_ hnew_
          refine hK.out _ _ trivial (fun hHeld => ?_)
          clear hK K
          refine norm_ (a' := ?_) ?_ ?_
          rotate_left
          · show Act.put _ (some 9) _ = _
            simp only [Act.put, List.setIfInBounds_toArray, List.set_cons_zero, List.set_cons_succ, i64_w, i32_w]
            rfl
          refine one_ (i := 2) (N := some 10) #[true, true, true, true, true, false, false, false] rfl rfl (by kernel_rfl) (by decide) (fun K hK => ?_)
          refine event_step (v := .slice (some ⟨w22_.heap.size, 0, none⟩) 2 2) (w1 := w22_.alloc (Obj.cells #[.slice A8 0 c8, .slice A9 9 c9] 27)) (by rfl) ?_ ?_
          · first | (go_simp; done) | (go_simp; rfl)
          have hb : Below w22_.heap.size w22_ (w22_.alloc (Obj.cells #[.slice A8 0 c8, .slice A9 9 c9] 27)) := (Below.refl _ _).alloc (Nat.le_refl _) _
          have FI23_ := Aside0.mk (IsS58.below FI22_.out hb)
          have FB23_ := Aside0.mk (below_then FB22_.out FB22_.out.size hb)
          have F823_ := Aside0.mk (Kd.R_below F822_.out hb)
          have F923_ := Aside0.mk (Kd.R_below F922_.out hb)
          have FX23_ := Aside0.mk (blk_new w22_ (Obj.cells #[.slice A8 0 c8, .slice A9 9 c9] 27))
          clear hb
          generalize w22_.alloc (Obj.cells #[.slice A8 0 c8, .slice A9 9 c9] 27) = w23_ at FI23_ FB23_ F823_ F923_ FX23_ ⊢
          obtain ⟨bx, hbx⟩ : ∃ bx, w22_.heap.size = bx := ⟨_, rfl⟩
          rw [hbx] at FX23_ ⊢
          clear hbx
          refine hK.out _ _ trivial (fun hHeld => ?_)
          clear hK K
          refine norm_ (a' := ?_) ?_ ?_
          rotate_left
          · show Act.put _ (some 10) _ = _
            simp only [Act.put, List.setIfInBounds_toArray, List.set_cons_zero, List.set_cons_succ, i64_w, i32_w]
            rfl
          refine pure_ (i := 5) (N := some 13) (v := ?_) (a' := ?_) #[true, true, true, true, true, true, false, false] rfl rfl (by kernel_rfl) (fun _ _ _ h => h) (Or.inl ⟨by rfl, ?_⟩) ?_ ?_
          rotate_left
          · intro w'
            go_simp
            with_reducible rfl
          rotate_left
          · simp only [Act.put, List.setIfInBounds_toArray, List.set_cons_zero, List.set_cons_succ, i64_w, i32_w]
            rfl
          have hcx : w23_.cell? ⟨bx, 0, none⟩ = some (.slice A8 0 c8) := blk_cell FX23_.out 0
          refine one_ (i := 6) (N := some 14) #[true, true, true, true, true, true, true, false] rfl rfl (by kernel_rfl) (by decide) (fun K hK => ?_)
          refine event_step (v := (.slice A8 0 c8)) (w1 := w23_) (by rfl) ?_ ?_
          · first | (go_simp; done) | (go_simp; rfl)
          refine hK.out _ _ trivial (fun hHeld => ?_)
          clear hK K
          refine norm_ (a' := ?_) ?_ ?_
          rotate_left
          · show Act.put _ (some 14) _ = _
            simp only [Act.put, List.setIfInBounds_toArray, List.set_cons_zero, List.set_cons_succ, i64_w, i32_w]
            rfl
          refine pure_ (i := 7) (N := some 2) (v := ?_) (a' := ?_) #[true, true, true, true, true, true, true, true] rfl rfl (by kernel_rfl) (fun _ _ _ h => h) (Or.inl ⟨by rfl, ?_⟩) ?_ ?_
          rotate_left
          · intro w'
            go_simp
            with_reducible rfl
          rotate_left
          · simp only [Act.put, List.setIfInBounds_toArray, List.set_cons_zero, List.set_cons_succ, i64_w, i32_w]
            rfl
          refine done_ (by kernel_rfl) ?_
          go_wp2
          go_ret
          exact ⟨_, rfl, F823_.out, FB23_.out⟩
        · refine Kd.R_make_step Kd.bool (w0 := w3_) w3_.heap.size 4 (by rfl) (N := 9) rfl 27 _ _ rfl 9 rfl rfl Try.underlying27 (.bool false) 1 hi4 rfl (by decide) (by omega) false (ok := fun _ => True) (okp := fun _ => True) rfl (fun _ hk => hk) trivial (by omega) (by decide) (Below.refl _ _) (Nat.le_refl _) ?_
          intro v9 w21_ ho hb hg_ hnew_
          obtain ⟨A9, c9, e9⟩ := Kd.R_slice ho
          subst e9
          have FI21_ := Aside0.mk (IsS58.below FI3_.out hb)
          have FB21_ := Aside0.mk (below_then FB3_.out FB3_.out.size hb)
          have F921_ := Aside0.mk (Kd.R_lower ho FB3_.out.size)
          clear ho hb hg_ hnew_
          refine hK.out _ _ trivial (fun hHeld => ?_)
          clear hK K
          refine norm_ (a' := ?_) ?_ ?_
          rotate_left
          · show Act.put _ (some 9) _ = _
            simp only [Act.put, List.setIfInBounds_toArray, List.set_cons_zero, List.set_cons_succ, i64_w, i32_w]
            rfl
          refine one_ (i := 0) (N := some 8) #[true, true, false, true, true, false, false, false] rfl rfl (by kernel_rfl) (by decide) (fun K hK => ?_)
          refine Kd.R_lit_step Kd.bool (w0 := w21_) w21_.heap.size 4 (by rfl) (N := 8) rfl (xs := ([] : List Bool)) (inner := []) (ok := fun _ => True) (okp := fun _ => True) (by first | (go_simp; done) | (go_simp; rfl)) (Reps.none _ _) (fun _ hk => hk) trivial (Below.refl _ _) (Nat.le_refl _) (by simp) ?_
          intro v8 w24_ ho hb hg_ hnew_
          obtain ⟨A8, c8, e8⟩ := Kd.R_slice ho
          subst e8
          have FI24_ := Aside0.mk (IsS58.below FI21_.out hb)
          have FB24_ := Aside0.mk (below_then FB21_.out FB21_.out.size hb)
          have F924_ := Aside0.mk (Kd.R_below F921_.out hb)
          have F824_ := Aside0.mk (Kd.R_lower ho FB21_.out.size)
          clear ho hb hg_ hnew_
          refine hK.out _ _ trivial (fun hHeld => ?_)
          clear hK K
          refine norm_ (a' := ?_) ?_ ?_
          rotate_left
          · show Act.put _ (some 8) _ = _
            simp only [Act.put, List.setIfInBounds_toArray, List.set_cons_zero, List.set_cons_succ, i64_w, i32_w]
            rfl
          refine one_ (i := 2) (N := some 10) #[true, true, true, true, true, false, false, false] rfl rfl (by kernel_rfl) (by decide) (fun K hK => ?_)
          refine event_step (v := .slice (some ⟨w24_.heap.size, 0, none⟩) 2 2) (w1 := w24_.alloc (Obj.cells #[.slice A8 0 c8, .slice A9 9 c9] 27)) (by rfl) ?_ ?_
          · first | (go_simp; done) | (go_simp; rfl)
          have hb : Below w24_.heap.size w24_ (w24_.alloc (Obj.cells #[.slice A8 0 c8, .slice A9 9 c9] 27)) := (Below.refl _ _).alloc (Nat.le_refl _) _
          have FI25_ := Aside0.mk (IsS58.below FI24_.out hb)
          have FB25_ := Aside0.mk (below_then FB24_.out FB24_.out.size hb)
          have F925_ := Aside0.mk (Kd.R_below F924_.out hb)
          have F825_ := Aside0.mk (Kd.R_below F824_.out hb)
          have FX25_ := Aside0.mk (blk_new w24_ (Obj.cells #[.slice A8 0 c8, .slice A9 9 c9] 27))
          clear hb
          generalize w24_.alloc (Obj.cells #[.slice A8 0 c8, .slice A9 9 c9] 27) = w25_ at FI25_ FB25_ F925_ F825_ FX25_ ⊢
          obtain ⟨bx, hbx⟩ : ∃ bx, w24_.heap.size = bx := ⟨_, rfl⟩
          rw [hbx] at FX25_ ⊢
          clear hbx
          refine hK.out _ _ trivial (fun hHeld => ?_)
          clear hK K
          refine norm_ (a' := ?_) ?_ ?_
          rotate_left
          · show Act.put _ (some 10) _ = _
            simp only [Act.put, List.setIfInBounds_toArray, List.set_cons_zero, List.set_cons_succ, i64_w, i32_w]
            rfl
          refine pure_ (i := 5) (N := some 13) (v := ?_) (a' := ?_) #[true, true, true, true, true, true, false, false] rfl rfl (by kernel_rfl) (fun _ _ _ h => h) (Or.inl ⟨by rfl, ?_⟩) ?_ ?_
          rotate_left
          · intro w'
            go_simp
            with_reducible rfl
          rotate_left
          · simp only [Act.put, List.setIfInBounds_toArray, List.set_cons_zero, List.set_cons_succ, i64_w, i32_w]
            rfl
          have hcx : w25_.cell? ⟨bx, 0, none⟩ = some (.slice A8 0 c8) := blk_cell FX25_.out 0
          refine one_ (i := 6) (N := some 14) #[true, true, true, true, true, true, true, false] rfl rfl (by kernel_rfl) (by decide) (fun K hK => ?_)
          refine event_step (v := (.slice A8 0 c8)) (w1 := w25_) (by rfl) ?_ ?_
          · first | (go_simp; done) | (go_simp; rfl)
          refine hK.out _ _ trivial (fun hHeld => ?_)
          clear hK K
          refine norm_ (a' := ?_) ?_ ?_
          rotate_left
          · show Act.put _ (some 14) _ = _
            simp only [Act.put, List.setIfInBounds_toArray, List.set_cons_zero, List.set_cons_succ, i64_w, i32_w]
            rfl
          refine pure_ (i := 7) (N := some 2) (v := ?_) (a' := ?_) #[true, true, true, true, true, true, true, true] rfl rfl (by kernel_rfl) (fun _ _ _ h => h) (Or.inl ⟨by rfl, ?_⟩) ?_ ?_
          rotate_left
          · intro w'
            go_simp
            with_reducible rfl
          rotate_left
          · simp only [Act.put, List.setIfInBounds_toArray, List.set_cons_zero, List.set_cons_succ, i64_w, i32_w]
            rfl
          refine done_ (by kernel_rfl) ?_
          go_wp2
          go_ret
          exact ⟨_, rfl, F825_.out, FB25_.out⟩
    · rw [if_neg c0] at h
      by_cases c1 : x = 1
      · rw [if_pos c1] at h
        have e0 : List.replicate 9 false = r := Option.some.inj h
        subst e0
        subst c1
        clear h c0
        go_enter Try.func30, Try.ntmps30
        go_wp2_with (first | ((with_reducible refine gate_callee (f := 40) rfl ?_); refine goesL_ (some 5) rfl rfl Try.func40 (by kernel_rfl) rfl #[.slice A0 l0.length c0] rfl (by (try simp only [List.map_toArray, List.map_cons, List.map_nil]); first | done | rfl) ?_; (with_reducible refine (spec_l20Open.calls A0 c0 l0 b p0 w w (Below.refl _ _) HR.out hc0 HO0.out).mono ?_); rintro e wb ⟨g, rfl, hi, hb, hb2⟩; have HI := Aside0.mk hi; have HB := Aside0.mk hb; clear hi hb hb2; refine ⟨_, rfl, ?_⟩) | ((with_reducible refine gate_callee (f := 44) rfl ?_); refine goesL_ (some 7) rfl rfl Try.func44 (by kernel_rfl) rfl #[.pointer (some ⟨g, 0, none⟩), .int .i64 9] rfl (by (try simp only [List.map_toArray, List.map_cons, List.map_nil]); first | done | rfl) ?_; (with_reducible refine (spec_l20Rd_odd.calls k g b p0 9 _ p1 w _ HI.out HB.out HO1.out).mono ?_); rintro e wb ⟨rfl, hi, hb, hk⟩; have n1_ := Aside0.mk hi; have n2_ := Aside0.mk hb; clear HI HB; have HI := n1_; have HB := n2_; clear n1_ n2_ hi hb hk; refine ⟨_, rfl, ?_⟩))
        refine start_ (n := 8) (S := fun _ => True) (ds := []) #[false, false, false, false, false, false, false, false] (by kernel_rfl) rfl rfl trivial (fun hHeld => ?_)
        have HId : Aside0 (IsS58 w wb.drew g b p1) := ⟨IsS58.drew HI.out⟩
        have HBd : Aside0 (Below w.heap.size w wb.drew) := ⟨below_drew1 HB.out⟩
        generalize wb.drew = wd at HId HBd ⊢
        refine pure_ (i := 3) (N := some 11) (v := ?_) (a' := ?_) #[false, false, false, true, false, false, false, false] rfl rfl (by kernel_rfl) (fun _ _ _ h => h) (Or.inl ⟨by rfl, ?_⟩) ?_ ?_
        rotate_left
        · intro w'
          go_simp
          with_reducible rfl
        rotate_left
        · simp only [Act.put, List.setIfInBounds_toArray, List.set_cons_zero, List.set_cons_succ, i64_w, i32_w]
          rfl
        refine three_ (i := 0) (j := 1) (k := 4) (Ni := some 8) (Nj := some 9) (Nk := some 12) #[true, false, false, true, false, false, false, false] #[false, true, false, true, false, false, false, false] #[false, false, false, true, true, false, false, false] rfl rfl rfl rfl rfl rfl (by kernel_rfl) (by decide) (by decide) (by decide) (fun K hK => ?_) (fun K hK => ?_) (fun K hK => ?_)
        · refine Kd.R_lit_step Kd.bool (w0 := wd) wd.heap.size 4 (by rfl) (N := 8) rfl (xs := ([] : List Bool)) (inner := []) (ok := fun _ => True) (okp := fun _ => True) (by first | (go_simp; done) | (go_simp; rfl)) (Reps.none _ _) (fun _ hk => hk) trivial (Below.refl _ _) (Nat.le_refl _) (by simp) ?_
          intro v8 w1_ ho hb hg_ hnew_
          obtain ⟨A8, c8, e8⟩ := Kd.R_slice ho
          subst e8
          have FI1_ := Aside0.mk (IsS58.below HId.out hb)
          have FB1_ := Aside0.mk (below_then HBd.out HBd.out.size hb)
          have F81_ := Aside0.mk (Kd.R_lower ho HBd.out.size)
          clear ho hb hg_ hnew_
          refine hK.out _ _ trivial (fun hHeld => ?_)
          clear hK K
          refine norm_ (a' := ?_) ?_ ?_
          rotate_left
          · show Act.put _ (some 8) _ = _
            simp only [Act.put, List.setIfInBounds_toArray, List.set_cons_zero, List.set_cons_succ, i64_w, i32_w]
            rfl
          refine two_ (i := 1) (j := 4) (Ni := some 9) (Nj := some 12) #[true, true, false, true, false, false, false, false] #[true, false, false, true, true, false, false, false] rfl rfl rfl rfl (by kernel_rfl) (by decide) (by decide) (fun K hK => ?_) (fun K hK => ?_)
          · refine Kd.R_make_step Kd.bool (w0 := w1_) w1_.heap.size 4 (by rfl) (N := 9) rfl 27 _ _ rfl 9 rfl rfl Try.underlying27 (.bool false) 1 hi4 rfl (by decide) (by omega) false (ok := fun _ => True) (okp := fun _ => True) rfl (fun _ hk => hk) trivial (by omega) (by decide) (Below.refl _ _) (Nat.le_refl _) ?_
            intro v9 w4_ ho hb hg_ hnew_
            obtain ⟨A9, c9, e9⟩ := Kd.R_slice ho
            subst e9
            have FI4_ := Aside0.mk (IsS58.below FI1_.out hb)
            have FB4_ := Aside0.mk (below_then FB1_.out FB1_.out.size hb)
            have F84_ := Aside0.mk (Kd.R_below F81_.out hb)
            have F94_ := Aside0.mk (Kd.R_lower ho FB1_.out.size)
            clear ho hb hg_ hnew_
            refine hK.out _ _ trivial (fun hHeld => ?_)
            clear hK K
            refine norm_ (a' := ?_) ?_ ?_
            rotate_left
            · show Act.put _ (some 9) _ = _
              simp only [Act.put, List.setIfInBounds_toArray, List.set_cons_zero, List.set_cons_succ, i64_w, i32_w]
              rfl
            refine two_ (i := 2) (j := 4) (Ni := some 10) (Nj := some 12) #[true, true, true, true, false, false, false, false] #[true, true, false, true, true, false, false, false] rfl rfl rfl rfl (by kernel_rfl) (by decide) (by decide) (fun K hK => ?_) (fun K hK => ?_)
            · refine event_step (v := .slice (some ⟨w4_.heap.size, 0, none⟩) 2 2) (w1 := w4_.alloc (Obj.cells #[.slice A8 0 c8, .slice A9 9 c9] 27)) (by rfl) ?_ ?_
              · first | (go_simp; done) | (go_simp; rfl)
              have hb : Below w4_.heap.size w4_ (w4_.alloc (Obj.cells #[.slice A8 0 c8, .slice A9 9 c9] 27)) := (Below.refl _ _).alloc (Nat.le_refl _) _
              have FI6_ := Aside0.mk (IsS58.below FI4_.out hb)
              have FB6_ := Aside0.mk (below_then FB4_.out FB4_.out.size hb)
              have F86_ := Aside0.mk (Kd.R_below F84_.out hb)
              have F96_ := Aside0.mk (Kd.R_below F94_.out hb)
              have FX6_ := Aside0.mk (blk_new w4_ (Obj.cells #[.slice A8 0 c8, .slice A9 9 c9] 27))
              clear hb
              generalize w4_.alloc (Obj.cells #[.slice A8 0 c8, .slice A9 9 c9] 27) = w6_ at FI6_ FB6_ F86_ F96_ FX6_ ⊢
              obtain ⟨bx, hbx⟩ : ∃ bx, w4_.heap.size = bx := ⟨_, rfl⟩
              rw [hbx] at FX6_ ⊢
              clear hbx
              refine hK.out _ _ trivial (fun hHeld => ?_)
              clear hK K
              refine norm_ (a' := ?_) ?_ ?_
              rotate_left
              · show Act.put _ (some 10) _ = _
                simp only [Act.put, List.setIfInBounds_toArray, List.set_cons_zero, List.set_cons_succ, i64_w, i32_w]
                rfl
              refine one_ (i := 4) (N := some 12) #[true, true, true, true, true, false, false, false] rfl rfl (by kernel_rfl) (by decide) (fun K hK => ?_)
              refine goes_ Try.func45 (by kernel_rfl) rfl #[.pointer (some ⟨g, 0, none⟩), .int .i64 2] (by rfl) rfl rfl (by (try simp only [List.map_toArray, List.map_cons, List.map_nil]); first | done | rfl) ?_
              with_reducible refine (spec_l20Rd_pick.calls k g b p1 2 _ p2 w w6_ FI6_.out FB6_.out HP.out).mono ?_
              rintro e w8_ ⟨rfl, hi, hb, hk⟩
              have F88_ := Aside0.mk (Kd.R_mono (Kd.R_keep (IsS58.apart FI6_.out F86_.out (by simp [Kd.bool, Kd.scalar])) hk (fun _ h => h.2)) (fun _ h => h.1))
              have F98_ := Aside0.mk (Kd.R_mono (Kd.R_keep (IsS58.apart FI6_.out F96_.out (by simp [Kd.bool, Kd.scalar])) hk (fun _ h => h.2)) (fun _ h => h.1))
              have FX8_ := Aside0.mk ((hk.2 bx (blk_lt FX6_.out) (IsS58.ne_blk FI6_.out FX6_.out (by decide)).symm (by simp)).trans FX6_.out)
              have FI8_ := Aside0.mk hi
              have FB8_ := Aside0.mk hb
              clear hi hb hk
              refine ⟨_, rfl, ?_⟩
              refine hK.out _ _ trivial (fun hHeld => ?_)
              clear hK K
              refine norm_ (a' := ?_) ?_ ?_
              rotate_left
              · show Act.put _ (some 12) _ = _
                simp only [Act.put, List.setIfInBounds_toArray, List.set_cons_zero, List.set_cons_succ, i64_w, i32_w]
                rfl
              refine pure_ (i := 5) (N := some 13) (v := ?_) (a' := ?_) #[true, true, true, true, true, true, false, false] rfl rfl (by kernel_rfl) (fun _ _ _ h => h) (Or.inl ⟨by rfl, ?_⟩) ?_ ?_
              rotate_left
              · intro w'
                go_simp
                with_reducible rfl
              rotate_left
              · simp only [Act.put, List.setIfInBounds_toArray, List.set_cons_zero, List.set_cons_succ, i64_w, i32_w]
                rfl
              have hcx : w8_.cell? ⟨bx, 1, none⟩ = some (.slice A9 9 c9) := blk_cell FX8_.out 1
              refine one_ (i := 6) (N := some 14) #[true, true, true, true, true, true, true, false] rfl rfl (by kernel_rfl) (by decide) (fun K hK => ?_)
              refine event_step (v := (.slice A9 9 c9)) (w1 := w8_) (by rfl) ?_ ?_
              · first | (go_simp; done) | (go_simp; rfl)
              refine hK.out _ _ trivial (fun hHeld => ?_)
              clear hK K
              refine norm_ (a' := ?_) ?_ ?_
              rotate_left
              · show Act.put _ (some 14) _ = _
                simp only [Act.put, List.setIfInBounds_toArray, List.set_cons_zero, List.set_cons_succ, i64_w, i32_w]
                rfl
              refine pure_ (i := 7) (N := some 2) (v := ?_) (a' := ?_) #[true, true, true, true, true, true, true, true] rfl rfl (by kernel_rfl) (fun _ _ _ h => h) (Or.inl ⟨by rfl, ?_⟩) ?_ ?_
              rotate_left
              · intro w'
                go_simp
                with_reducible rfl
              rotate_left
              · simp only [Act.put, List.setIfInBounds_toArray, List.set_cons_zero, List.set_cons_succ, i64_w, i32_w]
                rfl
              refine done_ (by kernel_rfl) ?_
              go_wp2
              go_ret
              exact ⟨_, rfl, F98_.out, FB8_.out⟩
            · refine goes_ Try.func45 (by kernel_rfl) rfl #[.pointer (some ⟨g, 0, none⟩), .int .i64 2] (by rfl) rfl rfl (by (try simp only [List.map_toArray, List.map_cons, List.map_nil]); first | done | rfl) ?_
              with_reducible refine (spec_l20Rd_pick.calls k g b p1 2 _ p2 w w4_ FI4_.out FB4_.out HP.out).mono ?_
              rintro e w7_ ⟨rfl, hi, hb, hk⟩
              have F87_ := Aside0.mk (Kd.R_mono (Kd.R_keep (IsS58.apart FI4_.out F84_.out (by simp [Kd.bool, Kd.scalar])) hk (fun _ h => h.2)) (fun _ h => h.1))
              have F97_ := Aside0.mk (Kd.R_mono (Kd.R_keep (IsS58.apart FI4_.out F94_.out (by simp [Kd.bool, Kd.scalar])) hk (fun _ h => h.2)) (fun _ h => h.1))
              have FI7_ := Aside0.mk hi
              have FB7_ := Aside0.mk hb
              clear hi hb hk
              refine ⟨_, rfl, ?_⟩
              refine hK.out _ _ trivial (fun hHeld => ?_)
              clear hK K
              refine norm_ (a' := ?_) ?_ ?_
              rotate_left
              · show Act.put _ (some 12) _ = _
                simp only [Act.put, List.setIfInBounds_toArray, List.set_cons_zero, List.set_cons_succ, i64_w, i32_w]
                rfl
              refine one_ (i := 2) (N := some 10) #[true, true, true, true, true, false, false, false] rfl rfl (by kernel_rfl) (by decide) (fun K hK => ?_)
              refine event_step (v := .slice (some ⟨w7_.heap.size, 0, none⟩) 2 2) (w1 := w7_.alloc (Obj.cells #[.slice A8 0 c8, .slice A9 9 c9] 27)) (by rfl) ?_ ?_
              · first | (go_simp; done) | (go_simp; rfl)
              have hb : Below w7_.heap.size w7_ (w7_.alloc (Obj.cells #[.slice A8 0 c8, .slice A9 9 c9] 27)) := (Below.refl _ _).alloc (Nat.le_refl _) _
              have FI9_ := Aside0.mk (IsS58.below FI7_.out hb)
              have FB9_ := Aside0.mk (below_then FB7_.out FB7_.out.size hb)
              have F89_ := Aside0.mk (Kd.R_below F87_.out hb)
              have F99_ := Aside0.mk (Kd.R_below F97_.out hb)
              have FX9_ := Aside0.mk (blk_new w7_ (Obj.cells #[.slice A8 0 c8, .slice A9 9 c9] 27))
              clear hb
              generalize w7_.alloc (Obj.cells #[.slice A8 0 c8, .slice A9 9 c9] 27) = w9_ at FI9_ FB9_ F89_ F99_ FX9_ ⊢
              obtain ⟨bx, hbx⟩ : ∃ bx, w7_.heap.size = bx := ⟨_, rfl⟩
              rw [hbx] at FX9_ ⊢
              clear hbx
              refine hK.out _ _ trivial (fun hHeld => ?_)
              clear hK K
              refine norm_ (a' := ?_) ?_ ?_
              rotate_left
              · show Act.put _ (some 10) _ = _
                simp only [Act.put, List.setIfInBounds_toArray, List.set_cons_zero, List.set_cons_succ, i64_w, i32_w]
                rfl
              refine pure_ (i := 5) (N := some 13) (v := ?_) (a' := ?_) #[true, true, true, true, true, true, false, false] rfl rfl (by kernel_rfl) (fun _ _ _ h => h) (Or.inl ⟨by rfl, ?_⟩) ?_ ?_
              rotate_left
              · intro w'
                go_simp
                with_reducible rfl
              rotate_left
              · simp only [Act.put, List.setIfInBounds_toArray, List.set_cons_zero, List.set_cons_succ, i64_w, i32_w]
                rfl
              have hcx : w9_.cell? ⟨bx, 1, none⟩ = some (.slice A9 9 c9) := blk_cell FX9_.out 1
              refine one_ (i := 6) (N := some 14) #[true, true, true, true, true, true, true, false] rfl rfl (by kernel_rfl) (by decide) (fun K hK => ?_)
              refine event_step (v := (.slice A9 9 c9)) (w1 := w9_) (by rfl) ?_ ?_
              · first | (go_simp; done) | (go_simp; rfl)
              refine hK.out _ _ trivial (fun hHeld => ?_)
              clear hK K
              refine norm_ (a' := ?_) ?_ ?_
              rotate_left
              · show Act.put _ (some 14) _ = _
                simp only [Act.put, List.setIfInBounds_toArray, List.set_cons_zero, List.set_cons_succ, i64_w, i32_w]
                rfl
              refine pure_ (i := 7) (N := some 2) (v := ?_) (a' := ?_) #[true, true, true, true, true, true, true, true] rfl rfl (by kernel_rfl) (fun _ _ _ h => h) (Or.inl ⟨by rfl, ?_⟩) ?_ ?_
              rotate_left
              · intro w'
                go_simp
                with_reducible rfl
              rotate_left
              · simp only [Act.put, List.setIfInBounds_toArray, List.set_cons_zero, List.set_cons_succ, i64_w, i32_w]
                rfl
              refine done_ (by kernel_rfl) ?_
              go_wp2
              go_ret
              exact ⟨_, rfl, F99_.out, FB9_.out⟩
          · refine goes_ Try.func45 (by kernel_rfl) rfl #[.pointer (some ⟨g, 0, none⟩), .int .i64 2] (by rfl) rfl rfl (by (try simp only [List.map_toArray, List.map_cons, List.map_nil]); first | done | rfl) ?_
            with_reducible refine (spec_l20Rd_pick.calls k g b p1 2 _ p2 w w1_ FI1_.out FB1_.out HP.out).mono ?_
            rintro e w5_ ⟨rfl, hi, hb, hk⟩
            have F85_ := Aside0.mk (Kd.R_mono (Kd.R_keep (IsS58.apart FI1_.out F81_.out (by simp [Kd.bool, Kd.scalar])) hk (fun _ h => h.2)) (fun _ h => h.1))
            have FI5_ := Aside0.mk hi
            have FB5_ := Aside0.mk hb
            clear hi hb hk
            refine ⟨_, rfl, ?_⟩
            refine hK.out _ _ trivial (fun hHeld => ?_)
            clear hK K
            refine norm_ (a' := ?_) ?_ ?_
            rotate_left
            · show Act.put _ (some 12) _ = _
              simp only [Act.put, List.setIfInBounds_toArray, List.set_cons_zero, List.set_cons_succ, i64_w, i32_w]
              rfl
            refine one_ (i := 1) (N := some 9) #[true, true, false, true, true, false, false, false] rfl rfl (by kernel_rfl) (by decide) (fun K hK => ?_)
            refine Kd.R_make_step Kd.bool (w0 := w5_) w5_.heap.size 4 (by rfl) (N := 9) rfl 27 _ _ rfl 9 rfl rfl Try.underlying27 (.bool false) 1 hi4 rfl (by decide) (by omega) false (ok := fun _ => True) (okp := fun _ => True) rfl (fun _ hk => hk) trivial (by omega) (by decide) (Below.refl _ _) (Nat.le_refl _) ?_
            intro v9 w10_ ho hb hg_ hnew_
            obtain ⟨A9, c9, e9⟩ := Kd.R_slice ho
            subst e9
            have FI10_ := Aside0.mk (IsS58.below FI5_.out hb)
            have FB10_ := Aside0.mk (below_then FB5_.out FB5_.out.size hb)
            have F810_ := Aside0.mk (Kd.R_below F85_.out hb)
            have F910_ := Aside0.mk (Kd.R_lower ho FB5_.out.size)
            clear ho hb hg_ hnew_
            refine hK.out _ _ trivial (fun hHeld => ?_)
            clear hK K
            refine norm_ (a' := ?_) ?_ ?_
            rotate_left
            · show Act.put _ (some 9) _ = _
              simp only [Act.put, List.setIfInBounds_toArray, List.set_cons_zero, List.set_cons_succ, i64_w, i32_w]
              rfl
            refine one_ (i := 2) (N := some 10) #[true, true, true, true, true, false, false, false] rfl rfl (by kernel_rfl) (by decide) (fun K hK => ?_)
            refine event_step (v := .slice (some ⟨w10_.heap.size, 0, none⟩) 2 2) (w1 := w10_.alloc (Obj.cells #[.slice A8 0 c8, .slice A9 9 c9] 27)) (by rfl) ?_ ?_
            · first | (go_simp; done) | (go_simp; rfl)
            have hb : Below w10_.heap.size w10_ (w10_.alloc (Obj.cells #[.slice A8 0 c8, .slice A9 9 c9] 27)) := (Below.refl _ _).alloc (Nat.le_refl _) _
            have FI11_ := Aside0.mk (IsS58.below FI10_.out hb)
            have FB11_ := Aside0.mk (below_then FB10_.out FB10_.out.size hb)
            have F811_ := Aside0.mk (Kd.R_below F810_.out hb)
            have F911_ := Aside0.mk (Kd.R_below F910_.out hb)
            have FX11_ := Aside0.mk (blk_new w10_ (Obj.cells #[.slice A8 0 c8, .slice A9 9 c9] 27))
            clear hb
            generalize w10_.alloc (Obj.cells #[.slice A8 0 c8, .slice A9 9 c9] 27) = w11_ at FI11_ FB11_ F811_ F911_ FX11_ ⊢
            obtain ⟨bx, hbx⟩ : ∃ bx, w10_.heap.size = bx := ⟨_, rfl⟩
            rw [hbx] at FX11_ ⊢
            clear hbx
            refine hK.out _ _ trivial (fun hHeld => ?_)
            clear hK K
            refine norm_ (a' := ?_) ?_ ?_
            rotate_left
            · show Act.put _ (some 10) _ = _
              simp only [Act.put, List.setIfInBounds_toArray, List.set_cons_zero, List.set_cons_succ, i64_w, i32_w]
              rfl
            refine pure_ (i := 5) (N := some 13) (v := ?_) (a' := ?_) #[true, true, true, true, true, true, false, false] rfl rfl (by kernel_rfl) (fun _ _ _ h => h) (Or.inl ⟨by rfl, ?_⟩) ?_ ?_
            rotate_left
            · intro w'
              go_simp
              with_reducible rfl
            rotate_left
            · simp only [Act.put, List.setIfInBounds_toArray, List.set_cons_zero, List.set_cons_succ, i64_w, i32_w]
              rfl
            have hcx : w11_.cell? ⟨bx, 1, none⟩ = some (.slice A9 9 c9) := blk_cell FX11_.out 1
            refine one_ (i := 6) (N := some 14) #[true, true, true, true, true, true, true, false] rfl rfl (by kernel_rfl) (by decide) (fun K hK => ?_)
            refine event_step (v := (.slice A9 9 c9)) (w1 := w11_) (by rfl) ?_ ?_
            · first | (go_simp; done) | (go_simp; rfl)
            refine hK.out _ _ trivial (fun hHeld => ?_)
            clear hK K
            refine norm_ (a' := ?_) ?_ ?_
            rotate_left
            · show Act.put _ (some 14) _ = _
              simp only [Act.put, List.setIfInBounds_toArray, List.set_cons_zero, List.set_cons_succ, i64_w, i32_w]
              rfl
            refine pure_ (i := 7) (N := some 2) (v := ?_) (a' := ?_) #[true, true, true, true, true, true, true, true] rfl rfl (by kernel_rfl) (fun _ _ _ h => h) (Or.inl ⟨by rfl, ?_⟩) ?_ ?_
            rotate_left
            · intro w'
              go_simp
              with_reducible rfl
            rotate_left
            · simp only [Act.put, List.setIfInBounds_toArray, List.set_cons_zero, List.set_cons_succ, i64_w, i32_w]
              rfl
            refine done_ (by kernel_rfl) ?_
            go_wp2
            go_ret
            exact ⟨_, rfl, F911_.out, FB11_.out⟩
        · refine Kd.R_make_step Kd.bool (w0 := wd) wd.heap.size 4 (by rfl) (N := 9) rfl 27 _ _ rfl 9 rfl rfl Try.underlying27 (.bool false) 1 hi4 rfl (by decide) (by omega) false (ok := fun _ => True) (okp := fun _ => True) rfl (fun _ hk => hk) trivial (by omega) (by decide) (Below.refl _ _) (Nat.le_refl _) ?_
          intro v9 w2_ ho hb hg_ hnew_
          obtain ⟨A9, c9, e9⟩ := Kd.R_slice ho
          subst e9
          have FI2_ := Aside0.mk (IsS58.below HId.out hb)
          have FB2_ := Aside0.mk (below_then HBd.out HBd.out.size hb)
          have F92_ := Aside0.mk (Kd.R_lower ho HBd.out.size)
          clear ho hb hg_ hnew_
          refine hK.out _ _ trivial (fun hHeld => ?_)
          clear hK K
          refine norm_ (a' := ?_) ?_ ?_
          rotate_left
          · show Act.put _ (some 9) _ = _
            simp only [Act.put, List.setIfInBounds_toArray, List.set_cons_zero, List.set_cons_succ, i64_w, i32_w]
            rfl
          refine two_ (i := 0) (j := 4) (Ni := some 8) (Nj := some 12) #[true, true, false, true, false, false, false, false] #[false, true, false, true, true, false, false, false] rfl rfl rfl rfl (by kernel_rfl) (by decide) (by decide) (fun K hK => ?_) (fun K hK => ?_)
          · refine Kd.R_lit_step Kd.bool (w0 := w2_) w2_.heap.size 4 (by rfl) (N := 8) rfl (xs := ([] : List Bool)) (inner := []) (ok := fun _ => True) (okp := fun _ => True) (by first | (go_simp; done) | (go_simp; rfl)) (Reps.none _ _) (fun _ hk => hk) trivial (Below.refl _ _) (Nat.le_refl _) (by simp) ?_
            intro v8 w12_ ho hb hg_ hnew_
            obtain ⟨A8, c8, e8⟩ := Kd.R_slice ho
            subst e8
            have FI12_ := Aside0.mk (IsS58.below FI2_.out hb)
            have FB12_ := Aside0.mk (below_then FB2_.out FB2_.out.size hb)
            have F912_ := Aside0.mk (Kd.R_below F92_.out hb)
            have F812_ := Aside0.mk (Kd.R_lower ho FB2_.out.size)
            clear ho hb hg_ hnew_
            refine hK.out _ _ trivial (fun hHeld => ?_)
            clear hK K
            refine norm_ (a' := ?_) ?_ ?_
            rotate_left
            · show Act.put _ (some 8) _ = _
              simp only [Act.put, List.setIfInBounds_toArray, List.set_cons_zero, List.set_cons_succ, i64_w, i32_w]
              rfl
            refine two_ (i := 2) (j := 4) (Ni := some 10) (Nj := some 12) #[true, true, true, true, false, false, false, false] #[true, true, false, true, true, false, false, false] rfl rfl rfl rfl (by kernel_rfl) (by decide) (by decide) (fun K hK => ?_) (fun K hK => ?_)
            · refine event_step (v := .slice (some ⟨w12_.heap.size, 0, none⟩) 2 2) (w1 := w12_.alloc (Obj.cells #[.slice A8 0 c8, .slice A9 9 c9] 27)) (by rfl) ?_ ?_
              · first | (go_simp; done) | (go_simp; rfl)
              have hb : Below w12_.heap.size w12_ (w12_.alloc (Obj.cells #[.slice A8 0 c8, .slice A9 9 c9] 27)) := (Below.refl _ _).alloc (Nat.le_refl _) _
              have FI14_ := Aside0.mk (IsS58.below FI12_.out hb)
              have FB14_ := Aside0.mk (below_then FB12_.out FB12_.out.size hb)
              have F914_ := Aside0.mk (Kd.R_below F912_.out hb)
              have F814_ := Aside0.mk (Kd.R_below F812_.out hb)
              have FX14_ := Aside0.mk (blk_new w12_ (Obj.cells #[.slice A8 0 c8, .slice A9 9 c9] 27))
              clear hb
              generalize w12_.alloc (Obj.cells #[.slice A8 0 c8, .slice A9 9 c9] 27) = w14_ at FI14_ FB14_ F914_ F814_ FX14_ ⊢
              obtain ⟨bx, hbx⟩ : ∃ bx, w12_.heap.size = bx := ⟨_, rfl⟩
              rw [hbx] at FX14_ ⊢
              clear hbx
              refine hK.out _ _ trivial (fun hHeld => ?_)
              clear hK K
              refine norm_ (a' := ?_) ?_ ?_
              rotate_left
              · show Act.put _ (some 10) _ = _
                simp only [Act.put, List.setIfInBounds_toArray, List.set_cons_zero, List.set_cons_succ, i64_w, i32_w]
                rfl
              refine one_ (i := 4) (N := some 12) #[true, true, true, true, true, false, false, false] rfl rfl (by kernel_rfl) (by decide) (fun K hK => ?_)
              refine goes_ Try.func45 (by kernel_rfl) rfl #[.pointer (some ⟨g, 0, none⟩), .int .i64 2] (by rfl) rfl rfl (by (try simp only [List.map_toArray, List.map_cons, List.map_nil]); first | done | rfl) ?_
              with_reducible refine (spec_l20Rd_pick.calls k g b p1 2 _ p2 w w14_ FI14_.out FB14_.out HP.out).mono ?_
              rintro e w16_ ⟨rfl, hi, hb, hk⟩
              have F916_ := Aside0.mk (Kd.R_mono (Kd.R_keep (IsS58.apart FI14_.out F914_.out (by simp [Kd.bool, Kd.scalar])) hk (fun _ h => h.2)) (fun _ h => h.1))
              have F816_ := Aside0.mk (Kd.R_mono (Kd.R_keep (IsS58.apart FI14_.out F814_.out (by simp [Kd.bool, Kd.scalar])) hk (fun _ h => h.2)) (fun _ h => h.1))
              have FX16_ := Aside0.mk ((hk.2 bx (blk_lt FX14_.out) (IsS58.ne_blk FI14_.out FX14_.out (by decide)).symm (by simp)).trans FX14_.out)
              have FI16_ := Aside0.mk hi
              have FB16_ := Aside0.mk hb
              clear hi hb hk
              refine ⟨_, rfl, ?_⟩
              refine hK.out _ _ trivial (fun hHeld => ?_)
              clear hK K
              refine norm_ (a' := ?_) ?_ ?_
              rotate_left
              · show Act.put _ (some 12) _ = _
                simp only [Act.put, List.setIfInBounds_toArray, List.set_cons_zero, List.set_cons_succ, i64_w, i32_w]
                rfl
              refine pure_ (i := 5) (N := some 13) (v := ?_) (a' := ?_) #[true, true, true, true, true, true, false, false] rfl rfl (by kernel_rfl) (fun _ _ _ h => h) (Or.inl ⟨by rfl, ?_⟩) ?_ ?_
              rotate_left
              · intro w'
                go_simp
                with_reducible rfl
              rotate_left
              · simp only [Act.put, List.setIfInBounds_toArray, List.set_cons_zero, List.set_cons_succ, i64_w, i32_w]
                rfl
              have hcx : w16_.cell? ⟨bx, 1, none⟩ = some (.slice A9 9 c9) := blk_cell FX16_.out 1
              refine one_ (i := 6) (N := some 14) #[true, true, true, true, true, true, true, false] rfl rfl (by kernel_rfl) (by decide) (fun K hK => ?_)
              refine event_step (v := (.slice A9 9 c9)) (w1 := w16_) (by rfl) ?_ ?_
              · first | (go_simp; done) | (go_simp; rfl)
              refine hK.out _ _ trivial (fun hHeld => ?_)
              clear hK K
              refine norm_ (a' := ?_) ?_ ?_
              rotate_left
              · show Act.put _ (some 14) _ = _
                simp only [Act.put, List.setIfInBounds_toArray, List.set_cons_zero, List.set_cons_succ, i64_w, i32_w]
                rfl
              refine pure_ (i := 7) (N := some 2) (v := ?_) (a' := ?_) #[true, true, true, true, true, true, true, true] rfl rfl (by kernel_rfl) (fun _ _ _ h => h) (Or.inl ⟨by rfl, ?_⟩) ?_ ?_
              rotate_left
              · intro w'
                go_simp
                with_reducible rfl
              rotate_left
              · simp only [Act.put, List.setIfInBounds_toArray, List.set_cons_zero, List.set_cons_succ, i64_w, i32_w]
                rfl
              refine done_ (by kernel_rfl) ?_
              go_wp2
              go_ret
              exact ⟨_, rfl, F916_.out, FB16_.out⟩
            · refine goes_ Try.func45 (by kernel_rfl) rfl #[.pointer (some ⟨g, 0, none⟩), .int .i64 2] (by rfl) rfl rfl (by (try simp only [List.map_toArray, List.map_cons, List.map_nil]); first | done | rfl) ?_
              with_reducible refine (spec_l20Rd_pick.calls k g b p1 2 _ p2 w w12_ FI12_.out FB12_.out HP.out).mono ?_
              rintro e w15_ ⟨rfl, hi, hb, hk⟩
              have F915_ := Aside0.mk (Kd.R_mono (Kd.R_keep (IsS58.apart FI12_.out F912_.out (by simp [Kd.bool, Kd.scalar])) hk (fun _ h => h.2)) (fun _ h => h.1))
              have F815_ := Aside0.mk (Kd.R_mono (Kd.R_keep (IsS58.apart FI12_.out F812_.out (by simp [Kd.bool, Kd.scalar])) hk (fun _ h => h.2)) (fun _ h => h.1))
              have FI15_ := Aside0.mk hi
              have FB15_ := Aside0.mk hb
              clear hi hb hk
              refine ⟨_, rfl, ?_⟩
              refine hK.out _ _ trivial (fun hHeld => ?_)
              clear hK K
              refine norm_ (a' := ?_) ?_ ?_
              rotate_left
              · show Act.put _ (some 12) _ = _
                simp only [Act.put, List.setIfInBounds_toArray, List.set_cons_zero, List.set_cons_succ, i64_w, i32_w]
                rfl
              refine one_ (i := 2) (N := some 10) #[true, true, true, true, true, false, false, false] rfl rfl (by kernel_rfl) (by decide) (fun K hK => ?_)
              refine event_step (v := .slice (some ⟨w15_.heap.size, 0, none⟩) 2 2) (w1 := w15_.alloc (Obj.cells #[.slice A8 0 c8, .slice A9 9 c9] 27)) (by rfl) ?_ ?_
              · first | (go_simp; done) | (go_simp; rfl)
              have hb : Below w15_.heap.size w15_ (w15_.alloc (Obj.cells #[.slice A8 0 c8, .slice A9 9 c9] 27)) := (Below.refl _ _).alloc (Nat.le_refl _) _
              have FI17_ := Aside0.mk (IsS58.below FI15_.out hb)
              have FB17_ := Aside0.mk (below_then FB15_.out FB15_.out.size hb)
              have F917_ := Aside0.mk (Kd.R_below F915_.out hb)
              have F817_ := Aside0.mk (Kd.R_below F815_.out hb)
              have FX17_ := Aside0.mk (blk_new w15_ (Obj.cells #[.slice A8 0 c8, .slice A9 9 c9] 27))
              clear hb
              generalize w15_.alloc (Obj.cells #[.slice A8 0 c8, .slice A9 9 c9] 27) = w17_ at FI17_ FB17_ F917_ F817_ FX17_ ⊢
              obtain ⟨bx, hbx⟩ : ∃ bx, w15_.heap.size = bx := ⟨_, rfl⟩
              rw [hbx] at FX17_ ⊢
              clear hbx
              refine hK.out _ _ trivial (fun hHeld => ?_)
              clear hK K
              refine norm_ (a' := ?_) ?_ ?_
              rotate_left
              · show Act.put _ (some 10) _ = _
                simp only [Act.put, List.setIfInBounds_toArray, List.set_cons_zero, List.set_cons_succ, i64_w, i32_w]
                rfl
              refine pure_ (i := 5) (N := some 13) (v := ?_) (a' := ?_) #[true, true, true, true, true, true, false, false] rfl rfl (by kernel_rfl) (fun _ _ _ h => h) (Or.inl ⟨by rfl, ?_⟩) ?_ ?_
              rotate_left
              · intro w'
                go_simp
                with_reducible rfl
              rotate_left
              · simp only [Act.put, List.setIfInBounds_toArray, List.set_cons_zero, List.set_cons_succ, i64_w, i32_w]
                rfl
              have hcx : w17_.cell? ⟨bx, 1, none⟩ = some (.slice A9 9 c9) := blk_cell FX17_.out 1
              refine one_ (i := 6) (N := some 14) #[true, true, true, true, true, true, true, false] rfl rfl (by kernel_rfl) (by decide) (fun K hK => ?_)
              refine event_step (v := (.slice A9 9 c9)) (w1 := w17_) (by rfl) ?_ ?_
              · first | (go_simp; done) | (go_simp; rfl)
              refine hK.out _ _ trivial (fun hHeld => ?_)
              clear hK K
              refine norm_ (a' := ?_) ?_ ?_
              rotate_left
              · show Act.put _ (some 14) _ = _
                simp only [Act.put, List.setIfInBounds_toArray, List.set_cons_zero, List.set_cons_succ, i64_w, i32_w]
                rfl
              refine pure_ (i := 7) (N := some 2) (v := ?_) (a' := ?_) #[true, true, true, true, true, true, true, true] rfl rfl (by kernel_rfl) (fun _ _ _ h => h) (Or.inl ⟨by rfl, ?_⟩) ?_ ?_
              rotate_left
              · intro w'
                go_simp
                with_reducible rfl
              rotate_left
              · simp only [Act.put, List.setIfInBounds_toArray, List.set_cons_zero, List.set_cons_succ, i64_w, i32_w]
                rfl
              refine done_ (by kernel_rfl) ?_
              go_wp2
              go_ret
              exact ⟨_, rfl, F917_.out, FB17_.out⟩
          · refine goes_ Try.func45 (by kernel_rfl) rfl #[.pointer (some ⟨g, 0, none⟩), .int .i64 2] (by rfl) rfl rfl (by (try simp only [List.map_toArray, List.map_cons, List.map_nil]); first | done | rfl) ?_
            with_reducible refine (spec_l20Rd_pick.calls k g b p1 2 _ p2 w w2_ FI2_.out FB2_.out HP.out).mono ?_
            rintro e w13_ ⟨rfl, hi, hb, hk⟩
            have F913_ := Aside0.mk (Kd.R_mono (Kd.R_keep (IsS58.apart FI2_.out F92_.out (by simp [Kd.bool, Kd.scalar])) hk (fun _ h => h.2)) (fun _ h => h.1))
            have FI13_ := Aside0.mk hi
            have FB13_ := Aside0.mk hb
            clear hi hb hk
            refine ⟨_, rfl, ?_⟩
            refine hK.out _ _ trivial (fun hHeld => ?_)
            clear hK K
            refine norm_ (a' := ?_) ?_ ?_
            rotate_left
            · show Act.put _ (some 12) _ = _
              simp only [Act.put, List.setIfInBounds_toArray, List.set_cons_zero, List.set_cons_succ, i64_w, i32_w]
              rfl
            refine one_ (i := 0) (N := some 8) #[true, true, false, true, true, false, false, false] rfl rfl (by kernel_rfl) (by decide) (fun K hK => ?_)
            refine Kd.R_lit_step Kd.bool (w0 := w13_) w13_.heap.size 4 (by rfl) (N := 8) rfl (xs := ([] : List Bool)) (inner := []) (ok := fun _ => True) (okp := fun _ => True) (by first | (go_simp; done) | (go_simp; rfl)) (Reps.none _ _) (fun _ hk => hk) trivial (Below.refl _ _) (Nat.le_refl _) (by simp) ?_
            intro v8 w18_ ho hb hg_ hnew_
            obtain ⟨A8, c8, e8⟩ := Kd.R_slice ho
            subst e8
            have FI18_ := Aside0.mk (IsS58.below FI13_.out hb)
            have FB18_ := Aside0.mk (below_then FB13_.out FB13_.out.size hb)
            have F918_ := Aside0.mk (Kd.R_below F913_.out hb)
            have F818_ := Aside0.mk (Kd.R_lower ho FB13_.out.size)
            clear ho hb hg_ hnew_
            refine hK.out _ _ trivial (fun hHeld => ?_)
            clear hK K
            refine norm_ (a' := ?_) ?_ ?_
            rotate_left
            · show Act.put _ (some 8) _ = _
              simp only [Act.put, List.setIfInBounds_toArray, List.set_cons_zero, List.set_cons_succ, i64_w, i32_w]
              rfl
            refine one_ (i := 2) (N := some 10) #[true, true, true, true, true, false, false, false] rfl rfl (by kernel_rfl) (by decide) (fun K hK => ?_)
            refine event_step (v := .slice (some ⟨w18_.heap.size, 0, none⟩) 2 2) (w1 := w18_.alloc (Obj.cells #[.slice A8 0 c8, .slice A9 9 c9] 27)) (by rfl) ?_ ?_
            · first | (go_simp; done) | (go_simp; rfl)
            have hb : Below w18_.heap.size w18_ (w18_.alloc (Obj.cells #[.slice A8 0 c8, .slice A9 9 c9] 27)) := (Below.refl _ _).alloc (Nat.le_refl _) _
            have FI19_ := Aside0.mk (IsS58.below FI18_.out hb)
            have FB19_ := Aside0.mk (below_then FB18_.out FB18_.out.size hb)
            have F919_ := Aside0.mk (Kd.R_below F918_.out hb)
            have F819_ := Aside0.mk (Kd.R_below F818_.out hb)
            have FX19_ := Aside0.mk (blk_new w18_ (Obj.cells #[.slice A8 0 c8, .slice A9 9 c9] 27))
            clear hb
            generalize w18_.alloc (Obj.cells #[.slice A8 0 c8, .slice A9 9 c9] 27) = w19_ at FI19_ FB19_ F919_ F819_ FX19_ ⊢
            obtain ⟨bx, hbx⟩ : ∃ bx, w18_.heap.size = bx := ⟨_, rfl⟩
            rw [hbx] at FX19_ ⊢
            clear hbx
            refine hK.out _ _ trivial (fun hHeld => ?_)
            clear hK K
            refine norm_ (a' := ?_) ?_ ?_
            rotate_left
            · show Act.put _ (some 10) _ = _
              simp only [Act.put, List.setIfInBounds_toArray, List.set_cons_zero, List.set_cons_succ, i64_w, i32_w]
              rfl
            refine pure_ (i := 5) (N := some 13) (v := ?_) (a' := ?_) #[true, true, true, true, true, true, false, false] rfl rfl (by kernel_rfl) (fun _ _ _ h => h) (Or.inl ⟨by rfl, ?_⟩) ?_ ?_
            rotate_left
            · intro w'
              go_simp
              with_reducible rfl
            rotate_left
            · simp only [Act.put, List.setIfInBounds_toArray, List.set_cons_zero, List.set_cons_succ, i64_w, i32_w]
              rfl
            have hcx : w19_.cell? ⟨bx, 1, none⟩ = some (.slice A9 9 c9) := blk_cell FX19_.out 1
            refine one_ (i := 6) (N := some 14) #[true, true, true, true, true, true, true, false] rfl rfl (by kernel_rfl) (by decide) (fun K hK => ?_)
            refine event_step (v := (.slice A9 9 c9)) (w1 := w19_) (by rfl) ?_ ?_
            · first | (go_simp; done) | (go_simp; rfl)
            refine hK.out _ _ trivial (fun hHeld => ?_)
            clear hK K
            refine norm_ (a' := ?_) ?_ ?_
            rotate_left
            · show Act.put _ (some 14) _ = _
              simp only [Act.put, List.setIfInBounds_toArray, List.set_cons_zero, List.set_cons_succ, i64_w, i32_w]
              rfl
            refine pure_ (i := 7) (N := some 2) (v := ?_) (a' := ?_) #[true, true, true, true, true, true, true, true] rfl rfl (by kernel_rfl) (fun _ _ _ h => h) (Or.inl ⟨by rfl, ?_⟩) ?_ ?_
            rotate_left
            · intro w'
              go_simp
              with_reducible rfl
            rotate_left
            · simp only [Act.put, List.setIfInBounds_toArray, List.set_cons_zero, List.set_cons_succ, i64_w, i32_w]
              rfl
            refine done_ (by kernel_rfl) ?_
            go_wp2
            go_ret
            exact ⟨_, rfl, F919_.out, FB19_.out⟩
        · refine goes_ Try.func45 (by kernel_rfl) rfl #[.pointer (some ⟨g, 0, none⟩), .int .i64 2] (by rfl) rfl rfl (by (try simp only [List.map_toArray, List.map_cons, List.map_nil]); first | done | rfl) ?_
          with_reducible refine (spec_l20Rd_pick.calls k g b p1 2 _ p2 w wd HId.out HBd.out HP.out).mono ?_
          rintro e w3_ ⟨rfl, hi, hb, hk⟩
          have FI3_ := Aside0.mk hi
          have FB3_ := Aside0.mk hb
          clear hi hb hk
          refine ⟨_, rfl, ?_⟩
          refine hK.out _ _ trivial (fun hHeld => ?_)
          clear hK K
          refine norm_ (a' := ?_) ?_ ?_
          rotate_left
          · show Act.put _ (some 12) _ = _
            simp only [Act.put, List.setIfInBounds_toArray, List.set_cons_zero, List.set_cons_succ, i64_w, i32_w]
            rfl
          refine two_ (i := 0) (j := 1) (Ni := some 8) (Nj := some 9) #[true, false, false, true, true, false, false, false] #[false, true, false, true, true, false, false, false] rfl rfl rfl rfl (by kernel_rfl) (by decide) (by decide) (fun K hK => ?_) (fun K hK => ?_)
          · refine Kd.R_lit_step Kd.bool (w0 := w3_) w3_.heap.size 4 (by rfl) (N := 8) rfl (xs := ([] : List Bool)) (inner := []) (ok := fun _ => True) (okp := fun _ => True) (by first | (go_simp; done) | (go_simp; rfl)) (Reps.none _ _) (fun _ hk => hk) trivial (Below.refl _ _) (Nat.le_refl _) (by simp) ?_
            intro v8 w20_ ho hb hg_ hnew_
            obtain ⟨A8, c8, e8⟩ := Kd.R_slice ho
            subst e8
            have FI20_ := Aside0.mk (IsS58.below FI3_.out hb)
            have FB20_ := Aside0.mk (below_then FB3_.out FB3_.out.size hb)
            have F820_ := Aside0.mk (Kd.R_lower ho FB3_.out.size)
            clear ho hb hg_ hnew_
            refine hK.out _ _ trivial (fun hHeld => ?_)
            clear hK K
            refine norm_ (a' := ?_) ?_ ?_
            rotate_left
            · show Act.put _ (some 8) _ = _
              simp only [Act.put, List.setIfInBounds_toArray, List.set_cons_zero, List.set_cons_succ, i64_w, i32_w]
              rfl
            refine one_ (i := 1) (N := some 9) #[true, true, false, true, true, false, false, false] rfl rfl (by kernel_rfl) (by decide) (fun K hK => ?_)
            refine Kd.R_make_step Kd.bool (w0 := w20_) w20_.heap.size 4 (by rfl) (N := 9) rfl 27 _ _ rfl 9 rfl rfl Try.underlying27 (.bool false) 1 hi4 rfl (by decide) (by omega) false (ok := fun _ => True) (okp := fun _ => True) rfl (fun _ hk => hk) trivial (by omega) (by decide) (Below.refl _ _) (Nat.le_refl _) ?_
            intro v9 w22_ ho hb hg_ hnew_
            obtain ⟨A9, c9, e9⟩ := Kd.R_slice ho
            subst e9
            have FI22_ := Aside0.mk (IsS58.below FI20_.out hb)
            have FB22_ := Aside0.mk (below_then FB20_.out FB20_.out.size hb)
            have F822_ := Aside0.mk (Kd.R_below F820_.out hb)
            have F922_ := Aside0.mk (Kd.R_lower ho FB20_.out.size)
            clear ho hb hg_ hnew_
            refine hK.out _ _ trivial (fun hHeld => ?_)
            clear hK K
            refine norm_ (a' := ?_) ?_ ?_
            rotate_left
            · show Act.put _ (some 9) _ = _
              simp only [Act.put, List.setIfInBounds_toArray, List.set_cons_zero, List.set_cons_succ, i64_w, i32_w]
              rfl
            refine one_ (i := 2) (N := some 10) #[true, true, true, true, true, false, false, false] rfl rfl (by kernel_rfl) (by decide) (fun K hK => ?_)
            refine event_step (v := .slice (some ⟨w22_.heap.size, 0, none⟩) 2 2) (w1 := w22_.alloc (Obj.cells #[.slice A8 0 c8, .slice A9 9 c9] 27)) (by rfl) ?_ ?_
            · first | (go_simp; done) | (go_simp; rfl)
            have hb : Below w22_.heap.size w22_ (w22_.alloc (Obj.cells #[.slice A8 0 c8, .slice A9 9 c9] 27)) := (Below.refl _ _).alloc (Nat.le_refl _) _
            have FI23_ := Aside0.mk (IsS58.below FI22_.out hb)
            have FB23_ := Aside0.mk (below_then FB22_.out FB22_.out.size hb)
            have F823_ := Aside0.mk (Kd.R_below F822_.out hb)
            have F923_ := Aside0.mk (Kd.R_below F922_.out hb)
            have FX23_ := Aside0.mk (blk_new w22_ (Obj.cells #[.slice A8 0 c8, .slice A9 9 c9] 27))
            clear hb
            generalize w22_.alloc (Obj.cells #[.slice A8 0 c8, .slice A9 9 c9] 27) = w23_ at FI23_ FB23_ F823_ F923_ FX23_ ⊢
            obtain ⟨bx, hbx⟩ : ∃ bx, w22_.heap.size = bx := ⟨_, rfl⟩
            rw [hbx] at FX23_ ⊢
            clear hbx
            refine hK.out _ _ trivial (fun hHeld => ?_)
            clear hK K
            refine norm_ (a' := ?_) ?_ ?_
            rotate_left
            · show Act.put _ (some 10) _ = _
              simp only [Act.put, List.setIfInBounds_toArray, List.set_cons_zero, List.set_cons_succ, i64_w, i32_w]
              rfl
            refine pure_ (i := 5) (N := some 13) (v := ?_) (a' := ?_) #[true, true, true, true, true, true, false, false] rfl rfl (by kernel_rfl) (fun _ _ _ h => h) (Or.inl ⟨by rfl, ?_⟩) ?_ ?_
            rotate_left
            · intro w'
              go_simp
              with_reducible rfl
            rotate_left
            · simp only [Act.put, List.setIfInBounds_toArray, List.set_cons_zero, List.set_cons_succ, i64_w, i32_w]
              rfl
            have hcx : w23_.cell? ⟨bx, 1, none⟩ = some (.slice A9 9 c9) := blk_cell FX23_.out 1
            refine one_ (i := 6) (N := some 14) #[true, true, true, true, true, true, true, false] rfl rfl (by kernel_rfl) (by decide) (fun K hK => ?_)
            refine event_step (v := (.slice A9 9 c9)) (w1 := w23_) (by rfl) ?_ ?_
            · first | (go_simp; done) | (go_simp; rfl)
            refine hK.out _ _ trivial (fun hHeld => ?_)
            clear hK K
            refine norm_ (a' := ?_) ?_ ?_
            rotate_left
            · show Act.put _ (some 14) _ = _
              simp only [Act.put, List.setIfInBounds_toArray, List.set_cons_zero, List.set_cons_succ, i64_w, i32_w]
              rfl
            refine pure_ (i := 7) (N := some 2) (v := ?_) (a' := ?_) #[true, true, true, true, true, true, true, true] rfl rfl (by kernel_rfl) (fun _ _ _ h => h) (Or.inl ⟨by rfl, ?_⟩) ?_ ?_
            rotate_left
            · intro w'
              go_simp
              with_reducible rfl
            rotate_left
            · simp only [Act.put, List.setIfInBounds_toArray, List.set_cons_zero, List.set_cons_succ, i64_w, i32_w]
              rfl
            refine done_ (by kernel_rfl) ?_
            go_wp2
            go_ret
            exact ⟨_, rfl, F923_.out, FB23_.out⟩
          · refine Kd.R_make_step Kd.bool (w0 := w3_) w3_.heap.size 4 (by rfl) (N := 9) rfl 27 _ _ rfl 9 rfl rfl Try.underlying27 (.bool false) 1 hi4 rfl (by decide) (by omega) false (ok := fun _ => True) (okp := fun _ => True) rfl (fun _ hk => hk) trivial (by omega) (by decide) (Below.refl _ _) (Nat.le_refl _) ?_
            intro v9 w21_ ho hb hg_ hnew_
            obtain ⟨A9, c9, e9⟩ := Kd.R_slice ho
            subst e9
            have FI21_ := Aside0.mk (IsS58.below FI3_.out hb)
            have FB21_ := Aside0.mk (below_then FB3_.out FB3_.out.size hb)
            have F921_ := Aside0.mk (Kd.R_lower ho FB3_.out.size)
            clear ho hb hg_ hnew_
            refine hK.out _ _ trivial (fun hHeld => ?_)
            clear hK K
            refine norm_ (a' := ?_) ?_ ?_
            rotate_left
            · show Act.put _ (some 9) _ = _
              simp only [Act.put, List.setIfInBounds_toArray, List.set_cons_zero, List.set_cons_succ, i64_w, i32_w]
              rfl
            refine one_ (i := 0) (N := some 8) #[true, true, false, true, true, false, false, false] rfl rfl (by kernel_rfl) (by decide) (fun K hK => ?_)
            refine Kd.R_lit_step Kd.bool (w0 := w21_) w21_.heap.size 4 (by rfl) (N := 8) rfl (xs := ([] : List Bool)) (inner := []) (ok := fun _ => True) (okp := fun _ => True) (by first | (go_simp; done) | (go_simp; rfl)) (Reps.none _ _) (fun _ hk => hk) trivial (Below.refl _ _) (Nat.le_refl _) (by simp) ?_
            intro v8 w24_ ho hb hg_ hnew_
            obtain ⟨A8, c8, e8⟩ := Kd.R_slice ho
            subst e8
            have FI24_ := Aside0.mk (IsS58.below FI21_.out hb)
            have FB24_ := Aside0.mk (below_then FB21_.out FB21_.out.size hb)
            have F924_ := Aside0.mk (Kd.R_below F921_.out hb)
            have F824_ := Aside0.mk (Kd.R_lower ho FB21_.out.size)
            clear ho hb hg_ hnew_
            refine hK.out _ _ trivial (fun hHeld => ?_)
            clear hK K
            refine norm_ (a' := ?_) ?_ ?_
            rotate_left
            · show Act.put _ (some 8) _ = _
              simp only [Act.put, List.setIfInBounds_toArray, List.set_cons_zero, List.set_cons_succ, i64_w, i32_w]
              rfl
            refine one_ (i := 2) (N := some 10) #[true, true, true, true, true, false, false, false] rfl rfl (by kernel_rfl) (by decide) (fun K hK => ?_)
            refine event_step (v := .slice (some ⟨w24_.heap.size, 0, none⟩) 2 2) (w1 := w24_.alloc (Obj.cells #[.slice A8 0 c8, .slice A9 9 c9] 27)) (by rfl) ?_ ?_
            · first | (go_simp; done) | (go_simp; rfl)
            have hb : Below w24_.heap.size w24_ (w24_.alloc (Obj.cells #[.slice A8 0 c8, .slice A9 9 c9] 27)) := (Below.refl _ _).alloc (Nat.le_refl _) _
            have FI25_ := Aside0.mk (IsS58.below FI24_.out hb)
            have FB25_ := Aside0.mk (below_then FB24_.out FB24_.out.size hb)
            have F925_ := Aside0.mk (Kd.R_below F924_.out hb)
            have F825_ := Aside0.mk (Kd.R_below F824_.out hb)
            have FX25_ := Aside0.mk (blk_new w24_ (Obj.cells #[.slice A8 0 c8, .slice A9 9 c9] 27))
            clear hb
            generalize w24_.alloc (Obj.cells #[.slice A8 0 c8, .slice A9 9 c9] 27) = w25_ at FI25_ FB25_ F925_ F825_ FX25_ ⊢
            obtain ⟨bx, hbx⟩ : ∃ bx, w24_.heap.size = bx := ⟨_, rfl⟩
            rw [hbx] at FX25_ ⊢
            clear hbx
            refine hK.out _ _ trivial (fun hHeld => ?_)
            clear hK K
            refine norm_ (a' := ?_) ?_ ?_
            rotate_left
            · show Act.put _ (some 10) _ = _
              simp only [Act.put, List.setIfInBounds_toArray, List.set_cons_zero, List.set_cons_succ, i64_w, i32_w]
              rfl
            refine pure_ (i := 5) (N := some 13) (v := ?_) (a' := ?_) #[true, true, true, true, true, true, false, false] rfl rfl (by kernel_rfl) (fun _ _ _ h => h) (Or.inl ⟨by rfl, ?_⟩) ?_ ?_
            rotate_left
            · intro w'
              go_simp
              with_reducible rfl
            rotate_left
            · simp only [Act.put, List.setIfInBounds_toArray, List.set_cons_zero, List.set_cons_succ, i64_w, i32_w]
              rfl
            have hcx : w25_.cell? ⟨bx, 1, none⟩ = some (.slice A9 9 c9) := blk_cell FX25_.out 1
            refine one_ (i := 6) (N := some 14) #[true, true, true, true, true, true, true, false] rfl rfl (by kernel_rfl) (by decide) (fun K hK => ?_)
            refine event_step (v := (.slice A9 9 c9)) (w1 := w25_) (by rfl) ?_ ?_
            · first | (go_simp; done) | (go_simp; rfl)
            refine hK.out _ _ trivial (fun hHeld => ?_)
            clear hK K
            refine norm_ (a' := ?_) ?_ ?_
            rotate_left
            · show Act.put _ (some 14) _ = _
              simp only [Act.put, List.setIfInBounds_toArray, List.set_cons_zero, List.set_cons_succ, i64_w, i32_w]
              rfl
            refine pure_ (i := 7) (N := some 2) (v := ?_) (a' := ?_) #[true, true, true, true, true, true, true, true] rfl rfl (by kernel_rfl) (fun _ _ _ h => h) (Or.inl ⟨by rfl, ?_⟩) ?_ ?_
            rotate_left
            · intro w'
              go_simp
              with_reducible rfl
            rotate_left
            · simp only [Act.put, List.setIfInBounds_toArray, List.set_cons_zero, List.set_cons_succ, i64_w, i32_w]
              rfl
            refine done_ (by kernel_rfl) ?_
            go_wp2
            go_ret
            exact ⟨_, rfl, F925_.out, FB25_.out⟩
      · rw [if_neg c1] at h
        exact absurd h (by simp)

end Go.Proofs.Ytnmlcbdbbnaabaa.PFnClueOf
