-- Made by a program of this session (a changed copy of the kit print): the kit print itself does not give this text
import Derived.Test.YtcghheaelgjnfaaPFnStarsFitx0
import Derived.Test.YtcghheaelgjnfaaPFnStarsFitx3
import Derived.Test.YtcghheaelgjnfaaPFnStarsFitx4
import Derived.Test.YtcghheaelgjnfaaPFnStarsFitx5
import Derived.Test.YtcghheaelgjnfaaV0
namespace Go.Proofs.Ytcghheaelgjnfaa.PFnStarsFit
open Go.RowKit Go.Proofs.YtcghheaelgjnfaaW.PrintWords Go.Proofs.YtcghheaelgjnfaaW.PrintLast Go.Proofs.YtcghheaelgjnfaaW.PrintMore
attribute [local go_sem] max2_int min2_int max_two min_two max_three min_three max_four min_four   -- for this text's walks alone
set_option linter.unusedVariables false
set_option linter.unusedSimpArgs false

/-! ### spec_DrawStarsFit: function 20 -/
--@import Derived.Test.YtcghheaelgjnfaaV0
open Go.Proofs.Ytcghheaelgjnfaa.My
def spec_DrawStarsFit.l0 : Nat → List Int → List Int → Int → List Int → Int → Int → Option (List Int × Int × List Int)
  | 0, _, _, _, _, _, _ => none
  | k + 1, b, x6, x7, x8, x11, p => if x11 > 0 then (if x8.length < 4398046511104 then ((spec_l20Rd_pick.f k b p (wrap64 (mx 1 x7 + 1))).bind fun u => ((spec_l20Rd_pick.f k b u.2 9).bind fun v => (spec_DrawStarsFit.l0 k b x6 x7 (x8 ++ [wrap64 (u.1 - wrap64 (Int.tdiv v.1 8))]) (wrap64 (x11 - 1)) v.2))) else none) else some (x6, x7, x8)
def spec_DrawStarsFit.r (k : Nat) (b : List Int) (x6 : List Int) (x7 : Int) (x8 : List Int) (p : Int) : Option (List Int × Int × List Int) := (spec_l20Rd_pick.f k b p 3).bind fun n => (spec_DrawStarsFit.l0 k b x6 x7 x8 n.1 n.2)
def spec_DrawStarsFit.f (k : Nat) (l0 : List Int) : Option (List Int × Int × List Int) := (spec_l20Open.f l0).bind fun bt => ((spec_l20Areas.f k bt.1 bt.2 12).bind fun ba => ((spec_StarsFirst.f k ba.1 ba.2.1).bind fun bs => (if bs.2 = true then ((spec_l20Rd_pick.f k bt.1 ba.2.2 2).bind fun bp => (if bp.1 = 0 then ((spec_l20Rd_pick.f k bt.1 bp.2 (wrap64 ((bs.1.length : Int) + 1))).bind fun bm => (if 0 ≤ bm.1 then (if bm.1 ≤ (bs.1.length : Int) then (spec_DrawStarsFit.r k bt.1 ba.1 ba.2.1 (bs.1.take bm.1.toNat) bm.2) else none) else none)) else (spec_DrawStarsFit.r k bt.1 ba.1 ba.2.1 [] bp.2))) else (spec_DrawStarsFit.r k bt.1 ba.1 ba.2.1 [] ba.2.2))))
theorem spec_DrawStarsFit.mono_l : ∀ k, (∀ y0 y1 y2 y3 y4 y5, LeO (spec_DrawStarsFit.l0 k y0 y1 y2 y3 y4 y5) (spec_DrawStarsFit.l0 (k + 1) y0 y1 y2 y3 y4 y5))
  | 0 => fun _ _ _ _ _ _ r h => by simp [spec_DrawStarsFit.l0] at h
  | k + 1 => by
    have ih0 := spec_DrawStarsFit.mono_l k
    intro y0 y1 y2 y3 y4 y5
    unfold spec_DrawStarsFit.l0
    repeat' first
      | (with_reducible exact ih0 _ _ _ _ _ _)
      | (with_reducible exact spec_l20Rd_pick.mono _ _ _ _)
      | (with_reducible exact LeO.refl _)
      | (with_reducible exact LeO.none _)
      | (with_reducible refine LeO.ite ?_ ?_)
      | (with_reducible refine LeO.bind ?_ (fun _ => ?_))
theorem spec_DrawStarsFit.mono_r (k : Nat) (b x6 : List Int) (x7 : Int) (x8 : List Int) (p : Int) : LeO (spec_DrawStarsFit.r k b x6 x7 x8 p) (spec_DrawStarsFit.r (k + 1) b x6 x7 x8 p) := by
  unfold spec_DrawStarsFit.r
  exact LeO.bind (spec_l20Rd_pick.mono _ _ _ _) (fun _ => spec_DrawStarsFit.mono_l k _ _ _ _ _ _)
theorem spec_DrawStarsFit.mono : ∀ a0 k, LeO (spec_DrawStarsFit.f k a0) (spec_DrawStarsFit.f (k + 1) a0) := by
  intro a0 k
  unfold spec_DrawStarsFit.f
  repeat' first
      | (with_reducible exact spec_DrawStarsFit.mono_r _ _ _ _ _ _)
      | (with_reducible exact spec_l20Rd_pick.mono _ _ _ _)
      | (with_reducible exact spec_l20Areas.mono _ _ _ _)
      | (with_reducible exact spec_StarsFirst.mono _ _ _)
      | (with_reducible exact LeO.refl _)
      | (with_reducible exact LeO.none _)
      | (with_reducible refine LeO.ite ?_ ?_)
      | (with_reducible refine LeO.bind ?_ (fun _ => ?_))
set_option maxHeartbeats 8000000 in
set_option maxRecDepth 100000 in
theorem spec_DrawStarsFit.calls (k : Nat) (A0 : Option Addr) (c0 : Nat) (l0 : List Int) (r1 : List Int) (r2 : Int) (r3 : List Int) (w : World) (hr0 : Kd.C (Kd.int .u8) w A0 l0.length l0) (hc0 : l0.length ≤ c0) (h : spec_DrawStarsFit.f k l0 = some (r1, r2, r3)) :
    Calls Try.prog 20 #[.slice A0 l0.length c0] w fun e w' => ∃ v0_ v1_ : Value, e = .returned (.tuple #[v0_, .int .i64 r2, v1_]) ∧ Kd.Q (Kd.int .i64) 3 w' w.heap.size (fun k_ => some k_ ≠ (v1_ : Value).ownBlock) v0_ r1 ∧ Kd.R (Kd.int .i64) 3 w' w.heap.size (fun k_ => some k_ ≠ (v0_ : Value).ownBlock) v1_ r3 ∧ Below w.heap.size w w' := by
  unfold spec_DrawStarsFit.f at h
  obtain ⟨⟨b, p0⟩, h0, h⟩ := Option.bind_eq_some_iff.mp h
  obtain ⟨⟨ar, sd, p1⟩, h1, h⟩ := Option.bind_eq_some_iff.mp h
  obtain ⟨⟨xs, ok_⟩, h2, h⟩ := Option.bind_eq_some_iff.mp h
  have HO0 := Aside0.mk h0
  have HO1 := Aside0.mk h1
  have HO2 := Aside0.mk h2
  have HR := Aside0.mk hr0
  have hi3 : (Try.prog.info? 3).map (fun i => (i.zero, i.size, i.bytes)) = some (some (.int .i64 0), 1, 8) := by kernel_rfl
  clear h0 h1 h2 hr0
  cases ok_ with
  | false =>
    replace h : spec_DrawStarsFit.r k b ar sd [] p1 = some (r1, r2, r3) := h
    unfold spec_DrawStarsFit.r at h
    obtain ⟨⟨n0, pn⟩, hp, h⟩ := Option.bind_eq_some_iff.mp h
    have HP := Aside0.mk hp
    have HH : Aside0 (spec_DrawStarsFit.l0 k b ar sd [] n0 pn = some (r1, r2, r3)) := ⟨h⟩
    clear h hp
    go_enter Try.func20, Try.ntmps20
    go_wp2_with (first | ((with_reducible refine gate_callee (f := 30) rfl ?_); (try (refine gate_guard (by rfl) ?_; dsimp only)); refine goesL_ (some 13) rfl rfl Try.func30 (by kernel_rfl) rfl #[.slice A0 l0.length c0] rfl (by (try simp only [List.map_toArray, List.map_cons, List.map_nil]); first | done | rfl) ?_; (with_reducible refine (spec_l20Open.calls A0 c0 l0 b p0 w w (Below.refl _ _) HR.out hc0 HO0.out).mono ?_); rintro e wb ⟨g, rfl, hi, hb, hb2⟩; have HI := Aside0.mk hi; have HB := Aside0.mk hb; clear hi hb hb2; refine ⟨_, rfl, ?_⟩) | ((with_reducible refine gate_callee (f := 31) rfl ?_); (try (refine gate_guard (by rfl) ?_; dsimp only)); refine goesL_ (some 16) rfl rfl Try.func31 (by kernel_rfl) rfl #[.pointer (some ⟨g, 0, none⟩), .int .i64 12] rfl (by (try simp only [List.map_toArray, List.map_cons, List.map_nil]); first | done | rfl) ?_; (with_reducible refine (spec_l20Areas.calls k g b p0 12 ar sd p1 w _ HI.out HB.out HO1.out).mono ?_); rintro e wb ⟨v6, rfl, ho, hi, hb, hk⟩; obtain ⟨A6, c6, e6, hc6⟩ := Kd.Q_slice ho; subst e6; have HA := Aside0.mk (Kd.Q_mono (Kd.Q_lower (Kd.Q_bound ho) HB.out.size) (fun k_ h => h.2.2.1)); obtain ⟨B2, hB2⟩ : ∃ B2, wb.heap.size = B2 := ⟨_, rfl⟩; rw [hB2] at HA; have HS2 := Aside0.mk hB2; clear hB2; have n0_ := Aside0.mk (hi); have n1_ := Aside0.mk (hb); clear HI HB; have HI := n0_; have HB := n1_; clear n0_ n1_; clear ho hi hb hk hc6; refine ⟨_, rfl, ?_⟩) | ((with_reducible refine gate_dst (N := 19) rfl ?_); refine Kd.R_lit (Kd.int .i64) (w0 := wb) wb.heap.size 3 ?hg (N := 19) ?hd (xs := ([] : List Int)) (inner := []) (ok := fun k_ => B2 ≤ k_) (okp := fun k_ => B2 ≤ k_) ?hr ?hp (fun _ hk => hk) (Nat.le_of_eq HS2.out.symm) (Below.refl _ _) (Nat.le_refl _) (by simp) ?_; (case hd => rfl); (case hg => rfl); (case hr => first | (go_simp; done) | (go_simp; rfl)); (case hp => exact Reps.none _ _); intro v8 w8 ho hb hg_ hnew_; obtain ⟨A8, c8, e8⟩ := Kd.R_slice ho; subst e8; have HS := Aside0.mk (Kd.R_lower ho HB.out.size); have HSZ := Aside0.mk (Nat.le_trans (Nat.le_of_eq HS2.out.symm) hb.size); have n0_ := Aside0.mk (IsS50.below HI.out hb); have n1_ := Aside0.mk (Kd.Q_below HA.out hb); have n2_ := Aside0.mk (below_step HB.out hb); clear HI HA HB; have HI := n0_; have HA := n1_; have HB := n2_; clear n0_ n1_ n2_; clear ho hb hg_ hnew_) | ((with_reducible refine gate_callee (f := 16) rfl ?_); (try (refine gate_guard (by rfl) ?_; dsimp only)); refine goesL_ (some 23) rfl rfl Try.func16 (by kernel_rfl) rfl #[.slice A6 ar.length c6, .int .i64 sd] rfl (by (try simp only [List.map_toArray, List.map_cons, List.map_nil]); first | done | rfl) ?_; (with_reducible refine (spec_StarsFirst.calls k A6 c6 ar sd xs _ _ (Kd.Q_reads' HA.out).2.2 (Kd.Q_reads' HA.out).2.1 HO2.out).mono ?_); rintro e wb ⟨v9, rfl, ho, hb⟩; obtain ⟨A9, c9, e9⟩ := Kd.R_slice ho; subst e9; have HX := Aside0.mk (Kd.R_mono (Kd.R_lower (Kd.R_bound ho) HB.out.size) (fun k_ h => (Nat.le_trans HSZ.out h.2.1 : B2 ≤ k_))); have n0_ := Aside0.mk (IsS50.below HI.out hb); have n1_ := Aside0.mk (Kd.Q_below HA.out hb); have n2_ := Aside0.mk (Kd.R_below HS.out hb); have n3_ := Aside0.mk (Nat.le_trans HSZ.out hb.size); have n4_ := Aside0.mk (below_step HB.out hb); clear HI HA HS HSZ HB; have HI := n0_; have HA := n1_; have HS := n2_; have HSZ := n3_; have HB := n4_; clear n0_ n1_ n2_ n3_ n4_; clear ho hb; refine ⟨_, rfl, ?_⟩) | ((with_reducible refine gate_callee (f := 32) rfl ?_); (try (refine gate_guard (by rfl) ?_; dsimp only)); refine goesL_ (some 40) rfl rfl Try.func32 (by kernel_rfl) rfl #[.pointer (some ⟨g, 0, none⟩), .int .i64 3] rfl (by (try simp only [List.map_toArray, List.map_cons, List.map_nil]); first | done | rfl) ?_; (with_reducible refine (spec_l20Rd_pick.calls k g b p1 3 n0 pn w _ HI.out HB.out HP.out).mono ?_); rintro e wb ⟨rfl, hi, hb, hk⟩; have n0_ := Aside0.mk (Kd.Q_mono (Kd.Q_keep (IsS50.apartQ HI.out HA.out (by simp [Kd.int, Kd.scalar])) hk (fun _ h => h.2)) (fun _ h => h.1)); have n1_ := Aside0.mk (Kd.R_mono (Kd.R_keep (IsS50.apart HI.out HS.out (by simp [Kd.int, Kd.scalar])) hk (fun _ h => h.2)) (fun _ h => h.1)); have n2_ := Aside0.mk (Nat.le_trans HSZ.out hk.1); have n3_ := Aside0.mk (hi); have n4_ := Aside0.mk (hb); clear HA HS HSZ HI HB; have HA := n0_; have HS := n1_; have HSZ := n2_; have HI := n3_; have HB := n4_; clear n0_ n1_ n2_ n3_ n4_; clear hi hb hk; refine ⟨_, rfl, ?_⟩))
    go_loopg [8, 11] k (fun kq v8 v11 w' => ∃ (y : List Int) (n p : Int), v11 = .int .i64 n ∧ Aside0 (spec_DrawStarsFit.l0 kq b ar sd y n p = some (r1, r2, r3)) ∧ Aside0 (kq ≤ k) ∧ Aside0 (Kd.R (Kd.int .i64) 3 w' w.heap.size (fun k_ => B2 ≤ k_) v8 y) ∧ Aside0 (Kd.Q (Kd.int .i64) 3 w' w.heap.size (fun k_ => k_ < B2) (.slice A6 ar.length c6) ar) ∧ Aside0 (IsS50 w w' g b p) ∧ Aside0 (Below w.heap.size w w') ∧ Aside0 (B2 ≤ w'.heap.size))
    case atStart => exact ⟨_, _, _, rfl, HH, ⟨Nat.le_refl _⟩, HS, HA, HI, HB, HSZ⟩
    case round =>
      clear HH HS HA HI HB HSZ
      obtain ⟨y, n, p, rfl, HH, HK, HS, HA, HI, HB, HSZ⟩ := hrel
      cases gk with
      | zero => exact absurd HH.out (by simp [spec_DrawStarsFit.l0])
      | succ k1 =>
        have H := HH.out
        clear HH
        rw [spec_DrawStarsFit.l0] at H
        by_cases c5 : n > 0
        · rw [if_pos c5] at H
          have c5b0 : decide (0 < n) = true := decide_eq_true c5
          clear c5
          by_cases c6 : y.length < 4398046511104
          · rw [if_pos c6] at H
            have LM := Aside0.mk c6
            clear c6
            obtain ⟨⟨u, q1⟩, Hu, H⟩ := Option.bind_eq_some_iff.mp H
            obtain ⟨⟨v, q2⟩, Hv, H⟩ := Option.bind_eq_some_iff.mp H
            obtain ⟨m1, hm1⟩ : ∃ m, mx 1 sd = m := ⟨_, rfl⟩
            obtain ⟨m2, hm2⟩ : ∃ m, wrap64 (m1 + 1) = m := ⟨_, rfl⟩
            obtain ⟨s1, hs1⟩ : ∃ m, wrap64 (Int.tdiv v 8) = m := ⟨_, rfl⟩
            obtain ⟨s2, hs2⟩ : ∃ m, wrap64 (u - s1) = m := ⟨_, rfl⟩
            rw [hm1, hm2] at Hu
            replace H : spec_DrawStarsFit.l0 k1 b ar sd (y ++ [wrap64 (u - wrap64 (Int.tdiv v 8))]) (wrap64 (n - 1)) q2 = some (r1, r2, r3) := H
            rw [hs1, hs2] at H
            obtain ⟨y2, hy2⟩ : ∃ y_ : List Int, y_ = y ++ [s2] := ⟨_, rfl⟩
            rw [← hy2] at H
            have Ny := Aside0.mk hy2
            have HU := Aside0.mk Hu
            have HV := Aside0.mk Hv
            have HH := Aside0.mk H
            clear H Hu Hv hy2
            obtain ⟨A8', c8', e8'⟩ := Kd.R_slice HS.out
            subst e8'
            by_cases n12 : 1 < sd
            · have e3 : m1 = sd := by rw [← hm1]; unfold mx; rw [if_pos n12]
              subst e3
              have z1 : (m1 ≤ 1) = False := eq_false (by omega)
              have z2 : (1 < m1) = True := eq_true n12
              have z3 : decide (1 < m1) = true := decide_eq_true n12
              subst hm2
              clear hm1 n12
              go_wp2_with (first | ((with_reducible refine gate_dst (N := 45) rfl ?_); refine Kd.R_lit (Kd.int .i64) (w0 := w) w.heap.size 3 ?hg (N := 45) ?hd (xs := ([] : List Int)) (inner := []) (ok := fun k_ => B2 ≤ k_) (okp := fun k_ => B2 ≤ k_) ?hr ?hp (fun _ hk => hk) HSZ.out HB.out HB.out.size (by simp) ?_; (case hd => rfl); (case hg => rfl); (case hr => first | (go_simp; done) | (go_simp; rfl)); (case hp => exact Reps.none _ _); intro v45 w45 ho hb hg_ hnew_; have H45 := Aside0.mk ho; have HN := Aside0.mk hnew_; have n0_ := Aside0.mk (IsS50.grown HI.out hg_ (by simp)); have n1_ := Aside0.mk (Kd.Q_grown HA.out hg_ (by simp)); have n2_ := Aside0.mk (Kd.R_grown HS.out hg_ (by simp)); have n3_ := Aside0.mk (Nat.le_trans HSZ.out hg_.size); have n4_ := Aside0.mk (hb); clear HI HA HS HSZ HB; have HI := n0_; have HA := n1_; have HS := n2_; have HSZ := n3_; have HB := n4_; clear n0_ n1_ n2_ n3_ n4_; clear ho hb hg_ hnew_) | ((with_reducible refine gate_builtin (b := .append) (xs := #[.tmp 45, .tmp 46]) rfl ?_); at_builtin; refine Kd.R_append_rows (Kd.int .i64) (w0 := w) w.heap.size rfl (.tmp 45) (.tmp 46) 22 3 (.int .i64 0) 8 rfl Try.underlying22 hi3 rfl (by decide) (by omega) v45 [] y _ _ _ (fun k_ => B2 ≤ k_) (fun _ => False) rfl rfl ?aO ?aR (fun _ _ h => h) (fun _ h => h.elim) ?aF ?aB ?aS ?aL ?_; (case aR => exact (Kd.R_reads' HS.out).2.2); (case aB => exact HB.out); (case aF => exact fun k_ hk_ => Nat.le_trans HSZ.out hk_); (case aO => exact H45.out); (case aS => exact HB.out.size); (case aL => have := LM.out; simp; omega); intro v47 w47 ho hb hg hat; rw [List.nil_append] at ho; have H47 := Aside0.mk ho; have n0_ := Aside0.mk (IsS50.grown HI.out hg (IsS50.own_ne HI.out H45.out (by decide))); have n1_ := Aside0.mk (Kd.Q_grown HA.out hg (fun k_ hk_ e_ => by have h_ := H45.out.1 k_ e_.symm; omega)); have n2_ := Aside0.mk (Nat.le_trans HSZ.out hg.size); have n3_ := Aside0.mk (hb); clear HI HA HSZ HB; have HI := n0_; have HA := n1_; have HSZ := n2_; have HB := n3_; clear n0_ n1_ n2_ n3_; clear HS H45 HN; clear ho hb hg hat) | ((with_reducible refine gate_callee (f := 32) rfl ?_); (try (refine gate_guard (by rfl) ?_; dsimp only)); refine goesL_ (some 52) rfl rfl Try.func32 (by kernel_rfl) rfl #[.pointer (some ⟨g, 0, none⟩), .int .i64 (wrap64 (m1 + 1))] rfl (by (try simp only [List.map_toArray, List.map_cons, List.map_nil]); first | done | rfl) ?_; (with_reducible refine (spec_l20Rd_pick.calls k1 g b p (wrap64 (m1 + 1)) u q1 w _ HI.out HB.out HU.out).mono ?_); rintro e wb ⟨rfl, hi, hb, hk⟩; have n0_ := Aside0.mk (Kd.Q_mono (Kd.Q_keep (IsS50.apartQ HI.out HA.out (by simp [Kd.int, Kd.scalar])) hk (fun _ h => h.2)) (fun _ h => h.1)); have n1_ := Aside0.mk (Kd.R_mono (Kd.R_keep (IsS50.apart HI.out H47.out (by simp [Kd.int, Kd.scalar])) hk (fun _ h => h.2)) (fun _ h => h.1)); have n2_ := Aside0.mk (Nat.le_trans HSZ.out hk.1); have n3_ := Aside0.mk (hi); have n4_ := Aside0.mk (hb); clear HA H47 HSZ HI HB; have HA := n0_; have H47 := n1_; have HSZ := n2_; have HI := n3_; have HB := n4_; clear n0_ n1_ n2_ n3_ n4_; clear hi hb hk; refine ⟨_, rfl, ?_⟩) | ((with_reducible refine gate_callee (f := 32) rfl ?_); (try (refine gate_guard (by rfl) ?_; dsimp only)); refine goesL_ (some 54) rfl rfl Try.func32 (by kernel_rfl) rfl #[.pointer (some ⟨g, 0, none⟩), .int .i64 9] rfl (by (try simp only [List.map_toArray, List.map_cons, List.map_nil]); first | done | rfl) ?_; (with_reducible refine (spec_l20Rd_pick.calls k1 g b q1 9 v q2 w _ HI.out HB.out HV.out).mono ?_); rintro e wb ⟨rfl, hi, hb, hk⟩; have n0_ := Aside0.mk (Kd.Q_mono (Kd.Q_keep (IsS50.apartQ HI.out HA.out (by simp [Kd.int, Kd.scalar])) hk (fun _ h => h.2)) (fun _ h => h.1)); have n1_ := Aside0.mk (Kd.R_mono (Kd.R_keep (IsS50.apart HI.out H47.out (by simp [Kd.int, Kd.scalar])) hk (fun _ h => h.2)) (fun _ h => h.1)); have n2_ := Aside0.mk (Nat.le_trans HSZ.out hk.1); have n3_ := Aside0.mk (hi); have n4_ := Aside0.mk (hb); clear HA H47 HSZ HI HB; have HA := n0_; have H47 := n1_; have HSZ := n2_; have HI := n3_; have HB := n4_; clear n0_ n1_ n2_ n3_ n4_; clear hi hb hk; refine ⟨_, rfl, ?_⟩) | ((with_reducible refine gate_builtin (b := .append) (xs := #[.tmp 47, .tmp 57]) rfl ?_); at_builtin; refine Kd.R_append (Kd.int .i64) (w0 := w) w.heap.size rfl (.tmp 47) (.tmp 57) 22 3 (.int .i64 0) 8 rfl Try.underlying22 hi3 rfl (by decide) (by omega) v47 y s2 [.int .i64 s2] (fun k_ => B2 ≤ k_) (fun _ => False) rfl rfl ?aP (fun _ hk => hk.elim) ?aF ?aO ?aB ?aS ?aL ?_; (case aP => exact rfl); (case aB => exact HB.out); (case aF => exact fun k_ hk_ => Nat.le_trans HSZ.out hk_); (case aO => exact H47.out); (case aS => exact HB.out.size); (case aL => have := LM.out; omega); intro v58 w58 ho hb hg hat; rw [← Ny.out] at ho; have HS3 := Aside0.mk ho; have n0_ := Aside0.mk (IsS50.grown HI.out hg (IsS50.own_ne HI.out H47.out (by decide))); have n1_ := Aside0.mk (Kd.Q_grown HA.out hg (fun k_ hk_ e_ => by have h_ := H47.out.1 k_ e_.symm; omega)); have n2_ := Aside0.mk (Nat.le_trans HSZ.out hg.size); have n3_ := Aside0.mk (hb); clear HI HA HSZ HB; have HI := n0_; have HA := n1_; have HSZ := n2_; have HB := n3_; clear n0_ n1_ n2_ n3_; clear H47 ho hb hg hat))
              go_roundg k1
              case measure => have := HK.out; omega
              case rel => exact ⟨y2, wrap64 (n - 1), q2, by first | rfl | (simp; done) | (simp [*]; done), HH, ⟨by have := HK.out; omega⟩, HS3, HA, HI, HB, HSZ⟩
            · have e3 : m1 = 1 := by rw [← hm1]; unfold mx; rw [if_neg n12]
              subst e3
              have e4 : m2 = 2 := by rw [← hm2]; decide +kernel
              subst e4
              have z1 : (sd ≤ 1) = True := eq_true (by omega)
              have z2 : (1 < sd) = False := eq_false n12
              have z3 : decide (1 < sd) = false := decide_eq_false n12
              clear hm1 n12 hm2
              go_wp2_with (first | ((with_reducible refine gate_dst (N := 45) rfl ?_); refine Kd.R_lit (Kd.int .i64) (w0 := w) w.heap.size 3 ?hg (N := 45) ?hd (xs := ([] : List Int)) (inner := []) (ok := fun k_ => B2 ≤ k_) (okp := fun k_ => B2 ≤ k_) ?hr ?hp (fun _ hk => hk) HSZ.out HB.out HB.out.size (by simp) ?_; (case hd => rfl); (case hg => rfl); (case hr => first | (go_simp; done) | (go_simp; rfl)); (case hp => exact Reps.none _ _); intro v45 w45 ho hb hg_ hnew_; have H45 := Aside0.mk ho; have HN := Aside0.mk hnew_; have n0_ := Aside0.mk (IsS50.grown HI.out hg_ (by simp)); have n1_ := Aside0.mk (Kd.Q_grown HA.out hg_ (by simp)); have n2_ := Aside0.mk (Kd.R_grown HS.out hg_ (by simp)); have n3_ := Aside0.mk (Nat.le_trans HSZ.out hg_.size); have n4_ := Aside0.mk (hb); clear HI HA HS HSZ HB; have HI := n0_; have HA := n1_; have HS := n2_; have HSZ := n3_; have HB := n4_; clear n0_ n1_ n2_ n3_ n4_; clear ho hb hg_ hnew_) | ((with_reducible refine gate_builtin (b := .append) (xs := #[.tmp 45, .tmp 46]) rfl ?_); at_builtin; refine Kd.R_append_rows (Kd.int .i64) (w0 := w) w.heap.size rfl (.tmp 45) (.tmp 46) 22 3 (.int .i64 0) 8 rfl Try.underlying22 hi3 rfl (by decide) (by omega) v45 [] y _ _ _ (fun k_ => B2 ≤ k_) (fun _ => False) rfl rfl ?aO ?aR (fun _ _ h => h) (fun _ h => h.elim) ?aF ?aB ?aS ?aL ?_; (case aR => exact (Kd.R_reads' HS.out).2.2); (case aB => exact HB.out); (case aF => exact fun k_ hk_ => Nat.le_trans HSZ.out hk_); (case aO => exact H45.out); (case aS => exact HB.out.size); (case aL => have := LM.out; simp; omega); intro v47 w47 ho hb hg hat; rw [List.nil_append] at ho; have H47 := Aside0.mk ho; have n0_ := Aside0.mk (IsS50.grown HI.out hg (IsS50.own_ne HI.out H45.out (by decide))); have n1_ := Aside0.mk (Kd.Q_grown HA.out hg (fun k_ hk_ e_ => by have h_ := H45.out.1 k_ e_.symm; omega)); have n2_ := Aside0.mk (Nat.le_trans HSZ.out hg.size); have n3_ := Aside0.mk (hb); clear HI HA HSZ HB; have HI := n0_; have HA := n1_; have HSZ := n2_; have HB := n3_; clear n0_ n1_ n2_ n3_; clear HS H45 HN; clear ho hb hg hat) | ((with_reducible refine gate_callee (f := 32) rfl ?_); (try (refine gate_guard (by rfl) ?_; dsimp only)); refine goesL_ (some 52) rfl rfl Try.func32 (by kernel_rfl) rfl #[.pointer (some ⟨g, 0, none⟩), .int .i64 2] rfl (by (try simp only [List.map_toArray, List.map_cons, List.map_nil]); first | done | rfl) ?_; (with_reducible refine (spec_l20Rd_pick.calls k1 g b p 2 u q1 w _ HI.out HB.out HU.out).mono ?_); rintro e wb ⟨rfl, hi, hb, hk⟩; have n0_ := Aside0.mk (Kd.Q_mono (Kd.Q_keep (IsS50.apartQ HI.out HA.out (by simp [Kd.int, Kd.scalar])) hk (fun _ h => h.2)) (fun _ h => h.1)); have n1_ := Aside0.mk (Kd.R_mono (Kd.R_keep (IsS50.apart HI.out H47.out (by simp [Kd.int, Kd.scalar])) hk (fun _ h => h.2)) (fun _ h => h.1)); have n2_ := Aside0.mk (Nat.le_trans HSZ.out hk.1); have n3_ := Aside0.mk (hi); have n4_ := Aside0.mk (hb); clear HA H47 HSZ HI HB; have HA := n0_; have H47 := n1_; have HSZ := n2_; have HI := n3_; have HB := n4_; clear n0_ n1_ n2_ n3_ n4_; clear hi hb hk; refine ⟨_, rfl, ?_⟩) | ((with_reducible refine gate_callee (f := 32) rfl ?_); (try (refine gate_guard (by rfl) ?_; dsimp only)); refine goesL_ (some 54) rfl rfl Try.func32 (by kernel_rfl) rfl #[.pointer (some ⟨g, 0, none⟩), .int .i64 9] rfl (by (try simp only [List.map_toArray, List.map_cons, List.map_nil]); first | done | rfl) ?_; (with_reducible refine (spec_l20Rd_pick.calls k1 g b q1 9 v q2 w _ HI.out HB.out HV.out).mono ?_); rintro e wb ⟨rfl, hi, hb, hk⟩; have n0_ := Aside0.mk (Kd.Q_mono (Kd.Q_keep (IsS50.apartQ HI.out HA.out (by simp [Kd.int, Kd.scalar])) hk (fun _ h => h.2)) (fun _ h => h.1)); have n1_ := Aside0.mk (Kd.R_mono (Kd.R_keep (IsS50.apart HI.out H47.out (by simp [Kd.int, Kd.scalar])) hk (fun _ h => h.2)) (fun _ h => h.1)); have n2_ := Aside0.mk (Nat.le_trans HSZ.out hk.1); have n3_ := Aside0.mk (hi); have n4_ := Aside0.mk (hb); clear HA H47 HSZ HI HB; have HA := n0_; have H47 := n1_; have HSZ := n2_; have HI := n3_; have HB := n4_; clear n0_ n1_ n2_ n3_ n4_; clear hi hb hk; refine ⟨_, rfl, ?_⟩) | ((with_reducible refine gate_builtin (b := .append) (xs := #[.tmp 47, .tmp 57]) rfl ?_); at_builtin; refine Kd.R_append (Kd.int .i64) (w0 := w) w.heap.size rfl (.tmp 47) (.tmp 57) 22 3 (.int .i64 0) 8 rfl Try.underlying22 hi3 rfl (by decide) (by omega) v47 y s2 [.int .i64 s2] (fun k_ => B2 ≤ k_) (fun _ => False) rfl rfl ?aP (fun _ hk => hk.elim) ?aF ?aO ?aB ?aS ?aL ?_; (case aP => exact rfl); (case aB => exact HB.out); (case aF => exact fun k_ hk_ => Nat.le_trans HSZ.out hk_); (case aO => exact H47.out); (case aS => exact HB.out.size); (case aL => have := LM.out; omega); intro v58 w58 ho hb hg hat; rw [← Ny.out] at ho; have HS3 := Aside0.mk ho; have n0_ := Aside0.mk (IsS50.grown HI.out hg (IsS50.own_ne HI.out H47.out (by decide))); have n1_ := Aside0.mk (Kd.Q_grown HA.out hg (fun k_ hk_ e_ => by have h_ := H47.out.1 k_ e_.symm; omega)); have n2_ := Aside0.mk (Nat.le_trans HSZ.out hg.size); have n3_ := Aside0.mk (hb); clear HI HA HSZ HB; have HI := n0_; have HA := n1_; have HSZ := n2_; have HB := n3_; clear n0_ n1_ n2_ n3_; clear H47 ho hb hg hat))
              go_roundg k1
              case measure => have := HK.out; omega
              case rel => exact ⟨y2, wrap64 (n - 1), q2, by first | rfl | (simp; done) | (simp [*]; done), HH, ⟨by have := HK.out; omega⟩, HS3, HA, HI, HB, HSZ⟩
          · rw [if_neg c6] at H
            exact absurd H (by simp)
        · rw [if_neg c5] at H
          have c5b0 : decide (0 < n) = false := decide_eq_false c5
          clear c5
          have e0 := Option.some.inj H
          simp only [Prod.mk.injEq] at e0
          obtain ⟨rfl, rfl, rfl⟩ := e0
          obtain ⟨A8', c8', e8'⟩ := Kd.R_slice HS.out
          subst e8'
          go_wp2_with fail
          go_ret3
          exact ⟨_, _, rfl, Kd.Q_mono HA.out (fun k_ hk_ e_ => by have h_ := HS.out.1 k_ e_.symm; omega), Kd.R_mono HS.out (fun k_ hk_ e_ => by have h_ := HA.out.1 k_ e_.symm; omega), HB.out⟩
  | true =>
    replace h : ((spec_l20Rd_pick.f k b p1 2).bind fun bp => (if bp.1 = 0 then ((spec_l20Rd_pick.f k b bp.2 (wrap64 ((xs.length : Int) + 1))).bind fun bm => (if 0 ≤ bm.1 then (if bm.1 ≤ (xs.length : Int) then (spec_DrawStarsFit.r k b ar sd (xs.take bm.1.toNat) bm.2) else none) else none)) else (spec_DrawStarsFit.r k b ar sd [] bp.2))) = some (r1, r2, r3) := h
    obtain ⟨⟨pr, p2⟩, h3, h⟩ := Option.bind_eq_some_iff.mp h
    have HO3 := Aside0.mk h3
    clear h3
    by_cases c1 : pr = 0
    · subst c1
      replace h : ((spec_l20Rd_pick.f k b p2 (wrap64 ((xs.length : Int) + 1))).bind fun bm => (if 0 ≤ bm.1 then (if bm.1 ≤ (xs.length : Int) then (spec_DrawStarsFit.r k b ar sd (xs.take bm.1.toNat) bm.2) else none) else none)) = some (r1, r2, r3) := h
      obtain ⟨⟨pm, p3⟩, h4, h⟩ := Option.bind_eq_some_iff.mp h
      have HO4 := Aside0.mk h4
      clear h4
      replace h : (if 0 ≤ pm then (if pm ≤ (xs.length : Int) then (spec_DrawStarsFit.r k b ar sd (xs.take pm.toNat) p3) else none) else none) = some (r1, r2, r3) := h
      by_cases c2 : 0 ≤ pm
      · rw [if_pos c2] at h
        by_cases c3 : pm ≤ (xs.length : Int)
        · rw [if_pos c3] at h
          unfold spec_DrawStarsFit.r at h
          obtain ⟨⟨n0, pn⟩, hp, h⟩ := Option.bind_eq_some_iff.mp h
          have HP := Aside0.mk hp
          have HH : Aside0 (spec_DrawStarsFit.l0 k b ar sd (xs.take pm.toNat) n0 pn = some (r1, r2, r3)) := ⟨h⟩
          clear h hp
          obtain ⟨pn', hpn'⟩ := Int.eq_ofNat_of_zero_le c2
          subst hpn'
          have d2 : decide (0 ≤ (pn' : Int)) = true := decide_eq_true c2
          have d3 : pn' ≤ xs.length := by omega
          go_enter Try.func20, Try.ntmps20
          go_wp2_with (first | ((with_reducible refine gate_callee (f := 30) rfl ?_); (try (refine gate_guard (by rfl) ?_; dsimp only)); refine goesL_ (some 13) rfl rfl Try.func30 (by kernel_rfl) rfl #[.slice A0 l0.length c0] rfl (by (try simp only [List.map_toArray, List.map_cons, List.map_nil]); first | done | rfl) ?_; (with_reducible refine (spec_l20Open.calls A0 c0 l0 b p0 w w (Below.refl _ _) HR.out hc0 HO0.out).mono ?_); rintro e wb ⟨g, rfl, hi, hb, hb2⟩; have HI := Aside0.mk hi; have HB := Aside0.mk hb; clear hi hb hb2; refine ⟨_, rfl, ?_⟩) | ((with_reducible refine gate_callee (f := 31) rfl ?_); (try (refine gate_guard (by rfl) ?_; dsimp only)); refine goesL_ (some 16) rfl rfl Try.func31 (by kernel_rfl) rfl #[.pointer (some ⟨g, 0, none⟩), .int .i64 12] rfl (by (try simp only [List.map_toArray, List.map_cons, List.map_nil]); first | done | rfl) ?_; (with_reducible refine (spec_l20Areas.calls k g b p0 12 ar sd p1 w _ HI.out HB.out HO1.out).mono ?_); rintro e wb ⟨v6, rfl, ho, hi, hb, hk⟩; obtain ⟨A6, c6, e6, hc6⟩ := Kd.Q_slice ho; subst e6; have HA := Aside0.mk (Kd.Q_mono (Kd.Q_lower (Kd.Q_bound ho) HB.out.size) (fun k_ h => h.2.2.1)); obtain ⟨B2, hB2⟩ : ∃ B2, wb.heap.size = B2 := ⟨_, rfl⟩; rw [hB2] at HA; have HS2 := Aside0.mk hB2; clear hB2; have n0_ := Aside0.mk (hi); have n1_ := Aside0.mk (hb); clear HI HB; have HI := n0_; have HB := n1_; clear n0_ n1_; clear ho hi hb hk hc6; refine ⟨_, rfl, ?_⟩) | ((with_reducible refine gate_dst (N := 19) rfl ?_); refine Kd.R_lit (Kd.int .i64) (w0 := wb) wb.heap.size 3 ?hg (N := 19) ?hd (xs := ([] : List Int)) (inner := []) (ok := fun k_ => B2 ≤ k_) (okp := fun k_ => B2 ≤ k_) ?hr ?hp (fun _ hk => hk) (Nat.le_of_eq HS2.out.symm) (Below.refl _ _) (Nat.le_refl _) (by simp) ?_; (case hd => rfl); (case hg => rfl); (case hr => first | (go_simp; done) | (go_simp; rfl)); (case hp => exact Reps.none _ _); intro v8 w8 ho hb hg_ hnew_; obtain ⟨A8, c8, e8⟩ := Kd.R_slice ho; subst e8; have HS := Aside0.mk (Kd.R_lower ho HB.out.size); have HSZ := Aside0.mk (Nat.le_trans (Nat.le_of_eq HS2.out.symm) hb.size); have n0_ := Aside0.mk (IsS50.below HI.out hb); have n1_ := Aside0.mk (Kd.Q_below HA.out hb); have n2_ := Aside0.mk (below_step HB.out hb); clear HI HA HB; have HI := n0_; have HA := n1_; have HB := n2_; clear n0_ n1_ n2_; clear ho hb hg_ hnew_) | ((with_reducible refine gate_callee (f := 16) rfl ?_); (try (refine gate_guard (by rfl) ?_; dsimp only)); refine goesL_ (some 23) rfl rfl Try.func16 (by kernel_rfl) rfl #[.slice A6 ar.length c6, .int .i64 sd] rfl (by (try simp only [List.map_toArray, List.map_cons, List.map_nil]); first | done | rfl) ?_; (with_reducible refine (spec_StarsFirst.calls k A6 c6 ar sd xs _ _ (Kd.Q_reads' HA.out).2.2 (Kd.Q_reads' HA.out).2.1 HO2.out).mono ?_); rintro e wb ⟨v9, rfl, ho, hb⟩; obtain ⟨A9, c9, e9⟩ := Kd.R_slice ho; subst e9; have q9 : pn' ≤ c9 := Nat.le_trans d3 (Kd.R_reads' ho).2.1; have q9b : (pn' ≤ c9) = True := eq_true q9; have HX := Aside0.mk (Kd.R_mono (Kd.R_lower (Kd.R_bound ho) HB.out.size) (fun k_ h => (Nat.le_trans HSZ.out h.2.1 : B2 ≤ k_))); have n0_ := Aside0.mk (IsS50.below HI.out hb); have n1_ := Aside0.mk (Kd.Q_below HA.out hb); have n2_ := Aside0.mk (Kd.R_below HS.out hb); have n3_ := Aside0.mk (Nat.le_trans HSZ.out hb.size); have n4_ := Aside0.mk (below_step HB.out hb); clear HI HA HS HSZ HB; have HI := n0_; have HA := n1_; have HS := n2_; have HSZ := n3_; have HB := n4_; clear n0_ n1_ n2_ n3_ n4_; clear ho hb; refine ⟨_, rfl, ?_⟩) | ((with_reducible refine gate_callee (f := 32) rfl ?_); (try (refine gate_guard (by rfl) ?_; dsimp only)); refine goesL_ (some 29) rfl rfl Try.func32 (by kernel_rfl) rfl #[.pointer (some ⟨g, 0, none⟩), .int .i64 2] rfl (by (try simp only [List.map_toArray, List.map_cons, List.map_nil]); first | done | rfl) ?_; (with_reducible refine (spec_l20Rd_pick.calls k g b p1 2 _ p2 w _ HI.out HB.out HO3.out).mono ?_); rintro e wb ⟨rfl, hi, hb, hk⟩; have n0_ := Aside0.mk (Kd.Q_mono (Kd.Q_keep (IsS50.apartQ HI.out HA.out (by simp [Kd.int, Kd.scalar])) hk (fun _ h => h.2)) (fun _ h => h.1)); have n1_ := Aside0.mk (Kd.R_mono (Kd.R_keep (IsS50.apart HI.out HS.out (by simp [Kd.int, Kd.scalar])) hk (fun _ h => h.2)) (fun _ h => h.1)); have n2_ := Aside0.mk (Kd.R_mono (Kd.R_keep (IsS50.apart HI.out HX.out (by simp [Kd.int, Kd.scalar])) hk (fun _ h => h.2)) (fun _ h => h.1)); have n3_ := Aside0.mk (Nat.le_trans HSZ.out hk.1); have n4_ := Aside0.mk (hi); have n5_ := Aside0.mk (hb); clear HA HS HX HSZ HI HB; have HA := n0_; have HS := n1_; have HX := n2_; have HSZ := n3_; have HI := n4_; have HB := n5_; clear n0_ n1_ n2_ n3_ n4_ n5_; clear hi hb hk; refine ⟨_, rfl, ?_⟩) | ((with_reducible refine gate_callee (f := 32) rfl ?_); (try (refine gate_guard (by rfl) ?_; dsimp only)); refine goesL_ (some 37) rfl rfl Try.func32 (by kernel_rfl) rfl #[.pointer (some ⟨g, 0, none⟩), .int .i64 (wrap64 ((xs.length : Int) + 1))] rfl (by (try simp only [List.map_toArray, List.map_cons, List.map_nil]); first | done | rfl) ?_; (with_reducible refine (spec_l20Rd_pick.calls k g b p2 (wrap64 ((xs.length : Int) + 1)) _ p3 w _ HI.out HB.out HO4.out).mono ?_); rintro e wb ⟨rfl, hi, hb, hk⟩; have n0_ := Aside0.mk (Kd.Q_mono (Kd.Q_keep (IsS50.apartQ HI.out HA.out (by simp [Kd.int, Kd.scalar])) hk (fun _ h => h.2)) (fun _ h => h.1)); have n1_ := Aside0.mk (Kd.R_mono (Kd.R_keep (IsS50.apart HI.out HS.out (by simp [Kd.int, Kd.scalar])) hk (fun _ h => h.2)) (fun _ h => h.1)); have n2_ := Aside0.mk (Kd.R_mono (Kd.R_keep (IsS50.apart HI.out HX.out (by simp [Kd.int, Kd.scalar])) hk (fun _ h => h.2)) (fun _ h => h.1)); have n3_ := Aside0.mk (Nat.le_trans HSZ.out hk.1); have n4_ := Aside0.mk (hi); have n5_ := Aside0.mk (hb); clear HA HS HX HSZ HI HB; have HA := n0_; have HS := n1_; have HX := n2_; have HSZ := n3_; have HI := n4_; have HB := n5_; clear n0_ n1_ n2_ n3_ n4_ n5_; clear hi hb hk; refine ⟨_, rfl, ?_⟩) | ((with_reducible refine gate_callee (f := 32) rfl ?_); (try (refine gate_guard (by rfl) ?_; dsimp only)); refine goesL_ (some 40) rfl rfl Try.func32 (by kernel_rfl) rfl #[.pointer (some ⟨g, 0, none⟩), .int .i64 3] rfl (by (try simp only [List.map_toArray, List.map_cons, List.map_nil]); first | done | rfl) ?_; (with_reducible refine (spec_l20Rd_pick.calls k g b p3 3 n0 pn w _ HI.out HB.out HP.out).mono ?_); rintro e wb ⟨rfl, hi, hb, hk⟩; have n0_ := Aside0.mk (Kd.Q_mono (Kd.Q_keep (IsS50.apartQ HI.out HA.out (by simp [Kd.int, Kd.scalar])) hk (fun _ h => h.2)) (fun _ h => h.1)); have n1_ := Aside0.mk (Kd.R_mono (Kd.R_keep (IsS50.apart HI.out HS.out (by simp [Kd.int, Kd.scalar])) hk (fun _ h => h.2)) (fun _ h => h.1)); have n2_ := Aside0.mk (Kd.R_mono (Kd.R_keep (IsS50.apart HI.out HX.out (by simp [Kd.int, Kd.scalar])) hk (fun _ h => h.2)) (fun _ h => h.1)); have n3_ := Aside0.mk (Nat.le_trans HSZ.out hk.1); have n4_ := Aside0.mk (hi); have n5_ := Aside0.mk (hb); clear HA HS HX HSZ HI HB; have HA := n0_; have HS := n1_; have HX := n2_; have HSZ := n3_; have HI := n4_; have HB := n5_; clear n0_ n1_ n2_ n3_ n4_ n5_; clear hi hb hk; refine ⟨_, rfl, ?_⟩))
          have HS' := Aside0.mk (Kd.R_take HX.out d3)
          clear HS
          have HS := HS'
          clear HS' HX
          rw [Int.toNat_natCast] at HH
          go_loopg [8, 11] k (fun kq v8 v11 w' => ∃ (y : List Int) (n p : Int), v11 = .int .i64 n ∧ Aside0 (spec_DrawStarsFit.l0 kq b ar sd y n p = some (r1, r2, r3)) ∧ Aside0 (kq ≤ k) ∧ Aside0 (Kd.R (Kd.int .i64) 3 w' w.heap.size (fun k_ => B2 ≤ k_) v8 y) ∧ Aside0 (Kd.Q (Kd.int .i64) 3 w' w.heap.size (fun k_ => k_ < B2) (.slice A6 ar.length c6) ar) ∧ Aside0 (IsS50 w w' g b p) ∧ Aside0 (Below w.heap.size w w') ∧ Aside0 (B2 ≤ w'.heap.size))
          case atStart => exact ⟨_, _, _, rfl, HH, ⟨Nat.le_refl _⟩, HS, HA, HI, HB, HSZ⟩
          case round =>
            clear HH HS HA HI HB HSZ
            obtain ⟨y, n, p, rfl, HH, HK, HS, HA, HI, HB, HSZ⟩ := hrel
            cases gk with
            | zero => exact absurd HH.out (by simp [spec_DrawStarsFit.l0])
            | succ k1 =>
              have H := HH.out
              clear HH
              rw [spec_DrawStarsFit.l0] at H
              by_cases c5 : n > 0
              · rw [if_pos c5] at H
                have c5b0 : decide (0 < n) = true := decide_eq_true c5
                clear c5
                by_cases c6 : y.length < 4398046511104
                · rw [if_pos c6] at H
                  have LM := Aside0.mk c6
                  clear c6
                  obtain ⟨⟨u, q1⟩, Hu, H⟩ := Option.bind_eq_some_iff.mp H
                  obtain ⟨⟨v, q2⟩, Hv, H⟩ := Option.bind_eq_some_iff.mp H
                  obtain ⟨m1, hm1⟩ : ∃ m, mx 1 sd = m := ⟨_, rfl⟩
                  obtain ⟨m2, hm2⟩ : ∃ m, wrap64 (m1 + 1) = m := ⟨_, rfl⟩
                  obtain ⟨s1, hs1⟩ : ∃ m, wrap64 (Int.tdiv v 8) = m := ⟨_, rfl⟩
                  obtain ⟨s2, hs2⟩ : ∃ m, wrap64 (u - s1) = m := ⟨_, rfl⟩
                  rw [hm1, hm2] at Hu
                  replace H : spec_DrawStarsFit.l0 k1 b ar sd (y ++ [wrap64 (u - wrap64 (Int.tdiv v 8))]) (wrap64 (n - 1)) q2 = some (r1, r2, r3) := H
                  rw [hs1, hs2] at H
                  obtain ⟨y2, hy2⟩ : ∃ y_ : List Int, y_ = y ++ [s2] := ⟨_, rfl⟩
                  rw [← hy2] at H
                  have Ny := Aside0.mk hy2
                  have HU := Aside0.mk Hu
                  have HV := Aside0.mk Hv
                  have HH := Aside0.mk H
                  clear H Hu Hv hy2
                  obtain ⟨A8', c8', e8'⟩ := Kd.R_slice HS.out
                  subst e8'
                  by_cases n12 : 1 < sd
                  · have e3 : m1 = sd := by rw [← hm1]; unfold mx; rw [if_pos n12]
                    subst e3
                    have z1 : (m1 ≤ 1) = False := eq_false (by omega)
                    have z2 : (1 < m1) = True := eq_true n12
                    have z3 : decide (1 < m1) = true := decide_eq_true n12
                    subst hm2
                    clear hm1 n12
                    go_wp2_with (first | ((with_reducible refine gate_dst (N := 45) rfl ?_); refine Kd.R_lit (Kd.int .i64) (w0 := w) w.heap.size 3 ?hg (N := 45) ?hd (xs := ([] : List Int)) (inner := []) (ok := fun k_ => B2 ≤ k_) (okp := fun k_ => B2 ≤ k_) ?hr ?hp (fun _ hk => hk) HSZ.out HB.out HB.out.size (by simp) ?_; (case hd => rfl); (case hg => rfl); (case hr => first | (go_simp; done) | (go_simp; rfl)); (case hp => exact Reps.none _ _); intro v45 w45 ho hb hg_ hnew_; have H45 := Aside0.mk ho; have HN := Aside0.mk hnew_; have n0_ := Aside0.mk (IsS50.grown HI.out hg_ (by simp)); have n1_ := Aside0.mk (Kd.Q_grown HA.out hg_ (by simp)); have n2_ := Aside0.mk (Kd.R_grown HS.out hg_ (by simp)); have n3_ := Aside0.mk (Nat.le_trans HSZ.out hg_.size); have n4_ := Aside0.mk (hb); clear HI HA HS HSZ HB; have HI := n0_; have HA := n1_; have HS := n2_; have HSZ := n3_; have HB := n4_; clear n0_ n1_ n2_ n3_ n4_; clear ho hb hg_ hnew_) | ((with_reducible refine gate_builtin (b := .append) (xs := #[.tmp 45, .tmp 46]) rfl ?_); at_builtin; refine Kd.R_append_rows (Kd.int .i64) (w0 := w) w.heap.size rfl (.tmp 45) (.tmp 46) 22 3 (.int .i64 0) 8 rfl Try.underlying22 hi3 rfl (by decide) (by omega) v45 [] y _ _ _ (fun k_ => B2 ≤ k_) (fun _ => False) rfl rfl ?aO ?aR (fun _ _ h => h) (fun _ h => h.elim) ?aF ?aB ?aS ?aL ?_; (case aR => exact (Kd.R_reads' HS.out).2.2); (case aB => exact HB.out); (case aF => exact fun k_ hk_ => Nat.le_trans HSZ.out hk_); (case aO => exact H45.out); (case aS => exact HB.out.size); (case aL => have := LM.out; simp; omega); intro v47 w47 ho hb hg hat; rw [List.nil_append] at ho; have H47 := Aside0.mk ho; have n0_ := Aside0.mk (IsS50.grown HI.out hg (IsS50.own_ne HI.out H45.out (by decide))); have n1_ := Aside0.mk (Kd.Q_grown HA.out hg (fun k_ hk_ e_ => by have h_ := H45.out.1 k_ e_.symm; omega)); have n2_ := Aside0.mk (Nat.le_trans HSZ.out hg.size); have n3_ := Aside0.mk (hb); clear HI HA HSZ HB; have HI := n0_; have HA := n1_; have HSZ := n2_; have HB := n3_; clear n0_ n1_ n2_ n3_; clear HS H45 HN; clear ho hb hg hat) | ((with_reducible refine gate_callee (f := 32) rfl ?_); (try (refine gate_guard (by rfl) ?_; dsimp only)); refine goesL_ (some 52) rfl rfl Try.func32 (by kernel_rfl) rfl #[.pointer (some ⟨g, 0, none⟩), .int .i64 (wrap64 (m1 + 1))] rfl (by (try simp only [List.map_toArray, List.map_cons, List.map_nil]); first | done | rfl) ?_; (with_reducible refine (spec_l20Rd_pick.calls k1 g b p (wrap64 (m1 + 1)) u q1 w _ HI.out HB.out HU.out).mono ?_); rintro e wb ⟨rfl, hi, hb, hk⟩; have n0_ := Aside0.mk (Kd.Q_mono (Kd.Q_keep (IsS50.apartQ HI.out HA.out (by simp [Kd.int, Kd.scalar])) hk (fun _ h => h.2)) (fun _ h => h.1)); have n1_ := Aside0.mk (Kd.R_mono (Kd.R_keep (IsS50.apart HI.out H47.out (by simp [Kd.int, Kd.scalar])) hk (fun _ h => h.2)) (fun _ h => h.1)); have n2_ := Aside0.mk (Nat.le_trans HSZ.out hk.1); have n3_ := Aside0.mk (hi); have n4_ := Aside0.mk (hb); clear HA H47 HSZ HI HB; have HA := n0_; have H47 := n1_; have HSZ := n2_; have HI := n3_; have HB := n4_; clear n0_ n1_ n2_ n3_ n4_; clear hi hb hk; refine ⟨_, rfl, ?_⟩) | ((with_reducible refine gate_callee (f := 32) rfl ?_); (try (refine gate_guard (by rfl) ?_; dsimp only)); refine goesL_ (some 54) rfl rfl Try.func32 (by kernel_rfl) rfl #[.pointer (some ⟨g, 0, none⟩), .int .i64 9] rfl (by (try simp only [List.map_toArray, List.map_cons, List.map_nil]); first | done | rfl) ?_; (with_reducible refine (spec_l20Rd_pick.calls k1 g b q1 9 v q2 w _ HI.out HB.out HV.out).mono ?_); rintro e wb ⟨rfl, hi, hb, hk⟩; have n0_ := Aside0.mk (Kd.Q_mono (Kd.Q_keep (IsS50.apartQ HI.out HA.out (by simp [Kd.int, Kd.scalar])) hk (fun _ h => h.2)) (fun _ h => h.1)); have n1_ := Aside0.mk (Kd.R_mono (Kd.R_keep (IsS50.apart HI.out H47.out (by simp [Kd.int, Kd.scalar])) hk (fun _ h => h.2)) (fun _ h => h.1)); have n2_ := Aside0.mk (Nat.le_trans HSZ.out hk.1); have n3_ := Aside0.mk (hi); have n4_ := Aside0.mk (hb); clear HA H47 HSZ HI HB; have HA := n0_; have H47 := n1_; have HSZ := n2_; have HI := n3_; have HB := n4_; clear n0_ n1_ n2_ n3_ n4_; clear hi hb hk; refine ⟨_, rfl, ?_⟩) | ((with_reducible refine gate_builtin (b := .append) (xs := #[.tmp 47, .tmp 57]) rfl ?_); at_builtin; refine Kd.R_append (Kd.int .i64) (w0 := w) w.heap.size rfl (.tmp 47) (.tmp 57) 22 3 (.int .i64 0) 8 rfl Try.underlying22 hi3 rfl (by decide) (by omega) v47 y s2 [.int .i64 s2] (fun k_ => B2 ≤ k_) (fun _ => False) rfl rfl ?aP (fun _ hk => hk.elim) ?aF ?aO ?aB ?aS ?aL ?_; (case aP => exact rfl); (case aB => exact HB.out); (case aF => exact fun k_ hk_ => Nat.le_trans HSZ.out hk_); (case aO => exact H47.out); (case aS => exact HB.out.size); (case aL => have := LM.out; omega); intro v58 w58 ho hb hg hat; rw [← Ny.out] at ho; have HS3 := Aside0.mk ho; have n0_ := Aside0.mk (IsS50.grown HI.out hg (IsS50.own_ne HI.out H47.out (by decide))); have n1_ := Aside0.mk (Kd.Q_grown HA.out hg (fun k_ hk_ e_ => by have h_ := H47.out.1 k_ e_.symm; omega)); have n2_ := Aside0.mk (Nat.le_trans HSZ.out hg.size); have n3_ := Aside0.mk (hb); clear HI HA HSZ HB; have HI := n0_; have HA := n1_; have HSZ := n2_; have HB := n3_; clear n0_ n1_ n2_ n3_; clear H47 ho hb hg hat))
                    go_roundg k1
                    case measure => have := HK.out; omega
                    case rel => exact ⟨y2, wrap64 (n - 1), q2, by first | rfl | (simp; done) | (simp [*]; done), HH, ⟨by have := HK.out; omega⟩, HS3, HA, HI, HB, HSZ⟩
                  · have e3 : m1 = 1 := by rw [← hm1]; unfold mx; rw [if_neg n12]
                    subst e3
                    have e4 : m2 = 2 := by rw [← hm2]; decide +kernel
                    subst e4
                    have z1 : (sd ≤ 1) = True := eq_true (by omega)
                    have z2 : (1 < sd) = False := eq_false n12
                    have z3 : decide (1 < sd) = false := decide_eq_false n12
                    clear hm1 n12 hm2
                    go_wp2_with (first | ((with_reducible refine gate_dst (N := 45) rfl ?_); refine Kd.R_lit (Kd.int .i64) (w0 := w) w.heap.size 3 ?hg (N := 45) ?hd (xs := ([] : List Int)) (inner := []) (ok := fun k_ => B2 ≤ k_) (okp := fun k_ => B2 ≤ k_) ?hr ?hp (fun _ hk => hk) HSZ.out HB.out HB.out.size (by simp) ?_; (case hd => rfl); (case hg => rfl); (case hr => first | (go_simp; done) | (go_simp; rfl)); (case hp => exact Reps.none _ _); intro v45 w45 ho hb hg_ hnew_; have H45 := Aside0.mk ho; have HN := Aside0.mk hnew_; have n0_ := Aside0.mk (IsS50.grown HI.out hg_ (by simp)); have n1_ := Aside0.mk (Kd.Q_grown HA.out hg_ (by simp)); have n2_ := Aside0.mk (Kd.R_grown HS.out hg_ (by simp)); have n3_ := Aside0.mk (Nat.le_trans HSZ.out hg_.size); have n4_ := Aside0.mk (hb); clear HI HA HS HSZ HB; have HI := n0_; have HA := n1_; have HS := n2_; have HSZ := n3_; have HB := n4_; clear n0_ n1_ n2_ n3_ n4_; clear ho hb hg_ hnew_) | ((with_reducible refine gate_builtin (b := .append) (xs := #[.tmp 45, .tmp 46]) rfl ?_); at_builtin; refine Kd.R_append_rows (Kd.int .i64) (w0 := w) w.heap.size rfl (.tmp 45) (.tmp 46) 22 3 (.int .i64 0) 8 rfl Try.underlying22 hi3 rfl (by decide) (by omega) v45 [] y _ _ _ (fun k_ => B2 ≤ k_) (fun _ => False) rfl rfl ?aO ?aR (fun _ _ h => h) (fun _ h => h.elim) ?aF ?aB ?aS ?aL ?_; (case aR => exact (Kd.R_reads' HS.out).2.2); (case aB => exact HB.out); (case aF => exact fun k_ hk_ => Nat.le_trans HSZ.out hk_); (case aO => exact H45.out); (case aS => exact HB.out.size); (case aL => have := LM.out; simp; omega); intro v47 w47 ho hb hg hat; rw [List.nil_append] at ho; have H47 := Aside0.mk ho; have n0_ := Aside0.mk (IsS50.grown HI.out hg (IsS50.own_ne HI.out H45.out (by decide))); have n1_ := Aside0.mk (Kd.Q_grown HA.out hg (fun k_ hk_ e_ => by have h_ := H45.out.1 k_ e_.symm; omega)); have n2_ := Aside0.mk (Nat.le_trans HSZ.out hg.size); have n3_ := Aside0.mk (hb); clear HI HA HSZ HB; have HI := n0_; have HA := n1_; have HSZ := n2_; have HB := n3_; clear n0_ n1_ n2_ n3_; clear HS H45 HN; clear ho hb hg hat) | ((with_reducible refine gate_callee (f := 32) rfl ?_); (try (refine gate_guard (by rfl) ?_; dsimp only)); refine goesL_ (some 52) rfl rfl Try.func32 (by kernel_rfl) rfl #[.pointer (some ⟨g, 0, none⟩), .int .i64 2] rfl (by (try simp only [List.map_toArray, List.map_cons, List.map_nil]); first | done | rfl) ?_; (with_reducible refine (spec_l20Rd_pick.calls k1 g b p 2 u q1 w _ HI.out HB.out HU.out).mono ?_); rintro e wb ⟨rfl, hi, hb, hk⟩; have n0_ := Aside0.mk (Kd.Q_mono (Kd.Q_keep (IsS50.apartQ HI.out HA.out (by simp [Kd.int, Kd.scalar])) hk (fun _ h => h.2)) (fun _ h => h.1)); have n1_ := Aside0.mk (Kd.R_mono (Kd.R_keep (IsS50.apart HI.out H47.out (by simp [Kd.int, Kd.scalar])) hk (fun _ h => h.2)) (fun _ h => h.1)); have n2_ := Aside0.mk (Nat.le_trans HSZ.out hk.1); have n3_ := Aside0.mk (hi); have n4_ := Aside0.mk (hb); clear HA H47 HSZ HI HB; have HA := n0_; have H47 := n1_; have HSZ := n2_; have HI := n3_; have HB := n4_; clear n0_ n1_ n2_ n3_ n4_; clear hi hb hk; refine ⟨_, rfl, ?_⟩) | ((with_reducible refine gate_callee (f := 32) rfl ?_); (try (refine gate_guard (by rfl) ?_; dsimp only)); refine goesL_ (some 54) rfl rfl Try.func32 (by kernel_rfl) rfl #[.pointer (some ⟨g, 0, none⟩), .int .i64 9] rfl (by (try simp only [List.map_toArray, List.map_cons, List.map_nil]); first | done | rfl) ?_; (with_reducible refine (spec_l20Rd_pick.calls k1 g b q1 9 v q2 w _ HI.out HB.out HV.out).mono ?_); rintro e wb ⟨rfl, hi, hb, hk⟩; have n0_ := Aside0.mk (Kd.Q_mono (Kd.Q_keep (IsS50.apartQ HI.out HA.out (by simp [Kd.int, Kd.scalar])) hk (fun _ h => h.2)) (fun _ h => h.1)); have n1_ := Aside0.mk (Kd.R_mono (Kd.R_keep (IsS50.apart HI.out H47.out (by simp [Kd.int, Kd.scalar])) hk (fun _ h => h.2)) (fun _ h => h.1)); have n2_ := Aside0.mk (Nat.le_trans HSZ.out hk.1); have n3_ := Aside0.mk (hi); have n4_ := Aside0.mk (hb); clear HA H47 HSZ HI HB; have HA := n0_; have H47 := n1_; have HSZ := n2_; have HI := n3_; have HB := n4_; clear n0_ n1_ n2_ n3_ n4_; clear hi hb hk; refine ⟨_, rfl, ?_⟩) | ((with_reducible refine gate_builtin (b := .append) (xs := #[.tmp 47, .tmp 57]) rfl ?_); at_builtin; refine Kd.R_append (Kd.int .i64) (w0 := w) w.heap.size rfl (.tmp 47) (.tmp 57) 22 3 (.int .i64 0) 8 rfl Try.underlying22 hi3 rfl (by decide) (by omega) v47 y s2 [.int .i64 s2] (fun k_ => B2 ≤ k_) (fun _ => False) rfl rfl ?aP (fun _ hk => hk.elim) ?aF ?aO ?aB ?aS ?aL ?_; (case aP => exact rfl); (case aB => exact HB.out); (case aF => exact fun k_ hk_ => Nat.le_trans HSZ.out hk_); (case aO => exact H47.out); (case aS => exact HB.out.size); (case aL => have := LM.out; omega); intro v58 w58 ho hb hg hat; rw [← Ny.out] at ho; have HS3 := Aside0.mk ho; have n0_ := Aside0.mk (IsS50.grown HI.out hg (IsS50.own_ne HI.out H47.out (by decide))); have n1_ := Aside0.mk (Kd.Q_grown HA.out hg (fun k_ hk_ e_ => by have h_ := H47.out.1 k_ e_.symm; omega)); have n2_ := Aside0.mk (Nat.le_trans HSZ.out hg.size); have n3_ := Aside0.mk (hb); clear HI HA HSZ HB; have HI := n0_; have HA := n1_; have HSZ := n2_; have HB := n3_; clear n0_ n1_ n2_ n3_; clear H47 ho hb hg hat))
                    go_roundg k1
                    case measure => have := HK.out; omega
                    case rel => exact ⟨y2, wrap64 (n - 1), q2, by first | rfl | (simp; done) | (simp [*]; done), HH, ⟨by have := HK.out; omega⟩, HS3, HA, HI, HB, HSZ⟩
                · rw [if_neg c6] at H
                  exact absurd H (by simp)
              · rw [if_neg c5] at H
                have c5b0 : decide (0 < n) = false := decide_eq_false c5
                clear c5
                have e0 := Option.some.inj H
                simp only [Prod.mk.injEq] at e0
                obtain ⟨rfl, rfl, rfl⟩ := e0
                obtain ⟨A8', c8', e8'⟩ := Kd.R_slice HS.out
                subst e8'
                go_wp2_with fail
                go_ret3
                exact ⟨_, _, rfl, Kd.Q_mono HA.out (fun k_ hk_ e_ => by have h_ := HS.out.1 k_ e_.symm; omega), Kd.R_mono HS.out (fun k_ hk_ e_ => by have h_ := HA.out.1 k_ e_.symm; omega), HB.out⟩
        · rw [if_neg c3] at h
          exact absurd h (by simp)
      · rw [if_neg c2] at h
        exact absurd h (by simp)
    · have c1b : (pr == 0) = false := beq_eq_false_iff_ne.mpr c1
      replace h : spec_DrawStarsFit.r k b ar sd [] p2 = some (r1, r2, r3) := by rw [if_neg c1] at h; exact h
      clear c1
      unfold spec_DrawStarsFit.r at h
      obtain ⟨⟨n0, pn⟩, hp, h⟩ := Option.bind_eq_some_iff.mp h
      have HP := Aside0.mk hp
      have HH : Aside0 (spec_DrawStarsFit.l0 k b ar sd [] n0 pn = some (r1, r2, r3)) := ⟨h⟩
      clear h hp
      go_enter Try.func20, Try.ntmps20
      go_wp2_with (first | ((with_reducible refine gate_callee (f := 30) rfl ?_); (try (refine gate_guard (by rfl) ?_; dsimp only)); refine goesL_ (some 13) rfl rfl Try.func30 (by kernel_rfl) rfl #[.slice A0 l0.length c0] rfl (by (try simp only [List.map_toArray, List.map_cons, List.map_nil]); first | done | rfl) ?_; (with_reducible refine (spec_l20Open.calls A0 c0 l0 b p0 w w (Below.refl _ _) HR.out hc0 HO0.out).mono ?_); rintro e wb ⟨g, rfl, hi, hb, hb2⟩; have HI := Aside0.mk hi; have HB := Aside0.mk hb; clear hi hb hb2; refine ⟨_, rfl, ?_⟩) | ((with_reducible refine gate_callee (f := 31) rfl ?_); (try (refine gate_guard (by rfl) ?_; dsimp only)); refine goesL_ (some 16) rfl rfl Try.func31 (by kernel_rfl) rfl #[.pointer (some ⟨g, 0, none⟩), .int .i64 12] rfl (by (try simp only [List.map_toArray, List.map_cons, List.map_nil]); first | done | rfl) ?_; (with_reducible refine (spec_l20Areas.calls k g b p0 12 ar sd p1 w _ HI.out HB.out HO1.out).mono ?_); rintro e wb ⟨v6, rfl, ho, hi, hb, hk⟩; obtain ⟨A6, c6, e6, hc6⟩ := Kd.Q_slice ho; subst e6; have HA := Aside0.mk (Kd.Q_mono (Kd.Q_lower (Kd.Q_bound ho) HB.out.size) (fun k_ h => h.2.2.1)); obtain ⟨B2, hB2⟩ : ∃ B2, wb.heap.size = B2 := ⟨_, rfl⟩; rw [hB2] at HA; have HS2 := Aside0.mk hB2; clear hB2; have n0_ := Aside0.mk (hi); have n1_ := Aside0.mk (hb); clear HI HB; have HI := n0_; have HB := n1_; clear n0_ n1_; clear ho hi hb hk hc6; refine ⟨_, rfl, ?_⟩) | ((with_reducible refine gate_dst (N := 19) rfl ?_); refine Kd.R_lit (Kd.int .i64) (w0 := wb) wb.heap.size 3 ?hg (N := 19) ?hd (xs := ([] : List Int)) (inner := []) (ok := fun k_ => B2 ≤ k_) (okp := fun k_ => B2 ≤ k_) ?hr ?hp (fun _ hk => hk) (Nat.le_of_eq HS2.out.symm) (Below.refl _ _) (Nat.le_refl _) (by simp) ?_; (case hd => rfl); (case hg => rfl); (case hr => first | (go_simp; done) | (go_simp; rfl)); (case hp => exact Reps.none _ _); intro v8 w8 ho hb hg_ hnew_; obtain ⟨A8, c8, e8⟩ := Kd.R_slice ho; subst e8; have HS := Aside0.mk (Kd.R_lower ho HB.out.size); have HSZ := Aside0.mk (Nat.le_trans (Nat.le_of_eq HS2.out.symm) hb.size); have n0_ := Aside0.mk (IsS50.below HI.out hb); have n1_ := Aside0.mk (Kd.Q_below HA.out hb); have n2_ := Aside0.mk (below_step HB.out hb); clear HI HA HB; have HI := n0_; have HA := n1_; have HB := n2_; clear n0_ n1_ n2_; clear ho hb hg_ hnew_) | ((with_reducible refine gate_callee (f := 16) rfl ?_); (try (refine gate_guard (by rfl) ?_; dsimp only)); refine goesL_ (some 23) rfl rfl Try.func16 (by kernel_rfl) rfl #[.slice A6 ar.length c6, .int .i64 sd] rfl (by (try simp only [List.map_toArray, List.map_cons, List.map_nil]); first | done | rfl) ?_; (with_reducible refine (spec_StarsFirst.calls k A6 c6 ar sd xs _ _ (Kd.Q_reads' HA.out).2.2 (Kd.Q_reads' HA.out).2.1 HO2.out).mono ?_); rintro e wb ⟨v9, rfl, ho, hb⟩; obtain ⟨A9, c9, e9⟩ := Kd.R_slice ho; subst e9; have HX := Aside0.mk (Kd.R_mono (Kd.R_lower (Kd.R_bound ho) HB.out.size) (fun k_ h => (Nat.le_trans HSZ.out h.2.1 : B2 ≤ k_))); have n0_ := Aside0.mk (IsS50.below HI.out hb); have n1_ := Aside0.mk (Kd.Q_below HA.out hb); have n2_ := Aside0.mk (Kd.R_below HS.out hb); have n3_ := Aside0.mk (Nat.le_trans HSZ.out hb.size); have n4_ := Aside0.mk (below_step HB.out hb); clear HI HA HS HSZ HB; have HI := n0_; have HA := n1_; have HS := n2_; have HSZ := n3_; have HB := n4_; clear n0_ n1_ n2_ n3_ n4_; clear ho hb; refine ⟨_, rfl, ?_⟩) | ((with_reducible refine gate_callee (f := 32) rfl ?_); (try (refine gate_guard (by rfl) ?_; dsimp only)); refine goesL_ (some 29) rfl rfl Try.func32 (by kernel_rfl) rfl #[.pointer (some ⟨g, 0, none⟩), .int .i64 2] rfl (by (try simp only [List.map_toArray, List.map_cons, List.map_nil]); first | done | rfl) ?_; (with_reducible refine (spec_l20Rd_pick.calls k g b p1 2 _ p2 w _ HI.out HB.out HO3.out).mono ?_); rintro e wb ⟨rfl, hi, hb, hk⟩; have n0_ := Aside0.mk (Kd.Q_mono (Kd.Q_keep (IsS50.apartQ HI.out HA.out (by simp [Kd.int, Kd.scalar])) hk (fun _ h => h.2)) (fun _ h => h.1)); have n1_ := Aside0.mk (Kd.R_mono (Kd.R_keep (IsS50.apart HI.out HS.out (by simp [Kd.int, Kd.scalar])) hk (fun _ h => h.2)) (fun _ h => h.1)); have n2_ := Aside0.mk (Kd.R_mono (Kd.R_keep (IsS50.apart HI.out HX.out (by simp [Kd.int, Kd.scalar])) hk (fun _ h => h.2)) (fun _ h => h.1)); have n3_ := Aside0.mk (Nat.le_trans HSZ.out hk.1); have n4_ := Aside0.mk (hi); have n5_ := Aside0.mk (hb); clear HA HS HX HSZ HI HB; have HA := n0_; have HS := n1_; have HX := n2_; have HSZ := n3_; have HI := n4_; have HB := n5_; clear n0_ n1_ n2_ n3_ n4_ n5_; clear hi hb hk; refine ⟨_, rfl, ?_⟩) | ((with_reducible refine gate_callee (f := 32) rfl ?_); (try (refine gate_guard (by rfl) ?_; dsimp only)); refine goesL_ (some 40) rfl rfl Try.func32 (by kernel_rfl) rfl #[.pointer (some ⟨g, 0, none⟩), .int .i64 3] rfl (by (try simp only [List.map_toArray, List.map_cons, List.map_nil]); first | done | rfl) ?_; (with_reducible refine (spec_l20Rd_pick.calls k g b p2 3 n0 pn w _ HI.out HB.out HP.out).mono ?_); rintro e wb ⟨rfl, hi, hb, hk⟩; have n0_ := Aside0.mk (Kd.Q_mono (Kd.Q_keep (IsS50.apartQ HI.out HA.out (by simp [Kd.int, Kd.scalar])) hk (fun _ h => h.2)) (fun _ h => h.1)); have n1_ := Aside0.mk (Kd.R_mono (Kd.R_keep (IsS50.apart HI.out HS.out (by simp [Kd.int, Kd.scalar])) hk (fun _ h => h.2)) (fun _ h => h.1)); have n2_ := Aside0.mk (Nat.le_trans HSZ.out hk.1); have n3_ := Aside0.mk (hi); have n4_ := Aside0.mk (hb); clear HA HS HSZ HI HB; have HA := n0_; have HS := n1_; have HSZ := n2_; have HI := n3_; have HB := n4_; clear n0_ n1_ n2_ n3_ n4_; clear hi hb hk; refine ⟨_, rfl, ?_⟩))
      go_loopg [8, 11] k (fun kq v8 v11 w' => ∃ (y : List Int) (n p : Int), v11 = .int .i64 n ∧ Aside0 (spec_DrawStarsFit.l0 kq b ar sd y n p = some (r1, r2, r3)) ∧ Aside0 (kq ≤ k) ∧ Aside0 (Kd.R (Kd.int .i64) 3 w' w.heap.size (fun k_ => B2 ≤ k_) v8 y) ∧ Aside0 (Kd.Q (Kd.int .i64) 3 w' w.heap.size (fun k_ => k_ < B2) (.slice A6 ar.length c6) ar) ∧ Aside0 (IsS50 w w' g b p) ∧ Aside0 (Below w.heap.size w w') ∧ Aside0 (B2 ≤ w'.heap.size))
      case atStart => exact ⟨_, _, _, rfl, HH, ⟨Nat.le_refl _⟩, HS, HA, HI, HB, HSZ⟩
      case round =>
        clear HH HS HA HI HB HSZ
        obtain ⟨y, n, p, rfl, HH, HK, HS, HA, HI, HB, HSZ⟩ := hrel
        cases gk with
        | zero => exact absurd HH.out (by simp [spec_DrawStarsFit.l0])
        | succ k1 =>
          have H := HH.out
          clear HH
          rw [spec_DrawStarsFit.l0] at H
          by_cases c5 : n > 0
          · rw [if_pos c5] at H
            have c5b0 : decide (0 < n) = true := decide_eq_true c5
            clear c5
            by_cases c6 : y.length < 4398046511104
            · rw [if_pos c6] at H
              have LM := Aside0.mk c6
              clear c6
              obtain ⟨⟨u, q1⟩, Hu, H⟩ := Option.bind_eq_some_iff.mp H
              obtain ⟨⟨v, q2⟩, Hv, H⟩ := Option.bind_eq_some_iff.mp H
              obtain ⟨m1, hm1⟩ : ∃ m, mx 1 sd = m := ⟨_, rfl⟩
              obtain ⟨m2, hm2⟩ : ∃ m, wrap64 (m1 + 1) = m := ⟨_, rfl⟩
              obtain ⟨s1, hs1⟩ : ∃ m, wrap64 (Int.tdiv v 8) = m := ⟨_, rfl⟩
              obtain ⟨s2, hs2⟩ : ∃ m, wrap64 (u - s1) = m := ⟨_, rfl⟩
              rw [hm1, hm2] at Hu
              replace H : spec_DrawStarsFit.l0 k1 b ar sd (y ++ [wrap64 (u - wrap64 (Int.tdiv v 8))]) (wrap64 (n - 1)) q2 = some (r1, r2, r3) := H
              rw [hs1, hs2] at H
              obtain ⟨y2, hy2⟩ : ∃ y_ : List Int, y_ = y ++ [s2] := ⟨_, rfl⟩
              rw [← hy2] at H
              have Ny := Aside0.mk hy2
              have HU := Aside0.mk Hu
              have HV := Aside0.mk Hv
              have HH := Aside0.mk H
              clear H Hu Hv hy2
              obtain ⟨A8', c8', e8'⟩ := Kd.R_slice HS.out
              subst e8'
              by_cases n12 : 1 < sd
              · have e3 : m1 = sd := by rw [← hm1]; unfold mx; rw [if_pos n12]
                subst e3
                have z1 : (m1 ≤ 1) = False := eq_false (by omega)
                have z2 : (1 < m1) = True := eq_true n12
                have z3 : decide (1 < m1) = true := decide_eq_true n12
                subst hm2
                clear hm1 n12
                go_wp2_with (first | ((with_reducible refine gate_dst (N := 45) rfl ?_); refine Kd.R_lit (Kd.int .i64) (w0 := w) w.heap.size 3 ?hg (N := 45) ?hd (xs := ([] : List Int)) (inner := []) (ok := fun k_ => B2 ≤ k_) (okp := fun k_ => B2 ≤ k_) ?hr ?hp (fun _ hk => hk) HSZ.out HB.out HB.out.size (by simp) ?_; (case hd => rfl); (case hg => rfl); (case hr => first | (go_simp; done) | (go_simp; rfl)); (case hp => exact Reps.none _ _); intro v45 w45 ho hb hg_ hnew_; have H45 := Aside0.mk ho; have HN := Aside0.mk hnew_; have n0_ := Aside0.mk (IsS50.grown HI.out hg_ (by simp)); have n1_ := Aside0.mk (Kd.Q_grown HA.out hg_ (by simp)); have n2_ := Aside0.mk (Kd.R_grown HS.out hg_ (by simp)); have n3_ := Aside0.mk (Nat.le_trans HSZ.out hg_.size); have n4_ := Aside0.mk (hb); clear HI HA HS HSZ HB; have HI := n0_; have HA := n1_; have HS := n2_; have HSZ := n3_; have HB := n4_; clear n0_ n1_ n2_ n3_ n4_; clear ho hb hg_ hnew_) | ((with_reducible refine gate_builtin (b := .append) (xs := #[.tmp 45, .tmp 46]) rfl ?_); at_builtin; refine Kd.R_append_rows (Kd.int .i64) (w0 := w) w.heap.size rfl (.tmp 45) (.tmp 46) 22 3 (.int .i64 0) 8 rfl Try.underlying22 hi3 rfl (by decide) (by omega) v45 [] y _ _ _ (fun k_ => B2 ≤ k_) (fun _ => False) rfl rfl ?aO ?aR (fun _ _ h => h) (fun _ h => h.elim) ?aF ?aB ?aS ?aL ?_; (case aR => exact (Kd.R_reads' HS.out).2.2); (case aB => exact HB.out); (case aF => exact fun k_ hk_ => Nat.le_trans HSZ.out hk_); (case aO => exact H45.out); (case aS => exact HB.out.size); (case aL => have := LM.out; simp; omega); intro v47 w47 ho hb hg hat; rw [List.nil_append] at ho; have H47 := Aside0.mk ho; have n0_ := Aside0.mk (IsS50.grown HI.out hg (IsS50.own_ne HI.out H45.out (by decide))); have n1_ := Aside0.mk (Kd.Q_grown HA.out hg (fun k_ hk_ e_ => by have h_ := H45.out.1 k_ e_.symm; omega)); have n2_ := Aside0.mk (Nat.le_trans HSZ.out hg.size); have n3_ := Aside0.mk (hb); clear HI HA HSZ HB; have HI := n0_; have HA := n1_; have HSZ := n2_; have HB := n3_; clear n0_ n1_ n2_ n3_; clear HS H45 HN; clear ho hb hg hat) | ((with_reducible refine gate_callee (f := 32) rfl ?_); (try (refine gate_guard (by rfl) ?_; dsimp only)); refine goesL_ (some 52) rfl rfl Try.func32 (by kernel_rfl) rfl #[.pointer (some ⟨g, 0, none⟩), .int .i64 (wrap64 (m1 + 1))] rfl (by (try simp only [List.map_toArray, List.map_cons, List.map_nil]); first | done | rfl) ?_; (with_reducible refine (spec_l20Rd_pick.calls k1 g b p (wrap64 (m1 + 1)) u q1 w _ HI.out HB.out HU.out).mono ?_); rintro e wb ⟨rfl, hi, hb, hk⟩; have n0_ := Aside0.mk (Kd.Q_mono (Kd.Q_keep (IsS50.apartQ HI.out HA.out (by simp [Kd.int, Kd.scalar])) hk (fun _ h => h.2)) (fun _ h => h.1)); have n1_ := Aside0.mk (Kd.R_mono (Kd.R_keep (IsS50.apart HI.out H47.out (by simp [Kd.int, Kd.scalar])) hk (fun _ h => h.2)) (fun _ h => h.1)); have n2_ := Aside0.mk (Nat.le_trans HSZ.out hk.1); have n3_ := Aside0.mk (hi); have n4_ := Aside0.mk (hb); clear HA H47 HSZ HI HB; have HA := n0_; have H47 := n1_; have HSZ := n2_; have HI := n3_; have HB := n4_; clear n0_ n1_ n2_ n3_ n4_; clear hi hb hk; refine ⟨_, rfl, ?_⟩) | ((with_reducible refine gate_callee (f := 32) rfl ?_); (try (refine gate_guard (by rfl) ?_; dsimp only)); refine goesL_ (some 54) rfl rfl Try.func32 (by kernel_rfl) rfl #[.pointer (some ⟨g, 0, none⟩), .int .i64 9] rfl (by (try simp only [List.map_toArray, List.map_cons, List.map_nil]); first | done | rfl) ?_; (with_reducible refine (spec_l20Rd_pick.calls k1 g b q1 9 v q2 w _ HI.out HB.out HV.out).mono ?_); rintro e wb ⟨rfl, hi, hb, hk⟩; have n0_ := Aside0.mk (Kd.Q_mono (Kd.Q_keep (IsS50.apartQ HI.out HA.out (by simp [Kd.int, Kd.scalar])) hk (fun _ h => h.2)) (fun _ h => h.1)); have n1_ := Aside0.mk (Kd.R_mono (Kd.R_keep (IsS50.apart HI.out H47.out (by simp [Kd.int, Kd.scalar])) hk (fun _ h => h.2)) (fun _ h => h.1)); have n2_ := Aside0.mk (Nat.le_trans HSZ.out hk.1); have n3_ := Aside0.mk (hi); have n4_ := Aside0.mk (hb); clear HA H47 HSZ HI HB; have HA := n0_; have H47 := n1_; have HSZ := n2_; have HI := n3_; have HB := n4_; clear n0_ n1_ n2_ n3_ n4_; clear hi hb hk; refine ⟨_, rfl, ?_⟩) | ((with_reducible refine gate_builtin (b := .append) (xs := #[.tmp 47, .tmp 57]) rfl ?_); at_builtin; refine Kd.R_append (Kd.int .i64) (w0 := w) w.heap.size rfl (.tmp 47) (.tmp 57) 22 3 (.int .i64 0) 8 rfl Try.underlying22 hi3 rfl (by decide) (by omega) v47 y s2 [.int .i64 s2] (fun k_ => B2 ≤ k_) (fun _ => False) rfl rfl ?aP (fun _ hk => hk.elim) ?aF ?aO ?aB ?aS ?aL ?_; (case aP => exact rfl); (case aB => exact HB.out); (case aF => exact fun k_ hk_ => Nat.le_trans HSZ.out hk_); (case aO => exact H47.out); (case aS => exact HB.out.size); (case aL => have := LM.out; omega); intro v58 w58 ho hb hg hat; rw [← Ny.out] at ho; have HS3 := Aside0.mk ho; have n0_ := Aside0.mk (IsS50.grown HI.out hg (IsS50.own_ne HI.out H47.out (by decide))); have n1_ := Aside0.mk (Kd.Q_grown HA.out hg (fun k_ hk_ e_ => by have h_ := H47.out.1 k_ e_.symm; omega)); have n2_ := Aside0.mk (Nat.le_trans HSZ.out hg.size); have n3_ := Aside0.mk (hb); clear HI HA HSZ HB; have HI := n0_; have HA := n1_; have HSZ := n2_; have HB := n3_; clear n0_ n1_ n2_ n3_; clear H47 ho hb hg hat))
                go_roundg k1
                case measure => have := HK.out; omega
                case rel => exact ⟨y2, wrap64 (n - 1), q2, by first | rfl | (simp; done) | (simp [*]; done), HH, ⟨by have := HK.out; omega⟩, HS3, HA, HI, HB, HSZ⟩
              · have e3 : m1 = 1 := by rw [← hm1]; unfold mx; rw [if_neg n12]
                subst e3
                have e4 : m2 = 2 := by rw [← hm2]; decide +kernel
                subst e4
                have z1 : (sd ≤ 1) = True := eq_true (by omega)
                have z2 : (1 < sd) = False := eq_false n12
                have z3 : decide (1 < sd) = false := decide_eq_false n12
                clear hm1 n12 hm2
                go_wp2_with (first | ((with_reducible refine gate_dst (N := 45) rfl ?_); refine Kd.R_lit (Kd.int .i64) (w0 := w) w.heap.size 3 ?hg (N := 45) ?hd (xs := ([] : List Int)) (inner := []) (ok := fun k_ => B2 ≤ k_) (okp := fun k_ => B2 ≤ k_) ?hr ?hp (fun _ hk => hk) HSZ.out HB.out HB.out.size (by simp) ?_; (case hd => rfl); (case hg => rfl); (case hr => first | (go_simp; done) | (go_simp; rfl)); (case hp => exact Reps.none _ _); intro v45 w45 ho hb hg_ hnew_; have H45 := Aside0.mk ho; have HN := Aside0.mk hnew_; have n0_ := Aside0.mk (IsS50.grown HI.out hg_ (by simp)); have n1_ := Aside0.mk (Kd.Q_grown HA.out hg_ (by simp)); have n2_ := Aside0.mk (Kd.R_grown HS.out hg_ (by simp)); have n3_ := Aside0.mk (Nat.le_trans HSZ.out hg_.size); have n4_ := Aside0.mk (hb); clear HI HA HS HSZ HB; have HI := n0_; have HA := n1_; have HS := n2_; have HSZ := n3_; have HB := n4_; clear n0_ n1_ n2_ n3_ n4_; clear ho hb hg_ hnew_) | ((with_reducible refine gate_builtin (b := .append) (xs := #[.tmp 45, .tmp 46]) rfl ?_); at_builtin; refine Kd.R_append_rows (Kd.int .i64) (w0 := w) w.heap.size rfl (.tmp 45) (.tmp 46) 22 3 (.int .i64 0) 8 rfl Try.underlying22 hi3 rfl (by decide) (by omega) v45 [] y _ _ _ (fun k_ => B2 ≤ k_) (fun _ => False) rfl rfl ?aO ?aR (fun _ _ h => h) (fun _ h => h.elim) ?aF ?aB ?aS ?aL ?_; (case aR => exact (Kd.R_reads' HS.out).2.2); (case aB => exact HB.out); (case aF => exact fun k_ hk_ => Nat.le_trans HSZ.out hk_); (case aO => exact H45.out); (case aS => exact HB.out.size); (case aL => have := LM.out; simp; omega); intro v47 w47 ho hb hg hat; rw [List.nil_append] at ho; have H47 := Aside0.mk ho; have n0_ := Aside0.mk (IsS50.grown HI.out hg (IsS50.own_ne HI.out H45.out (by decide))); have n1_ := Aside0.mk (Kd.Q_grown HA.out hg (fun k_ hk_ e_ => by have h_ := H45.out.1 k_ e_.symm; omega)); have n2_ := Aside0.mk (Nat.le_trans HSZ.out hg.size); have n3_ := Aside0.mk (hb); clear HI HA HSZ HB; have HI := n0_; have HA := n1_; have HSZ := n2_; have HB := n3_; clear n0_ n1_ n2_ n3_; clear HS H45 HN; clear ho hb hg hat) | ((with_reducible refine gate_callee (f := 32) rfl ?_); (try (refine gate_guard (by rfl) ?_; dsimp only)); refine goesL_ (some 52) rfl rfl Try.func32 (by kernel_rfl) rfl #[.pointer (some ⟨g, 0, none⟩), .int .i64 2] rfl (by (try simp only [List.map_toArray, List.map_cons, List.map_nil]); first | done | rfl) ?_; (with_reducible refine (spec_l20Rd_pick.calls k1 g b p 2 u q1 w _ HI.out HB.out HU.out).mono ?_); rintro e wb ⟨rfl, hi, hb, hk⟩; have n0_ := Aside0.mk (Kd.Q_mono (Kd.Q_keep (IsS50.apartQ HI.out HA.out (by simp [Kd.int, Kd.scalar])) hk (fun _ h => h.2)) (fun _ h => h.1)); have n1_ := Aside0.mk (Kd.R_mono (Kd.R_keep (IsS50.apart HI.out H47.out (by simp [Kd.int, Kd.scalar])) hk (fun _ h => h.2)) (fun _ h => h.1)); have n2_ := Aside0.mk (Nat.le_trans HSZ.out hk.1); have n3_ := Aside0.mk (hi); have n4_ := Aside0.mk (hb); clear HA H47 HSZ HI HB; have HA := n0_; have H47 := n1_; have HSZ := n2_; have HI := n3_; have HB := n4_; clear n0_ n1_ n2_ n3_ n4_; clear hi hb hk; refine ⟨_, rfl, ?_⟩) | ((with_reducible refine gate_callee (f := 32) rfl ?_); (try (refine gate_guard (by rfl) ?_; dsimp only)); refine goesL_ (some 54) rfl rfl Try.func32 (by kernel_rfl) rfl #[.pointer (some ⟨g, 0, none⟩), .int .i64 9] rfl (by (try simp only [List.map_toArray, List.map_cons, List.map_nil]); first | done | rfl) ?_; (with_reducible refine (spec_l20Rd_pick.calls k1 g b q1 9 v q2 w _ HI.out HB.out HV.out).mono ?_); rintro e wb ⟨rfl, hi, hb, hk⟩; have n0_ := Aside0.mk (Kd.Q_mono (Kd.Q_keep (IsS50.apartQ HI.out HA.out (by simp [Kd.int, Kd.scalar])) hk (fun _ h => h.2)) (fun _ h => h.1)); have n1_ := Aside0.mk (Kd.R_mono (Kd.R_keep (IsS50.apart HI.out H47.out (by simp [Kd.int, Kd.scalar])) hk (fun _ h => h.2)) (fun _ h => h.1)); have n2_ := Aside0.mk (Nat.le_trans HSZ.out hk.1); have n3_ := Aside0.mk (hi); have n4_ := Aside0.mk (hb); clear HA H47 HSZ HI HB; have HA := n0_; have H47 := n1_; have HSZ := n2_; have HI := n3_; have HB := n4_; clear n0_ n1_ n2_ n3_ n4_; clear hi hb hk; refine ⟨_, rfl, ?_⟩) | ((with_reducible refine gate_builtin (b := .append) (xs := #[.tmp 47, .tmp 57]) rfl ?_); at_builtin; refine Kd.R_append (Kd.int .i64) (w0 := w) w.heap.size rfl (.tmp 47) (.tmp 57) 22 3 (.int .i64 0) 8 rfl Try.underlying22 hi3 rfl (by decide) (by omega) v47 y s2 [.int .i64 s2] (fun k_ => B2 ≤ k_) (fun _ => False) rfl rfl ?aP (fun _ hk => hk.elim) ?aF ?aO ?aB ?aS ?aL ?_; (case aP => exact rfl); (case aB => exact HB.out); (case aF => exact fun k_ hk_ => Nat.le_trans HSZ.out hk_); (case aO => exact H47.out); (case aS => exact HB.out.size); (case aL => have := LM.out; omega); intro v58 w58 ho hb hg hat; rw [← Ny.out] at ho; have HS3 := Aside0.mk ho; have n0_ := Aside0.mk (IsS50.grown HI.out hg (IsS50.own_ne HI.out H47.out (by decide))); have n1_ := Aside0.mk (Kd.Q_grown HA.out hg (fun k_ hk_ e_ => by have h_ := H47.out.1 k_ e_.symm; omega)); have n2_ := Aside0.mk (Nat.le_trans HSZ.out hg.size); have n3_ := Aside0.mk (hb); clear HI HA HSZ HB; have HI := n0_; have HA := n1_; have HSZ := n2_; have HB := n3_; clear n0_ n1_ n2_ n3_; clear H47 ho hb hg hat))
                go_roundg k1
                case measure => have := HK.out; omega
                case rel => exact ⟨y2, wrap64 (n - 1), q2, by first | rfl | (simp; done) | (simp [*]; done), HH, ⟨by have := HK.out; omega⟩, HS3, HA, HI, HB, HSZ⟩
            · rw [if_neg c6] at H
              exact absurd H (by simp)
          · rw [if_neg c5] at H
            have c5b0 : decide (0 < n) = false := decide_eq_false c5
            clear c5
            have e0 := Option.some.inj H
            simp only [Prod.mk.injEq] at e0
            obtain ⟨rfl, rfl, rfl⟩ := e0
            obtain ⟨A8', c8', e8'⟩ := Kd.R_slice HS.out
            subst e8'
            go_wp2_with fail
            go_ret3
            exact ⟨_, _, rfl, Kd.Q_mono HA.out (fun k_ hk_ e_ => by have h_ := HS.out.1 k_ e_.symm; omega), Kd.R_mono HS.out (fun k_ hk_ e_ => by have h_ := HA.out.1 k_ e_.symm; omega), HB.out⟩

/-! ### impl_sizeOk: function 39 -/
def impl_sizeOk.f (a0 : Int) : Option (Bool) := if a0 ≥ 2 then (some (decide (a0 ≤ 4))) else (some false)
set_option maxHeartbeats 8000000 in
set_option maxRecDepth 100000 in
theorem impl_sizeOk.calls (a0 : Int) (r : Bool) (w : World) (h : impl_sizeOk.f a0 = some r) :
    Calls Try.prog 39 #[.int .i64 a0] w fun e w' => e = .returned (.bool r) ∧ Drawn0 w w' := by
  have H : (if a0 ≥ 2 then (some (decide (a0 ≤ 4))) else (some false)) = some r := h
  clear h
  by_cases c2 : a0 ≥ 2
  · rw [if_pos c2] at H
    have c2b0 : decide (2 ≤ a0) = true := decide_eq_true c2
    clear c2
    obtain rfl := Option.some.inj H
    go_enter Try.func39, Try.ntmps39
    go_wp2
    go_ret
    exact ⟨by first | rfl | (simp; done) | (simp [*]; done), by repeat (first | exact Drawn0.refl _ | apply Drawn0.step)⟩
  · rw [if_neg c2] at H
    have c2b0 : decide (2 ≤ a0) = false := decide_eq_false c2
    clear c2
    obtain rfl := Option.some.inj H
    go_enter Try.func39, Try.ntmps39
    go_wp2
    go_ret
    exact ⟨by first | rfl | (simp; done) | (simp [*]; done), by repeat (first | exact Drawn0.refl _ | apply Drawn0.step)⟩

/-! ### impl_GridValid: function 38 -/
mutual
def impl_GridValid.j0 : Nat → List Int → Int → Bool → Option (Bool)
  | 0, _, _, _ => none
  | k + 1, x0, x1, x17 => if x17 = true then (some false) else (impl_GridValid.l0 k x1 x0 (x0.length : Int) 0)
def impl_GridValid.l0 : Nat → Int → List Int → Int → Int → Option (Bool)
  | 0, _, _, _, _ => none
  | k + 1, x1, x18, x19, x20 => if x20 < x19 then (if 0 ≤ x20 then (if x20 < (x18.length : Int) then (if (rd x18 x20) < 0 then (some false) else (if (rd x18 x20) > x1 then (some false) else (impl_GridValid.l0 k x1 x18 x19 (wrap64 (x20 + 1))))) else (none)) else (none)) else (some true)
end
def impl_GridValid.f (k : Nat) (l0 : List Int) (a1 : Int) : Option (Bool) := (impl_sizeOk.f a1).bind fun t179 => (if t179 = true then (impl_GridValid.j0 k l0 a1 ((l0.length : Int) != (wrap64 (a1 * a1)))) else (impl_GridValid.j0 k l0 a1 true))
theorem impl_GridValid.mono_l : ∀ k, (∀ y0 y1 y2, LeO (impl_GridValid.j0 k y0 y1 y2) (impl_GridValid.j0 (k + 1) y0 y1 y2)) ∧ (∀ y0 y1 y2 y3, LeO (impl_GridValid.l0 k y0 y1 y2 y3) (impl_GridValid.l0 (k + 1) y0 y1 y2 y3))
  | 0 => ⟨fun _ _ _ r h => by simp [impl_GridValid.j0] at h, fun _ _ _ _ r h => by simp [impl_GridValid.l0] at h⟩
  | k + 1 => by
    obtain ⟨ih0, ih1⟩ := impl_GridValid.mono_l k
    refine ⟨?_, ?_⟩
    · intro y0 y1 y2
      unfold impl_GridValid.j0
      repeat' first
      | (with_reducible exact ih0 _ _ _)
      | (with_reducible exact ih1 _ _ _ _)
      | (with_reducible exact LeO.refl _)
      | (with_reducible exact LeO.none _)
      | (with_reducible refine LeO.ite ?_ ?_)
      | (with_reducible refine LeO.bind ?_ (fun _ => ?_))
      | exact ih0 _ _ _
      | exact ih1 _ _ _ _
      | exact LeO.none _
      | refine LeO.ite ?_ ?_
      | refine LeO.bind ?_ (fun _ => ?_)
    · intro y0 y1 y2 y3
      unfold impl_GridValid.l0
      repeat' first
      | (with_reducible exact ih0 _ _ _)
      | (with_reducible exact ih1 _ _ _ _)
      | (with_reducible exact LeO.refl _)
      | (with_reducible exact LeO.none _)
      | (with_reducible refine LeO.ite ?_ ?_)
      | (with_reducible refine LeO.bind ?_ (fun _ => ?_))
      | exact ih0 _ _ _
      | exact ih1 _ _ _ _
      | exact LeO.none _
      | refine LeO.ite ?_ ?_
      | refine LeO.bind ?_ (fun _ => ?_)
theorem impl_GridValid.mono : ∀ a0 a1 k, LeO (impl_GridValid.f k a0 a1) (impl_GridValid.f (k + 1) a0 a1) := by
  intro a0 a1 k
  obtain ⟨ih0, ih1⟩ := impl_GridValid.mono_l k
  unfold impl_GridValid.f
  repeat' first
      | (with_reducible exact ih0 _ _ _)
      | (with_reducible exact ih1 _ _ _ _)
      | (with_reducible exact LeO.refl _)
      | (with_reducible exact LeO.none _)
      | (with_reducible refine LeO.ite ?_ ?_)
      | (with_reducible refine LeO.bind ?_ (fun _ => ?_))
      | exact ih0 _ _ _
      | exact ih1 _ _ _ _
      | exact LeO.none _
      | refine LeO.ite ?_ ?_
      | refine LeO.bind ?_ (fun _ => ?_)
set_option maxHeartbeats 8000000 in
set_option maxRecDepth 100000 in
theorem impl_GridValid.calls (k : Nat) (A0 : Option Addr) (c0 : Nat) (l0 : List Int) (a1 : Int) (r : Bool) (w : World) (hr0 : Kd.C (Kd.int .i64) w A0 l0.length l0) (hc0 : l0.length ≤ c0) (h : impl_GridValid.f k l0 a1 = some r) :
    Calls Try.prog 38 #[.slice A0 l0.length c0, .int .i64 a1] w fun e w' => e = .returned (.bool r) ∧ Drawn0 w w' := by
  have HR0 := Aside0.mk hr0
  have HC0 := Aside0.mk hc0
  clear hr0 hc0
  have H : ((impl_sizeOk.f a1).bind fun t179 => (if t179 = true then (impl_GridValid.j0 k l0 a1 ((l0.length : Int) != (wrap64 (a1 * a1)))) else (impl_GridValid.j0 k l0 a1 true))) = some r := h
  clear h
  have HC3 := Aside0.mk H
  clear H
  go_enter Try.func38, Try.ntmps38
  go_upto_region 1 with (fail)
  go_cut [17] (fun v17 wc => ∃ (kq : Nat) (x17_2 : Bool), v17 = .bool x17_2 ∧ Aside0 (impl_GridValid.j0 kq l0 a1 x17_2 = some r) ∧ Aside0 (kq ≤ k) ∧ Drawn0 w wc)
  case first =>
    have H := HC3.out
    clear HC3
    replace H := Option.bind_eq_some_iff.mp H
    obtain ⟨t179, A40, H⟩ := H
    replace H : (if t179 = true then (impl_GridValid.j0 k l0 a1 ((l0.length : Int) != (wrap64 (a1 * a1)))) else (impl_GridValid.j0 k l0 a1 true)) = some r := H
    have A4 := Aside0.mk A40
    clear A40
    by_cases c5 : t179 = true
    · subst c5
      have H1 : (impl_GridValid.j0 k l0 a1 ((l0.length : Int) != (wrap64 (a1 * a1)))) = some r := by rw [if_pos rfl] at H; exact H
      clear H
      have H := H1
      clear H1
      have H' := Aside0.mk H
      clear H
      go_wp2_with (first | ((with_reducible refine gate_callee (f := 39) rfl ?_); refine goesL_ (some 8) rfl rfl Try.func39 (by kernel_rfl) rfl #[.int .i64 a1] rfl (by (try simp only [List.map_toArray, List.map_cons, List.map_nil]); first | done | rfl | (simp only [List.length_drop, List.length_take]; rfl)) ?_; (with_reducible refine (impl_sizeOk.calls a1 true _ A4.out).mono ?_); rintro e w' ⟨rfl, ⟨nd, rfl⟩⟩; refine ⟨_, rfl, ?_⟩))
      go_meet
      case rel => exact ⟨_, (((l0.length : Int) != (wrap64 (a1 * a1)))), (by first | rfl | (simp; done) | (simp [*]; done)), H', ⟨by first | omega | exact Nat.le_refl _⟩, by repeat (first | exact Drawn0.refl _ | apply Drawn0.step)⟩
    · replace c5 := Bool.eq_false_iff.mpr c5
      subst c5
      have H1 : (impl_GridValid.j0 k l0 a1 true) = some r := by rw [if_neg (show ¬ (false = true) by decide)] at H; exact H
      clear H
      have H := H1
      clear H1
      have H' := Aside0.mk H
      clear H
      go_wp2_with (first | ((with_reducible refine gate_callee (f := 39) rfl ?_); refine goesL_ (some 8) rfl rfl Try.func39 (by kernel_rfl) rfl #[.int .i64 a1] rfl (by (try simp only [List.map_toArray, List.map_cons, List.map_nil]); first | done | rfl | (simp only [List.length_drop, List.length_take]; rfl)) ?_; (with_reducible refine (impl_sizeOk.calls a1 false _ A4.out).mono ?_); rintro e w' ⟨rfl, ⟨nd, rfl⟩⟩; refine ⟨_, rfl, ?_⟩))
      go_meet
      case rel => exact ⟨_, (true), (by first | rfl | (simp; done) | (simp [*]; done)), H', ⟨by first | omega | exact Nat.le_refl _⟩, by repeat (first | exact Drawn0.refl _ | apply Drawn0.step)⟩
  case rest =>
    clear HC3
    try clear p2
    try clear c3
    try clear c5
    obtain ⟨kq, x17_2, rfl, HA, HJ2, ⟨mc2, rfl⟩⟩ := hcut
    cases kq with
    | zero => exact absurd HA.out (by simp [impl_GridValid.j0])
    | succ kj2 =>
      have H := HA.out
      clear HA
      simp only [impl_GridValid.j0] at H
      by_cases c6 : x17_2 = true
      · subst c6
        have H1 : (some false) = some r := by rw [if_pos rfl] at H; exact H
        clear H
        have H := H1
        clear H1
        obtain rfl := Option.some.inj H
        go_wp2
        go_ret
        exact ⟨by first | rfl | (simp; done) | (simp [*]; done), by repeat (first | exact Drawn0.refl _ | apply Drawn0.step)⟩
      · replace c6 := Bool.eq_false_iff.mpr c6
        subst c6
        have H1 : (impl_GridValid.l0 kj2 a1 l0 (l0.length : Int) 0) = some r := by rw [if_neg (show ¬ (false = true) by decide)] at H; exact H
        clear H
        have H := H1
        clear H1
        have H' := Aside0.mk H
        clear H
        go_wp2
        go_loopg [20] kj2 (fun kq v20 w' => ∃ (x20_2 : Int), v20 = .int .i64 x20_2 ∧ Aside0 (impl_GridValid.l0 kq a1 l0 (l0.length : Int) x20_2 = some r) ∧ Aside0 (kq ≤ kj2) ∧ Drawn0 w w')
        case atStart => exact ⟨(0), (by first | rfl | (simp; done) | (simp [*]; done)), H', ⟨Nat.le_refl _⟩, by repeat (first | exact Drawn0.refl _ | apply Drawn0.step)⟩
        case round =>
          clear H'
          try clear c2
          try clear p2
          try clear c3
          try clear c5
          try clear c6
          try clear p6
          try clear p2
          obtain ⟨x20_2, rfl, HA, HK2, ⟨m2, rfl⟩⟩ := hrel
          cases gk with
          | zero => exact absurd HA.out (by simp [impl_GridValid.l0])
          | succ k2 =>
            have H := HA.out
            clear HA
            simp only [impl_GridValid.l0] at H
            by_cases c7 : x20_2 < (l0.length : Int)
            · rw [if_pos c7] at H
              have c7b0 : decide (x20_2 < (l0.length : Int)) = true := decide_eq_true c7
              clear c7
              by_cases c8 : 0 ≤ x20_2
              · rw [if_pos c8] at H
                have c8b0 : decide (0 ≤ x20_2) = true := decide_eq_true c8
                clear c8
                by_cases c9 : x20_2 < (l0.length : Int)
                · rw [if_pos c9] at H
                  have c9b0 : decide (x20_2 < (l0.length : Int)) = true := decide_eq_true c9
                  clear c9
                  by_cases c10 : (rd l0 x20_2) < 0
                  · rw [if_pos c10] at H
                    have c10b0 : decide ((rd l0 x20_2) < 0) = true := decide_eq_true c10
                    clear c10
                    obtain rfl := Option.some.inj H
                    have p180 : 0 ≤ (x20_2 : Int) := of_decide_eq_true (by first | (with_reducible assumption) | assumption)
                    have q180 : x20_2 < (l0.length : Int) := of_decide_eq_true (by first | (with_reducible assumption) | assumption)
                    obtain ⟨ad180, e180, hx180_0⟩ := Kd.at_int HR0.out x20_2 p180 q180
                    cases e180
                    replace p180 := eq_true p180
                    replace q180 := eq_true q180
                    go_wp2
                    go_ret
                    exact ⟨by first | rfl | (simp; done) | (simp [*]; done), by repeat (first | exact Drawn0.refl _ | apply Drawn0.step)⟩
                  · rw [if_neg c10] at H
                    have c10b0 : decide ((rd l0 x20_2) < 0) = false := decide_eq_false c10
                    clear c10
                    by_cases c11 : (rd l0 x20_2) > a1
                    · rw [if_pos c11] at H
                      have c11b0 : decide (a1 < (rd l0 x20_2)) = true := decide_eq_true c11
                      clear c11
                      obtain rfl := Option.some.inj H
                      have p180 : 0 ≤ (x20_2 : Int) := of_decide_eq_true (by first | (with_reducible assumption) | assumption)
                      have q180 : x20_2 < (l0.length : Int) := of_decide_eq_true (by first | (with_reducible assumption) | assumption)
                      obtain ⟨ad180, e180, hx180_0⟩ := Kd.at_int HR0.out x20_2 p180 q180
                      cases e180
                      replace p180 := eq_true p180
                      replace q180 := eq_true q180
                      go_wp2
                      go_ret
                      exact ⟨by first | rfl | (simp; done) | (simp [*]; done), by repeat (first | exact Drawn0.refl _ | apply Drawn0.step)⟩
                    · rw [if_neg c11] at H
                      have c11b0 : decide (a1 < (rd l0 x20_2)) = false := decide_eq_false c11
                      clear c11
                      have H' := Aside0.mk H
                      clear H
                      have p180 : 0 ≤ (x20_2 : Int) := of_decide_eq_true (by first | (with_reducible assumption) | assumption)
                      have q180 : x20_2 < (l0.length : Int) := of_decide_eq_true (by first | (with_reducible assumption) | assumption)
                      obtain ⟨ad180, e180, hx180_0⟩ := Kd.at_int HR0.out x20_2 p180 q180
                      cases e180
                      replace p180 := eq_true p180
                      replace q180 := eq_true q180
                      go_wp2
                      go_roundg k2
                      case measure => have := HJ2.out; have := HK2.out; omega
                      case rel => exact ⟨(wrap64 (x20_2 + 1)), (by first | rfl | (simp; done) | (simp [*]; done)), H', ⟨by have := HJ2.out; have := HK2.out; omega⟩, by repeat (first | exact Drawn0.refl _ | apply Drawn0.step)⟩
                · rw [if_neg c9] at H
                  exact absurd H (by simp)
              · rw [if_neg c8] at H
                exact absurd H (by simp)
            · rw [if_neg c7] at H
              have c7b0 : decide (x20_2 < (l0.length : Int)) = false := decide_eq_false c7
              clear c7
              obtain rfl := Option.some.inj H
              go_wp2
              go_ret
              exact ⟨by first | rfl | (simp; done) | (simp [*]; done), by repeat (first | exact Drawn0.refl _ | apply Drawn0.step)⟩

/-! ### impl_GridFilled: function 33 -/
def impl_GridFilled.l0 : Nat → Int → List Int → Int → Int → Option (Int)
  | 0, _, _, _, _ => none
  | k + 1, x5, x12, x13, x14 => if x14 < x13 then (if 0 ≤ x14 then (if x14 < (x12.length : Int) then (if (rd x12 x14) > 0 then (impl_GridFilled.l0 k (wrap64 (x5 + 1)) x12 x13 (wrap64 (x14 + 1))) else (impl_GridFilled.l0 k x5 x12 x13 (wrap64 (x14 + 1)))) else (none)) else (none)) else (some x5)
def impl_GridFilled.f (k : Nat) (l0 : List Int) (a1 : Int) : Option (Int) := (impl_GridValid.f k l0 a1).bind fun t181 => (if t181 = true then (impl_GridFilled.l0 k 0 l0 (l0.length : Int) 0) else (some (-1)))
theorem impl_GridFilled.mono_l : ∀ k, (∀ y0 y1 y2 y3, LeO (impl_GridFilled.l0 k y0 y1 y2 y3) (impl_GridFilled.l0 (k + 1) y0 y1 y2 y3))
  | 0 => fun _ _ _ _ r h => by simp [impl_GridFilled.l0] at h
  | k + 1 => by
    have ih0 := impl_GridFilled.mono_l k
    · intro y0 y1 y2 y3
      unfold impl_GridFilled.l0
      repeat' first
      | (with_reducible exact ih0 _ _ _ _)
      | (with_reducible exact impl_GridValid.mono _ _ _)
      | (with_reducible exact LeO.refl _)
      | (with_reducible exact LeO.none _)
      | (with_reducible refine LeO.ite ?_ ?_)
      | (with_reducible refine LeO.bind ?_ (fun _ => ?_))
      | exact ih0 _ _ _ _
      | exact impl_GridValid.mono _ _ _
      | exact LeO.none _
      | refine LeO.ite ?_ ?_
      | refine LeO.bind ?_ (fun _ => ?_)
theorem impl_GridFilled.mono : ∀ a0 a1 k, LeO (impl_GridFilled.f k a0 a1) (impl_GridFilled.f (k + 1) a0 a1) := by
  intro a0 a1 k
  have ih0 := impl_GridFilled.mono_l k
  unfold impl_GridFilled.f
  repeat' first
      | (with_reducible exact ih0 _ _ _ _)
      | (with_reducible exact impl_GridValid.mono _ _ _)
      | (with_reducible exact LeO.refl _)
      | (with_reducible exact LeO.none _)
      | (with_reducible refine LeO.ite ?_ ?_)
      | (with_reducible refine LeO.bind ?_ (fun _ => ?_))
      | exact ih0 _ _ _ _
      | exact impl_GridValid.mono _ _ _
      | exact LeO.none _
      | refine LeO.ite ?_ ?_
      | refine LeO.bind ?_ (fun _ => ?_)
set_option maxHeartbeats 8000000 in
set_option maxRecDepth 100000 in
theorem impl_GridFilled.calls (k : Nat) (A0 : Option Addr) (c0 : Nat) (l0 : List Int) (a1 : Int) (r : Int) (w : World) (hr0 : Kd.C (Kd.int .i64) w A0 l0.length l0) (hc0 : l0.length ≤ c0) (h : impl_GridFilled.f k l0 a1 = some r) :
    Calls Try.prog 33 #[.slice A0 l0.length c0, .int .i64 a1] w fun e w' => e = .returned (.int .i64 r) ∧ Drawn0 w w' := by
  have HR0 := Aside0.mk hr0
  have HC0 := Aside0.mk hc0
  clear hr0 hc0
  have H : ((impl_GridValid.f k l0 a1).bind fun t181 => (if t181 = true then (impl_GridFilled.l0 k 0 l0 (l0.length : Int) 0) else (some (-1)))) = some r := h
  clear h
  replace H := Option.bind_eq_some_iff.mp H
  obtain ⟨t181, A30, H⟩ := H
  replace H : (if t181 = true then (impl_GridFilled.l0 k 0 l0 (l0.length : Int) 0) else (some (-1))) = some r := H
  have A3 := Aside0.mk A30
  clear A30
  by_cases c4 : t181 = true
  · subst c4
    have H1 : (impl_GridFilled.l0 k 0 l0 (l0.length : Int) 0) = some r := by rw [if_pos rfl] at H; exact H
    clear H
    have H := H1
    clear H1
    have H' := Aside0.mk H
    clear H
    go_enter Try.func33, Try.ntmps33
    go_wp2_with (first | ((with_reducible refine gate_callee (f := 38) rfl ?_); refine goesL_ (some 10) rfl rfl Try.func38 (by kernel_rfl) rfl #[.slice A0 l0.length c0, .int .i64 a1] rfl (by (try simp only [List.map_toArray, List.map_cons, List.map_nil]); first | done | rfl | (simp only [List.length_drop, List.length_take]; rfl)) ?_; (with_reducible refine (impl_GridValid.calls k _ _ l0 a1 true _ ?side1 ?side2 A3.out).mono ?_); (case side1 => repeat (first | exact HR0.out | (with_reducible refine Kd.C_alloc ?_ _) | (with_reducible refine Kd.C_drewN ?_ _) | (with_reducible refine Kd.C_drew ?_))); (case side2 => exact HC0.out); rintro e w' ⟨rfl, ⟨nd, rfl⟩⟩; refine ⟨_, rfl, ?_⟩))
    go_loopg [5, 14] k (fun kq v5 v14 w' => ∃ (x5_1 : Int) (x14_1 : Int), v5 = .int .i64 x5_1 ∧ v14 = .int .i64 x14_1 ∧ Aside0 (impl_GridFilled.l0 kq x5_1 l0 (l0.length : Int) x14_1 = some r) ∧ Aside0 (kq ≤ k) ∧ Drawn0 w w')
    case atStart => exact ⟨(0), (0), (by first | rfl | (simp; done) | (simp [*]; done)), (by first | rfl | (simp; done) | (simp [*]; done)), H', ⟨Nat.le_refl _⟩, by repeat (first | exact Drawn0.refl _ | apply Drawn0.step)⟩
    case round =>
      clear H'
      try clear p2
      try clear c3
      try clear c4
      obtain ⟨x5_1, x14_1, rfl, rfl, HA, HK1, ⟨m1, rfl⟩⟩ := hrel
      cases gk with
      | zero => exact absurd HA.out (by simp [impl_GridFilled.l0])
      | succ k1 =>
        have H := HA.out
        clear HA
        simp only [impl_GridFilled.l0] at H
        by_cases c5 : x14_1 < (l0.length : Int)
        · rw [if_pos c5] at H
          have c5b0 : decide (x14_1 < (l0.length : Int)) = true := decide_eq_true c5
          clear c5
          by_cases c6 : 0 ≤ x14_1
          · rw [if_pos c6] at H
            have c6b0 : decide (0 ≤ x14_1) = true := decide_eq_true c6
            clear c6
            by_cases c7 : x14_1 < (l0.length : Int)
            · rw [if_pos c7] at H
              have c7b0 : decide (x14_1 < (l0.length : Int)) = true := decide_eq_true c7
              clear c7
              by_cases c8 : (rd l0 x14_1) > 0
              · rw [if_pos c8] at H
                have c8b0 : decide (0 < (rd l0 x14_1)) = true := decide_eq_true c8
                clear c8
                have H' := Aside0.mk H
                clear H
                have p182 : 0 ≤ (x14_1 : Int) := of_decide_eq_true (by first | (with_reducible assumption) | assumption)
                have q182 : x14_1 < (l0.length : Int) := of_decide_eq_true (by first | (with_reducible assumption) | assumption)
                obtain ⟨ad182, e182, hx182_0⟩ := Kd.at_int HR0.out x14_1 p182 q182
                cases e182
                replace p182 := eq_true p182
                replace q182 := eq_true q182
                go_wp2
                go_roundg k1
                case measure => have := HK1.out; omega
                case rel => exact ⟨(wrap64 (x5_1 + 1)), (wrap64 (x14_1 + 1)), (by first | rfl | (simp; done) | (simp [*]; done)), (by first | rfl | (simp; done) | (simp [*]; done)), H', ⟨by have := HK1.out; omega⟩, by repeat (first | exact Drawn0.refl _ | apply Drawn0.step)⟩
              · rw [if_neg c8] at H
                have c8b0 : decide (0 < (rd l0 x14_1)) = false := decide_eq_false c8
                clear c8
                have H' := Aside0.mk H
                clear H
                have p182 : 0 ≤ (x14_1 : Int) := of_decide_eq_true (by first | (with_reducible assumption) | assumption)
                have q182 : x14_1 < (l0.length : Int) := of_decide_eq_true (by first | (with_reducible assumption) | assumption)
                obtain ⟨ad182, e182, hx182_0⟩ := Kd.at_int HR0.out x14_1 p182 q182
                cases e182
                replace p182 := eq_true p182
                replace q182 := eq_true q182
                go_wp2
                go_roundg k1
                case measure => have := HK1.out; omega
                case rel => exact ⟨(x5_1), (wrap64 (x14_1 + 1)), (by first | rfl | (simp; done) | (simp [*]; done)), (by first | rfl | (simp; done) | (simp [*]; done)), H', ⟨by have := HK1.out; omega⟩, by repeat (first | exact Drawn0.refl _ | apply Drawn0.step)⟩
            · rw [if_neg c7] at H
              exact absurd H (by simp)
          · rw [if_neg c6] at H
            exact absurd H (by simp)
        · rw [if_neg c5] at H
          have c5b0 : decide (x14_1 < (l0.length : Int)) = false := decide_eq_false c5
          clear c5
          obtain rfl := Option.some.inj H
          go_wp2
          go_ret
          exact ⟨by first | rfl | (simp; done) | (simp [*]; done), by repeat (first | exact Drawn0.refl _ | apply Drawn0.step)⟩
  · replace c4 := Bool.eq_false_iff.mpr c4
    subst c4
    have H1 : (some (-1)) = some r := by rw [if_neg (show ¬ (false = true) by decide)] at H; exact H
    clear H
    have H := H1
    clear H1
    obtain rfl := Option.some.inj H
    go_enter Try.func33, Try.ntmps33
    go_wp2_with (first | ((with_reducible refine gate_callee (f := 38) rfl ?_); refine goesL_ (some 10) rfl rfl Try.func38 (by kernel_rfl) rfl #[.slice A0 l0.length c0, .int .i64 a1] rfl (by (try simp only [List.map_toArray, List.map_cons, List.map_nil]); first | done | rfl | (simp only [List.length_drop, List.length_take]; rfl)) ?_; (with_reducible refine (impl_GridValid.calls k _ _ l0 a1 false _ ?side1 ?side2 A3.out).mono ?_); (case side1 => repeat (first | exact HR0.out | (with_reducible refine Kd.C_alloc ?_ _) | (with_reducible refine Kd.C_drewN ?_ _) | (with_reducible refine Kd.C_drew ?_))); (case side2 => exact HC0.out); rintro e w' ⟨rfl, ⟨nd, rfl⟩⟩; refine ⟨_, rfl, ?_⟩))
    go_ret
    exact ⟨by first | rfl | (simp; done) | (simp [*]; done), by repeat (first | exact Drawn0.refl _ | apply Drawn0.step)⟩

/-! ### laws_alive: function 21 -/
def laws_alive.f (k : Nat)  : Option (Bool) := (impl_GridFilled.f k (([1, 0, 0, 2] : List Int)) 2).bind fun t186 => (some (t186 == 2))
theorem laws_alive.mono : ∀ k, LeO (laws_alive.f k ) (laws_alive.f (k + 1) ) := by
  intro  k
  unfold laws_alive.f
  repeat' first
      | (with_reducible exact impl_GridFilled.mono _ _ _)
      | (with_reducible exact LeO.refl _)
      | (with_reducible exact LeO.none _)
      | (with_reducible refine LeO.ite ?_ ?_)
      | (with_reducible refine LeO.bind ?_ (fun _ => ?_))
      | exact impl_GridFilled.mono _ _ _
      | exact LeO.none _
      | refine LeO.ite ?_ ?_
      | refine LeO.bind ?_ (fun _ => ?_)
set_option maxHeartbeats 8000000 in
set_option maxRecDepth 100000 in
theorem laws_alive.calls (k : Nat)  (r : Bool) (w : World) (h : laws_alive.f k  = some r) :
    Calls Try.prog 21 #[] w fun e w' => e = .returned (.bool r) ∧ Below w.heap.size w w' := by
  have HB := Aside0.mk (Below.refl w.heap.size w)
  have H : ((impl_GridFilled.f k (([1, 0, 0, 2] : List Int)) 2).bind fun t186 => (some (t186 == 2))) = some r := h
  clear h
  obtain ⟨y183, hy183⟩ : ∃ y_ : List Int, y_ = (([1, 0, 0, 2] : List Int)) := ⟨_, rfl⟩
  replace H : ((impl_GridFilled.f k y183 2).bind fun t186 => (some (t186 == 2))) = some r := by first | (rw [hy183]; with_reducible exact H) | (have H2_ := (Option.bind_some _ _).symm.trans H; rw [hy183]; with_reducible exact H2_) | (have H2_ := (Option.bind_some _ _).symm.trans H; with_reducible exact H2_) | with_reducible exact H | (rw [hy183]; exact H) | exact H
  have Ny183 := Aside0.mk hy183
  clear hy183
  replace H := Option.bind_eq_some_iff.mp H
  obtain ⟨t186, A10, H⟩ := H
  replace H : (some (t186 == 2)) = some r := H
  have A1 := Aside0.mk A10
  clear A10
  obtain rfl := Option.some.inj H
  go_enter Try.func21, Try.ntmps21
  go_wp2_with (first | ((with_reducible refine gate_dst (N := 1) rfl ?_); refine Kd.R_lit (Kd.int .i64) _ 3 ?hg (N := 1) ?hd (xs := ([1, 0, 0, 2] : List Int)) (inner := [.int .i64 1, .int .i64 0, .int .i64 0, .int .i64 2]) (ok := fun _ => True) (okp := fun _ => True) ?hr ?hp (fun _ hk => hk) trivial (Below.refl _ _) (Nat.le_refl _) (by simp) ?_; (case hd => rfl); (case hg => rfl); (case hr => first | (go_simp; done) | (go_simp; rfl)); (case hp => exact (Reps.one (show Kd.M (Kd.int .i64) _ _ _ 1 [.int .i64 1] from rfl) (Reps.one (show Kd.M (Kd.int .i64) _ _ _ 0 [.int .i64 0] from rfl) (Reps.one (show Kd.M (Kd.int .i64) _ _ _ 0 [.int .i64 0] from rfl) (Reps.one (show Kd.M (Kd.int .i64) _ _ _ 2 [.int .i64 2] from rfl) (Reps.none _ _)))))); intro v184 w2 ho3 hb hg_ hnew_; clear hg_ hnew_; (first | rw [← Ny183.out] at ho3 | (simp only [Int.reduceToNat] at ho3; rw [← Ny183.out] at ho3)); have n0_ := Aside0.mk (Kd.R_lower ho3 (below_size (by repeat (first | (with_reducible first | exact HB.out | apply below_alloc | apply pw_below_drewN | apply below_drew1) | exact HB.out)))); have n1_ := Aside0.mk (below_step (by repeat (first | (with_reducible first | exact HB.out | apply below_alloc | apply pw_below_drewN | apply below_drew1) | exact HB.out)) hb); clear HB; have HO185 := n0_; have HB := n1_; clear n0_ n1_; clear hb ho3; obtain ⟨Ao4, co4, eo4⟩ := Kd.R_slice HO185.out; subst eo4) | ((with_reducible refine gate_callee (f := 33) rfl ?_); refine goesL_ (some 2) rfl rfl Try.func33 (by kernel_rfl) rfl #[.slice Ao4 y183.length co4, .int .i64 2] rfl (by (try simp only [List.map_toArray, List.map_cons, List.map_nil]); first | done | rfl | (simp only [List.length_drop, List.length_take]; rfl)) ?_; (with_reducible refine (impl_GridFilled.calls k _ _ y183 2 t186 _ ?side1 ?side2 A1.out).mono ?_); (case side1 => repeat (first | exact (Kd.R_reads' HO185.out).2.2 | (with_reducible refine Kd.C_alloc ?_ _) | (with_reducible refine Kd.C_drewN ?_ _) | (with_reducible refine Kd.C_drew ?_))); (case side2 => exact (Kd.R_reads' HO185.out).2.1); rintro e w' ⟨rfl, ⟨nd, rfl⟩⟩; refine ⟨_, rfl, ?_⟩))
  go_ret
  exact ⟨by first | rfl | (simp [errW_none, errW_some] <;> rfl) | (simp [*, errW_none, errW_some] <;> rfl), by repeat (first | (with_reducible first | exact HB.out | apply below_alloc | apply pw_below_drewN | apply below_drew1) | exact HB.out)⟩

end Go.Proofs.Ytcghheaelgjnfaa.PFnStarsFit
