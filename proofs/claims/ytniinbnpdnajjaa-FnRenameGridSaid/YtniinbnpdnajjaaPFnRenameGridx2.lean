-- Made by a program of this session (a changed copy of the kit print): the kit print itself does not give this text
import Derived.Test.YtniinbnpdnajjaaPFnRenameGridx0
import Derived.Test.YtniinbnpdnajjaaPFnRenameGridx1
import Derived.Deep.RegionHeld3
import Derived.StillTailTactics
import Derived.Test.YtniinbnpdnajjaaV1
namespace Go.Proofs.Ytniinbnpdnajjaa.PFnRenameGrid
open Go.RowKit Go.Proofs.YtniinbnpdnajjaaW.PrintWords Go.Proofs.YtniinbnpdnajjaaW.PrintLast Go.Proofs.YtniinbnpdnajjaaW.PrintMore
attribute [local go_sem] max2_int min2_int max_two min_two max_three min_three max_four min_four   -- for this text's walks alone
set_option linter.unusedVariables false
set_option linter.unusedSimpArgs false

/-! ### spec_l11Names: function 57 -/
def spec_l11Names.l0 : Nat → List Int → List Int → Int → List Int → Int → Option (List Int)
  | 0, _, _, _, _, _ => none
  | k + 1, x0, x5, x6, x7, x8 => if x8 < (x0.length : Int) then (if 0 ≤ x8 then (if (rd x0 x8) > 0 then (if 0 ≤ (rd x0 x8) then (if (rd x0 x8) < (x5.length : Int) then (if (rd x5 (rd x0 x8)) = 0 then ((some (x5.set ((rd x0 x8) : Int).toNat x6 : List Int)).bind fun y122 => (if x7.length < 17592186044416 then (spec_l11Names.l0 k x0 y122 (wrap64 (x6 + 1)) (x7 ++ [rd y122 (rd x0 x8)]) (wrap64 (x8 + 1))) else (none))) else (if x7.length < 17592186044416 then (spec_l11Names.l0 k x0 x5 x6 (x7 ++ [rd x5 (rd x0 x8)]) (wrap64 (x8 + 1))) else (none))) else (none)) else (none)) else (if 0 ≤ (rd x0 x8) then (if (rd x0 x8) < (x5.length : Int) then (if x7.length < 17592186044416 then (spec_l11Names.l0 k x0 x5 x6 (x7 ++ [rd x5 (rd x0 x8)]) (wrap64 (x8 + 1))) else (none)) else (none)) else (none))) else (none)) else (some x7)
def spec_l11Names.f (k : Nat) (l0 : List Int) (a1 : Int) : Option (List Int) := if 0 ≤ (wrap64 (a1 + 1)) then (if (wrap64 (a1 + 1) : Int).toNat ≤ 35184372088832 then (spec_l11Names.l0 k l0 (List.replicate (wrap64 (a1 + 1) : Int).toNat 0) 1 (([] : List Int)) 0) else (none)) else (none)
theorem spec_l11Names.mono_l : ∀ k, (∀ y0 y1 y2 y3 y4, LeO (spec_l11Names.l0 k y0 y1 y2 y3 y4) (spec_l11Names.l0 (k + 1) y0 y1 y2 y3 y4))
  | 0 => fun _ _ _ _ _ r h => by simp [spec_l11Names.l0] at h
  | k + 1 => by
    have ih0 := spec_l11Names.mono_l k
    · intro y0 y1 y2 y3 y4
      unfold spec_l11Names.l0
      repeat' first
      | (with_reducible exact ih0 _ _ _ _ _)
      | (with_reducible exact LeO.refl _)
      | (with_reducible exact LeO.none _)
      | (with_reducible refine LeO.ite ?_ ?_)
      | (with_reducible refine LeO.bind ?_ (fun _ => ?_))
      | exact ih0 _ _ _ _ _
      | exact LeO.none _
      | refine LeO.ite ?_ ?_
      | refine LeO.bind ?_ (fun _ => ?_)
theorem spec_l11Names.mono : ∀ a0 a1 k, LeO (spec_l11Names.f k a0 a1) (spec_l11Names.f (k + 1) a0 a1) := by
  intro a0 a1 k
  have ih0 := spec_l11Names.mono_l k
  unfold spec_l11Names.f
  repeat' first
      | (with_reducible exact ih0 _ _ _ _ _)
      | (with_reducible exact LeO.refl _)
      | (with_reducible exact LeO.none _)
      | (with_reducible refine LeO.ite ?_ ?_)
      | (with_reducible refine LeO.bind ?_ (fun _ => ?_))
      | exact ih0 _ _ _ _ _
      | exact LeO.none _
      | refine LeO.ite ?_ ?_
      | refine LeO.bind ?_ (fun _ => ?_)
set_option maxHeartbeats 8000000 in
set_option maxRecDepth 100000 in
theorem spec_l11Names.calls (k : Nat) (A0 : Option Addr) (c0 : Nat) (l0 : List Int) (a1 : Int) (r : List Int) (w : World) (hr0 : Kd.C (Kd.int .i64) w A0 l0.length l0) (hc0 : l0.length ≤ c0) (h : spec_l11Names.f k l0 a1 = some r) :
    Calls Try.prog 57 #[.slice A0 l0.length c0, .int .i64 a1] w fun e w' => ∃ v0_ : Value, e = .returned (v0_) ∧ Kd.R (Kd.int .i64) 3 w' w.heap.size (fun _ => True) v0_ r ∧ Below w.heap.size w w' := by
  have HR0 := Aside0.mk hr0
  have HC0 := Aside0.mk hc0
  clear hr0 hc0
  have HB := Aside0.mk (Below.refl w.heap.size w)
  have H : (if 0 ≤ (wrap64 (a1 + 1)) then (if (wrap64 (a1 + 1) : Int).toNat ≤ 35184372088832 then (spec_l11Names.l0 k l0 (List.replicate (wrap64 (a1 + 1) : Int).toNat 0) 1 (([] : List Int)) 0) else (none)) else (none)) = some r := h
  clear h
  obtain ⟨ji3, hji3⟩ : ∃ j_ : Int, (wrap64 (a1 + 1)) = j_ := ⟨_, rfl⟩
  replace H : (if 0 ≤ (ji3) then (if (ji3 : Int).toNat ≤ 35184372088832 then (spec_l11Names.l0 k l0 (List.replicate (ji3 : Int).toNat 0) 1 (([] : List Int)) 0) else (none)) else (none)) = some r := by first | (rw [hji3] at H; exact H) | (simp only [hji3] at H ⊢; exact H)
  have hji3w : (IntKind.i64.wrap (a1 + 1)) = ji3 := (i64_w _).trans hji3
  by_cases c4 : 0 ≤ (ji3)
  · rw [if_pos c4] at H
    have c4b0 := eq_true c4
    have c4b1 : decide (0 ≤ (ji3)) = true := decide_eq_true c4
    clear c4
    by_cases c5 : (ji3 : Int).toNat ≤ 35184372088832
    · rw [if_pos c5] at H
      have c5b0 := eq_true c5
      have c5b1 : decide ((ji3 : Int).toNat ≤ 35184372088832) = true := decide_eq_true c5
      clear c5
      obtain ⟨y114, hy114⟩ : ∃ y_ : List Int, y_ = (List.replicate (ji3 : Int).toNat 0) := ⟨_, rfl⟩
      replace H : (spec_l11Names.l0 k l0 y114 1 (([] : List Int)) 0) = some r := by first | (rw [hy114]; with_reducible exact H) | (have H2_ := (Option.bind_some _ _).symm.trans H; rw [hy114]; with_reducible exact H2_) | (have H2_ := (Option.bind_some _ _).symm.trans H; with_reducible exact H2_) | with_reducible exact H | (rw [hy114]; exact H) | exact H
      have Ny114 := Aside0.mk hy114
      clear hy114
      obtain ⟨y117, hy117⟩ : ∃ y_ : List Int, y_ = (([] : List Int)) := ⟨_, rfl⟩
      replace H : (spec_l11Names.l0 k l0 y114 1 y117 0) = some r := by first | (rw [hy117]; with_reducible exact H) | (have H2_ := (Option.bind_some _ _).symm.trans H; rw [hy117]; with_reducible exact H2_) | (have H2_ := (Option.bind_some _ _).symm.trans H; with_reducible exact H2_) | with_reducible exact H | (rw [hy117]; exact H) | exact H
      have Ny117 := Aside0.mk hy117
      clear hy117
      have H' := Aside0.mk H
      clear H
      go_enter Try.func57, Try.ntmps57
      go_wp2_with (first | ((with_reducible refine gate_dst (N := 12) rfl ?_); refine Kd.R_make (Kd.int .i64) _ 3 rfl (N := 12) rfl 25 _ _ rfl ji3 rfl rfl Try.underlying25 (.int .i64 0) 8 info3 rfl (by decide) (by omega) 0 (ok := fun _ => True) (okp := fun _ => True) rfl (fun _ hk => hk) trivial (of_decide_eq_true (by first | (with_reducible assumption) | assumption)) (Nat.le_trans (Nat.mul_le_mul_right _ (of_decide_eq_true (by first | (with_reducible assumption) | assumption) : ji3.toNat ≤ 35184372088832)) (by omega)) (Below.refl _ _) (Nat.le_refl _) ?_; intro v115 w6 ho7 hb hg_ hnew_; clear hg_ hnew_; (first | rw [← Ny114.out] at ho7 | (simp only [Int.reduceToNat] at ho7; rw [← Ny114.out] at ho7)); have n0_ := Aside0.mk (Kd.R_lower ho7 (below_size (by repeat (first | (with_reducible first | exact HB.out | apply below_alloc | apply pw_below_drewN | apply below_drew1) | exact HB.out)))); have n1_ := Aside0.mk (below_step (by repeat (first | (with_reducible first | exact HB.out | apply below_alloc | apply pw_below_drewN | apply below_drew1) | exact HB.out)) hb); clear HB; have HO116 := n0_; have HB := n1_; clear n0_ n1_; clear hb ho7) | ((with_reducible refine gate_dst (N := 13) rfl ?_); refine Kd.R_lit (Kd.int .i64) _ 3 ?hg (N := 13) ?hd (xs := ([] : List Int)) (inner := []) (ok := fun _ => True) (okp := fun _ => True) ?hr ?hp (fun _ hk => hk) trivial (Below.refl _ _) (Nat.le_refl _) (by simp) ?_; (case hd => rfl); (case hg => rfl); (case hr => first | (go_simp; done) | (go_simp; rfl)); (case hp => exact (Reps.none _ _)); intro v118 w8 ho9 hb hg_ hnew_; clear hg_ hnew_; (first | rw [← Ny117.out] at ho9 | (simp only [Int.reduceToNat] at ho9; rw [← Ny117.out] at ho9)); have n0_ := Aside0.mk (Kd.R_elder' (by (with_reducible repeat (first | apply Kd.R_alloc | apply Kd.R_drewN | apply Kd.R_drew)); exact HO116.out) (Kd.R_base ho9) hb); have n1_ := Aside0.mk (Kd.R_lower (Kd.R_new' ho9 (Kd.R_lt (by (with_reducible repeat (first | apply Kd.R_alloc | apply Kd.R_drewN | apply Kd.R_drew)); exact HO116.out))) (below_size (by repeat (first | (with_reducible first | exact HB.out | apply below_alloc | apply pw_below_drewN | apply below_drew1) | exact HB.out)))); have n2_ := Aside0.mk (below_step (by repeat (first | (with_reducible first | exact HB.out | apply below_alloc | apply pw_below_drewN | apply below_drew1) | exact HB.out)) hb); clear HO116; clear HB; have HO116 := n0_; have HO119 := n1_; have HB := n2_; clear n0_ n1_ n2_; clear hb ho9))
      go_loopg [6, 7, 8] k (fun kq v6 v7 v8 w' => ∃ (x5_1 : List Int) (x6_1 : Int) (x7_1 : List Int) (x8_1 : Int), v6 = .int .i64 x6_1 ∧ v8 = .int .i64 x8_1 ∧ Aside0 (spec_l11Names.l0 kq l0 x5_1 x6_1 x7_1 x8_1 = some r) ∧ Aside0 (kq ≤ k) ∧ Aside0 (Kd.R (Kd.int .i64) 3 w' w.heap.size (fun k_ => some k_ ≠ (v7 : Value).ownBlock) v115 x5_1) ∧ Aside0 (Kd.R (Kd.int .i64) 3 w' w.heap.size (fun k_ => some k_ ≠ (v115 : Value).ownBlock) v7 x7_1) ∧ Aside0 (Below w.heap.size w w'))
      case atStart => exact ⟨(y114), (1), (y117), (0), (by first | rfl | (simp; done) | (simp [*]; done)), (by first | rfl | (simp; done) | (simp [*]; done)), H', ⟨Nat.le_refl _⟩, ⟨by (with_reducible repeat (first | apply Kd.R_alloc | apply Kd.R_drewN | apply Kd.R_drew)); exact Kd.R_mono HO116.out (fun _ hk => hk.2)⟩, ⟨by (with_reducible repeat (first | apply Kd.R_alloc | apply Kd.R_drewN | apply Kd.R_drew)); exact Kd.R_mono HO119.out (fun _ hk => hk.2)⟩, ⟨by repeat (first | (with_reducible first | exact HB.out | apply below_alloc | apply pw_below_drewN | apply below_drew1) | exact HB.out)⟩⟩
      case round =>
        clear H'
        try clear p2
        try clear c4
        try clear c4b0
        try clear c4b1
        try clear c5
        try clear c5b0
        try clear c5b1
        try clear p6
        obtain ⟨x5_1, x6_1, x7_1, x8_1, rfl, rfl, HA, HK1, HO_5, HO_7, HB⟩ := hrel
        cases gk with
        | zero => exact absurd HA.out (by simp [spec_l11Names.l0])
        | succ k1 =>
          have H := HA.out
          clear HA
          simp only [spec_l11Names.l0] at H
          by_cases c10 : x8_1 < (l0.length : Int)
          · rw [if_pos c10] at H
            have c10b0 : decide (x8_1 < (l0.length : Int)) = true := decide_eq_true c10
            clear c10
            by_cases c11 : 0 ≤ x8_1
            · rw [if_pos c11] at H
              have c11b0 : decide (0 ≤ x8_1) = true := decide_eq_true c11
              clear c11
              by_cases c12 : (rd l0 x8_1) > 0
              · rw [if_pos c12] at H
                have c12b0 : decide (0 < (rd l0 x8_1)) = true := decide_eq_true c12
                clear c12
                by_cases c13 : 0 ≤ (rd l0 x8_1)
                · rw [if_pos c13] at H
                  have c13b0 : decide (0 ≤ (rd l0 x8_1)) = true := decide_eq_true c13
                  clear c13
                  by_cases c14 : (rd l0 x8_1) < (x5_1.length : Int)
                  · rw [if_pos c14] at H
                    have c14b0 : decide ((rd l0 x8_1) < (x5_1.length : Int)) = true := decide_eq_true c14
                    clear c14
                    by_cases c15 : (rd x5_1 (rd l0 x8_1)) = 0
                    · rw [if_pos c15] at H
                      have c15b0 : ((rd x5_1 (rd l0 x8_1)) == 0) = true := beq_iff_eq.mpr c15
                      have c15b1 : ((rd x5_1 (rd l0 x8_1)) != 0) = false := bne_eq_false_iff_eq.mpr c15
                      clear c15
                      obtain ⟨y122, hy122⟩ : ∃ y_ : List Int, y_ = (x5_1.set ((rd l0 x8_1) : Int).toNat x6_1) := ⟨_, rfl⟩
                      replace H : (if x7_1.length < 17592186044416 then (spec_l11Names.l0 k1 l0 y122 (wrap64 (x6_1 + 1)) (x7_1 ++ [rd y122 (rd l0 x8_1)]) (wrap64 (x8_1 + 1))) else (none)) = some r := by first | (rw [hy122]; with_reducible exact H) | (have H2_ := (Option.bind_some _ _).symm.trans H; rw [hy122]; with_reducible exact H2_) | (have H2_ := (Option.bind_some _ _).symm.trans H; with_reducible exact H2_) | with_reducible exact H | (rw [hy122]; exact H) | exact H
                      have Ny122 := Aside0.mk hy122
                      clear hy122
                      by_cases c17 : x7_1.length < 17592186044416
                      · rw [if_pos c17] at H
                        have LMc17 := Aside0.mk c17
                        clear c17
                        obtain ⟨y124, hy124⟩ : ∃ y_ : List Int, y_ = (x7_1 ++ [rd y122 (rd l0 x8_1)]) := ⟨_, rfl⟩
                        replace H : (spec_l11Names.l0 k1 l0 y122 (wrap64 (x6_1 + 1)) y124 (wrap64 (x8_1 + 1))) = some r := by first | (rw [hy124]; with_reducible exact H) | (have H2_ := (Option.bind_some _ _).symm.trans H; rw [hy124]; with_reducible exact H2_) | (have H2_ := (Option.bind_some _ _).symm.trans H; with_reducible exact H2_) | with_reducible exact H | (rw [hy124]; exact H) | exact H
                        have Ny124 := Aside0.mk hy124
                        clear hy124
                        have H' := Aside0.mk H
                        clear H
                        have p120 : 0 ≤ (x8_1 : Int) := of_decide_eq_true (by first | (with_reducible assumption) | assumption)
                        have q120 : x8_1 < (l0.length : Int) := of_decide_eq_true (by first | (with_reducible assumption) | assumption)
                        obtain ⟨ad120, e120, hx120_0⟩ := Kd.at_int HR0.out x8_1 p120 q120
                        cases e120
                        replace hx120_0 := (HB.out.cell (World.block_lt_of_cell? w _ hx120_0)).trans hx120_0
                        replace p120 := eq_true p120
                        replace q120 := eq_true q120
                        obtain ⟨Ao18, co18, eo18⟩ := Kd.R_slice HO_5.out
                        subst eo18
                        have p121 : 0 ≤ ((rd l0 x8_1) : Int) := of_decide_eq_true (by first | (with_reducible assumption) | assumption)
                        have q121 : (rd l0 x8_1) < (x5_1.length : Int) := of_decide_eq_true (by first | (with_reducible assumption) | assumption)
                        obtain ⟨ad121, e121, hx121_0⟩ := Kd.at_int (Kd.R_reads' HO_5.out).2.2 (rd l0 x8_1) p121 q121
                        cases e121
                        replace p121 := eq_true p121
                        replace q121 := eq_true q121
                        have p16 : 0 ≤ ((rd l0 x8_1) : Int) := of_decide_eq_true (by first | (with_reducible assumption) | assumption)
                        have q16 : ((rd l0 x8_1) : Int) < ((x5_1.length : Int) : Int) := of_decide_eq_true (by first | (with_reducible assumption) | assumption)
                        obtain ⟨go16, co16, eo16, gb16, gl16, cl16, HG16⟩ := Kd.R_form HO_5.out (by omega)
                        (first | cases eo16 | (injection eo16 with ea_ en_ ec_; (first | subst ea_ | (injection ea_ with ea_; subst ea_)); subst ec_; clear en_))
                        have GB16 := Aside0.mk gb16
                        have GG16 := Aside0.mk HG16
                        clear gb16 gl16 HG16
                        (first | simp only [add_plain] at hx121_0 | skip)
                        obtain ⟨hx16_0, hf16_0⟩ := Kd.R_celln 0 HO_5.out ((rd l0 x8_1) : Int) p16 q16
                        replace p16 := eq_true p16
                        replace q16 := eq_true q16
                        have HP19 := Kd.R_putg HO_5.out ((rd l0 x8_1) : Int) x6_1
                        go_wp2_with (first | ((with_reducible refine gate_store (t := 3) (p := 36) rfl ?_); refine store_event (t := 3) (p := 36) (v := ?vo_w20) (w1 := (wr.setCell ⟨go16, ((rd l0 x8_1) : Int).toNat, none⟩ (.int .i64 x6_1))) ?hg ?ho ?hn ?hr ?_; (case ho => rfl); (case hg => rfl); (case hn => rfl); (case hr => first | (go_simp; done) | (go_simp; rfl)); intro w20 hw; have hg : wr.grownBy w20 (some go16) := (by rw [hw]; exact HP19.2); have hp_ : Kd.R (Kd.int .i64) 3 w20 w.heap.size (fun k_ => some k_ ≠ (u7 : Value).ownBlock) (.slice (some ⟨go16, 0, none⟩) x5_1.length co18) y122 := (by rw [hw, Ny122.out]; exact HP19.1); clear HP19; have n0_ := Aside0.mk (hp_); have n1_ := Aside0.mk (Kd.R_after (v := (.slice (some ⟨go16, 0, none⟩) x5_1.length co18)) (v1 := (.slice (some ⟨go16, 0, none⟩) x5_1.length co18)) (ok := (fun _ => True)) (by (with_reducible repeat (first | apply Kd.R_alloc | apply Kd.R_drewN | apply Kd.R_drew)); exact Kd.R_mono HO_7.out (fun _ hk => ⟨trivial, hk⟩)) hg (.inl rfl)); have n2_ := Aside0.mk ((by rw [hw]; exact below_set (HB.out) GB16.out : Below w.heap.size w w20)); clear HO_5; clear HO_7; clear HB; have HO_5 := n0_; have HO_7 := n1_; have HB := n2_; clear n0_ n1_ n2_; clear hg hw hp_; have p123 : 0 ≤ ((rd l0 x8_1) : Int) := of_decide_eq_true (by first | (with_reducible assumption) | assumption); have q123 : (rd l0 x8_1) < (y122.length : Int) := (by have h_ : ((rd l0 x8_1) : Int) < ((x5_1.length : Int) : Int) := of_decide_eq_true (by first | (with_reducible assumption) | assumption); first | (have e_ := (Kd.R_reads' HO_5.out).1; omega) | simpa only [Ny122.out, List.length_set] using h_); have ql123 : (((rd l0 x8_1) : Int) < ((x5_1.length : Int) : Int)) = True := eq_true (of_decide_eq_true (by first | (with_reducible assumption) | assumption)); obtain ⟨ad123, e123, hx123_0⟩ := Kd.at_int (Kd.R_reads' HO_5.out).2.2 (rd l0 x8_1) p123 q123; obtain rfl : (⟨go16, 0, none⟩ : Addr) = ad123 := (by injection e123); (first | simp only [add_plain] at hx123_0 | simp only [add_at] at hx123_0 | simp only [Addr.add, Nat.zero_add] at hx123_0 | skip); replace p123 := eq_true p123; replace q123 := eq_true q123) | ((with_reducible refine gate_builtin (b := .append) (xs := #[.tmp 39, .tmp 44]) rfl ?_); at_builtin; refine Kd.R_append (Kd.int .i64) (w0 := w) w.heap.size rfl (.tmp 39) (.tmp 44) 25 3 (.int .i64 0) 8 rfl Try.underlying25 info3 rfl (by decide) (by omega) u7 x7_1 (rd y122 (rd l0 x8_1)) [.int .i64 (rd y122 (rd l0 x8_1))] (fun k_ => some k_ ≠ (.slice (some ⟨go16, 0, none⟩) x5_1.length co18 : Value).ownBlock) (fun _ => False) rfl rfl ?aP (fun _ hk => hk.elim) ?aF ?aO ?aB ?aS ?aL ?_; (case aP => exact rfl); (case aB => exact (by repeat (first | (with_reducible first | exact HB.out | apply below_alloc | apply pw_below_drewN | apply below_drew1) | exact HB.out))); (case aF => exact (fun k_ hk => Kd.fresh' (Kd.R_lt (by (with_reducible repeat (first | apply Kd.R_alloc | apply Kd.R_drewN | apply Kd.R_drew)); exact HO_5.out)) k_ hk)); (case aO => exact (by (with_reducible repeat (first | apply Kd.R_alloc | apply Kd.R_drewN | apply Kd.R_drew)); exact Kd.R_mono HO_7.out (fun _ hk => hk.2))); (case aS => exact (below_size (by repeat (first | (with_reducible first | exact HB.out | apply below_alloc | apply pw_below_drewN | apply below_drew1) | exact HB.out)))); (case aL => have := LMc17.out; omega); intro v125 w21 ho hb hg hat; rw [← Ny124.out] at ho; have n0_ := Aside0.mk (Kd.R_after (ok := (fun _ => True)) (by (with_reducible repeat (first | apply Kd.R_alloc | apply Kd.R_drewN | apply Kd.R_drew)); exact Kd.R_mono HO_5.out (fun _ hk => ⟨trivial, hk⟩)) hg hat); have n1_ := Aside0.mk (hb); have n2_ := Aside0.mk (ho); clear HO_5; clear HB; clear HO_7; have HO_5 := n0_; have HB := n1_; have HO126 := n2_; clear n0_ n1_ n2_; clear ho hb hg hat))
                        go_roundg k1
                        case measure => have := HK1.out; omega
                        case rel => exact ⟨(y122), (wrap64 (x6_1 + 1)), (y124), (wrap64 (x8_1 + 1)), (by first | rfl | (simp; done) | (simp [*]; done)), (by first | rfl | (simp; done) | (simp [*]; done)), H', ⟨by have := HK1.out; omega⟩, ⟨by (with_reducible repeat (first | apply Kd.R_alloc | apply Kd.R_drewN | apply Kd.R_drew)); exact Kd.R_mono HO_5.out (fun _ hk => hk.2)⟩, ⟨by (with_reducible repeat (first | apply Kd.R_alloc | apply Kd.R_drewN | apply Kd.R_drew)); exact HO126.out⟩, ⟨by repeat (first | (with_reducible first | exact HB.out | apply below_alloc | apply pw_below_drewN | apply below_drew1) | exact HB.out)⟩⟩
                      · rw [if_neg c17] at H
                        exact absurd H (by simp)
                    · rw [if_neg c15] at H
                      have c15b0 : ((rd x5_1 (rd l0 x8_1)) == 0) = false := beq_eq_false_iff_ne.mpr c15
                      have c15b1 : ((rd x5_1 (rd l0 x8_1)) != 0) = true := bne_iff_ne.mpr c15
                      by_cases c22 : x7_1.length < 17592186044416
                      · rw [if_pos c22] at H
                        have LMc22 := Aside0.mk c22
                        clear c22
                        obtain ⟨y128, hy128⟩ : ∃ y_ : List Int, y_ = (x7_1 ++ [rd x5_1 (rd l0 x8_1)]) := ⟨_, rfl⟩
                        replace H : (spec_l11Names.l0 k1 l0 x5_1 x6_1 y128 (wrap64 (x8_1 + 1))) = some r := by first | (rw [hy128]; with_reducible exact H) | (have H2_ := (Option.bind_some _ _).symm.trans H; rw [hy128]; with_reducible exact H2_) | (have H2_ := (Option.bind_some _ _).symm.trans H; with_reducible exact H2_) | with_reducible exact H | (rw [hy128]; exact H) | exact H
                        have Ny128 := Aside0.mk hy128
                        clear hy128
                        have H' := Aside0.mk H
                        clear H
                        have p120 : 0 ≤ (x8_1 : Int) := of_decide_eq_true (by first | (with_reducible assumption) | assumption)
                        have q120 : x8_1 < (l0.length : Int) := of_decide_eq_true (by first | (with_reducible assumption) | assumption)
                        obtain ⟨ad120, e120, hx120_0⟩ := Kd.at_int HR0.out x8_1 p120 q120
                        cases e120
                        replace hx120_0 := (HB.out.cell (World.block_lt_of_cell? w _ hx120_0)).trans hx120_0
                        replace p120 := eq_true p120
                        replace q120 := eq_true q120
                        obtain ⟨Ao23, co23, eo23⟩ := Kd.R_slice HO_5.out
                        subst eo23
                        have p121 : 0 ≤ ((rd l0 x8_1) : Int) := of_decide_eq_true (by first | (with_reducible assumption) | assumption)
                        have q121 : (rd l0 x8_1) < (x5_1.length : Int) := of_decide_eq_true (by first | (with_reducible assumption) | assumption)
                        obtain ⟨ad121, e121, hx121_0⟩ := Kd.at_int (Kd.R_reads' HO_5.out).2.2 (rd l0 x8_1) p121 q121
                        cases e121
                        replace p121 := eq_true p121
                        replace q121 := eq_true q121
                        have p127 : 0 ≤ ((rd l0 x8_1) : Int) := of_decide_eq_true (by first | (with_reducible assumption) | assumption)
                        have q127 : (rd l0 x8_1) < (x5_1.length : Int) := of_decide_eq_true (by first | (with_reducible assumption) | assumption)
                        obtain ⟨ad127, e127, hx127_0⟩ := Kd.at_int (Kd.R_reads' HO_5.out).2.2 (rd l0 x8_1) p127 q127
                        obtain rfl : ad121 = ad127 := (by injection e127)
                        replace p127 := eq_true p127
                        replace q127 := eq_true q127
                        go_wp2_with (first | ((with_reducible refine gate_builtin (b := .append) (xs := #[.tmp 39, .tmp 44]) rfl ?_); at_builtin; refine Kd.R_append (Kd.int .i64) (w0 := w) w.heap.size rfl (.tmp 39) (.tmp 44) 25 3 (.int .i64 0) 8 rfl Try.underlying25 info3 rfl (by decide) (by omega) u7 x7_1 (rd x5_1 (rd l0 x8_1)) [.int .i64 (rd x5_1 (rd l0 x8_1))] (fun k_ => some k_ ≠ (.slice (some ad121) x5_1.length co23 : Value).ownBlock) (fun _ => False) rfl rfl ?aP (fun _ hk => hk.elim) ?aF ?aO ?aB ?aS ?aL ?_; (case aP => exact rfl); (case aB => exact (by repeat (first | (with_reducible first | exact HB.out | apply below_alloc | apply pw_below_drewN | apply below_drew1) | exact HB.out))); (case aF => exact (fun k_ hk => Kd.fresh' (Kd.R_lt (by (with_reducible repeat (first | apply Kd.R_alloc | apply Kd.R_drewN | apply Kd.R_drew)); exact HO_5.out)) k_ hk)); (case aO => exact (by (with_reducible repeat (first | apply Kd.R_alloc | apply Kd.R_drewN | apply Kd.R_drew)); exact HO_7.out)); (case aS => exact (below_size (by repeat (first | (with_reducible first | exact HB.out | apply below_alloc | apply pw_below_drewN | apply below_drew1) | exact HB.out)))); (case aL => have := LMc22.out; omega); intro v129 w24 ho hb hg hat; rw [← Ny128.out] at ho; have n0_ := Aside0.mk (Kd.R_after (ok := (fun _ => True)) (by (with_reducible repeat (first | apply Kd.R_alloc | apply Kd.R_drewN | apply Kd.R_drew)); exact Kd.R_mono HO_5.out (fun _ hk => ⟨trivial, hk⟩)) hg hat); have n1_ := Aside0.mk (hb); have n2_ := Aside0.mk (ho); clear HO_5; clear HB; clear HO_7; have HO_5 := n0_; have HB := n1_; have HO130 := n2_; clear n0_ n1_ n2_; clear ho hb hg hat))
                        go_roundg k1
                        case measure => have := HK1.out; omega
                        case rel => exact ⟨(x5_1), (x6_1), (y128), (wrap64 (x8_1 + 1)), (by first | rfl | (simp; done) | (simp [*]; done)), (by first | rfl | (simp; done) | (simp [*]; done)), H', ⟨by have := HK1.out; omega⟩, ⟨by (with_reducible repeat (first | apply Kd.R_alloc | apply Kd.R_drewN | apply Kd.R_drew)); exact Kd.R_mono HO_5.out (fun _ hk => hk.2)⟩, ⟨by (with_reducible repeat (first | apply Kd.R_alloc | apply Kd.R_drewN | apply Kd.R_drew)); exact HO130.out⟩, ⟨by repeat (first | (with_reducible first | exact HB.out | apply below_alloc | apply pw_below_drewN | apply below_drew1) | exact HB.out)⟩⟩
                      · rw [if_neg c22] at H
                        exact absurd H (by simp)
                  · rw [if_neg c14] at H
                    exact absurd H (by simp)
                · rw [if_neg c13] at H
                  exact absurd H (by simp)
              · rw [if_neg c12] at H
                have c12b0 : decide (0 < (rd l0 x8_1)) = false := decide_eq_false c12
                clear c12
                by_cases c25 : 0 ≤ (rd l0 x8_1)
                · rw [if_pos c25] at H
                  have c25b0 : decide (0 ≤ (rd l0 x8_1)) = true := decide_eq_true c25
                  clear c25
                  by_cases c26 : (rd l0 x8_1) < (x5_1.length : Int)
                  · rw [if_pos c26] at H
                    have c26b0 : decide ((rd l0 x8_1) < (x5_1.length : Int)) = true := decide_eq_true c26
                    clear c26
                    by_cases c27 : x7_1.length < 17592186044416
                    · rw [if_pos c27] at H
                      have LMc27 := Aside0.mk c27
                      clear c27
                      obtain ⟨y132, hy132⟩ : ∃ y_ : List Int, y_ = (x7_1 ++ [rd x5_1 (rd l0 x8_1)]) := ⟨_, rfl⟩
                      replace H : (spec_l11Names.l0 k1 l0 x5_1 x6_1 y132 (wrap64 (x8_1 + 1))) = some r := by first | (rw [hy132]; with_reducible exact H) | (have H2_ := (Option.bind_some _ _).symm.trans H; rw [hy132]; with_reducible exact H2_) | (have H2_ := (Option.bind_some _ _).symm.trans H; with_reducible exact H2_) | with_reducible exact H | (rw [hy132]; exact H) | exact H
                      have Ny132 := Aside0.mk hy132
                      clear hy132
                      have H' := Aside0.mk H
                      clear H
                      have p120 : 0 ≤ (x8_1 : Int) := of_decide_eq_true (by first | (with_reducible assumption) | assumption)
                      have q120 : x8_1 < (l0.length : Int) := of_decide_eq_true (by first | (with_reducible assumption) | assumption)
                      obtain ⟨ad120, e120, hx120_0⟩ := Kd.at_int HR0.out x8_1 p120 q120
                      cases e120
                      replace hx120_0 := (HB.out.cell (World.block_lt_of_cell? w _ hx120_0)).trans hx120_0
                      replace p120 := eq_true p120
                      replace q120 := eq_true q120
                      obtain ⟨Ao28, co28, eo28⟩ := Kd.R_slice HO_5.out
                      subst eo28
                      have p131 : 0 ≤ ((rd l0 x8_1) : Int) := of_decide_eq_true (by first | (with_reducible assumption) | assumption)
                      have q131 : (rd l0 x8_1) < (x5_1.length : Int) := of_decide_eq_true (by first | (with_reducible assumption) | assumption)
                      obtain ⟨ad131, e131, hx131_0⟩ := Kd.at_int (Kd.R_reads' HO_5.out).2.2 (rd l0 x8_1) p131 q131
                      cases e131
                      replace p131 := eq_true p131
                      replace q131 := eq_true q131
                      go_wp2_with (first | ((with_reducible refine gate_builtin (b := .append) (xs := #[.tmp 39, .tmp 44]) rfl ?_); at_builtin; refine Kd.R_append (Kd.int .i64) (w0 := w) w.heap.size rfl (.tmp 39) (.tmp 44) 25 3 (.int .i64 0) 8 rfl Try.underlying25 info3 rfl (by decide) (by omega) u7 x7_1 (rd x5_1 (rd l0 x8_1)) [.int .i64 (rd x5_1 (rd l0 x8_1))] (fun k_ => some k_ ≠ (.slice (some ad131) x5_1.length co28 : Value).ownBlock) (fun _ => False) rfl rfl ?aP (fun _ hk => hk.elim) ?aF ?aO ?aB ?aS ?aL ?_; (case aP => exact rfl); (case aB => exact (by repeat (first | (with_reducible first | exact HB.out | apply below_alloc | apply pw_below_drewN | apply below_drew1) | exact HB.out))); (case aF => exact (fun k_ hk => Kd.fresh' (Kd.R_lt (by (with_reducible repeat (first | apply Kd.R_alloc | apply Kd.R_drewN | apply Kd.R_drew)); exact HO_5.out)) k_ hk)); (case aO => exact (by (with_reducible repeat (first | apply Kd.R_alloc | apply Kd.R_drewN | apply Kd.R_drew)); exact HO_7.out)); (case aS => exact (below_size (by repeat (first | (with_reducible first | exact HB.out | apply below_alloc | apply pw_below_drewN | apply below_drew1) | exact HB.out)))); (case aL => have := LMc27.out; omega); intro v133 w29 ho hb hg hat; rw [← Ny132.out] at ho; have n0_ := Aside0.mk (Kd.R_after (ok := (fun _ => True)) (by (with_reducible repeat (first | apply Kd.R_alloc | apply Kd.R_drewN | apply Kd.R_drew)); exact Kd.R_mono HO_5.out (fun _ hk => ⟨trivial, hk⟩)) hg hat); have n1_ := Aside0.mk (hb); have n2_ := Aside0.mk (ho); clear HO_5; clear HB; clear HO_7; have HO_5 := n0_; have HB := n1_; have HO134 := n2_; clear n0_ n1_ n2_; clear ho hb hg hat))
                      go_roundg k1
                      case measure => have := HK1.out; omega
                      case rel => exact ⟨(x5_1), (x6_1), (y132), (wrap64 (x8_1 + 1)), (by first | rfl | (simp; done) | (simp [*]; done)), (by first | rfl | (simp; done) | (simp [*]; done)), H', ⟨by have := HK1.out; omega⟩, ⟨by (with_reducible repeat (first | apply Kd.R_alloc | apply Kd.R_drewN | apply Kd.R_drew)); exact Kd.R_mono HO_5.out (fun _ hk => hk.2)⟩, ⟨by (with_reducible repeat (first | apply Kd.R_alloc | apply Kd.R_drewN | apply Kd.R_drew)); exact HO134.out⟩, ⟨by repeat (first | (with_reducible first | exact HB.out | apply below_alloc | apply pw_below_drewN | apply below_drew1) | exact HB.out)⟩⟩
                    · rw [if_neg c27] at H
                      exact absurd H (by simp)
                  · rw [if_neg c26] at H
                    exact absurd H (by simp)
                · rw [if_neg c25] at H
                  exact absurd H (by simp)
            · rw [if_neg c11] at H
              exact absurd H (by simp)
          · rw [if_neg c10] at H
            have c10b0 : decide (x8_1 < (l0.length : Int)) = false := decide_eq_false c10
            clear c10
            obtain rfl := Option.some.inj H
            go_wp2
            go_ret
            exact ⟨_, by first | rfl | (simp [errW_none, errW_some] <;> rfl) | (simp only [← hji3]; first | rfl | (simp [errW_none, errW_some] <;> rfl)) | (simp [*, errW_none, errW_some] <;> rfl), by (with_reducible repeat (first | apply Kd.R_alloc | apply Kd.R_drewN | apply Kd.R_drew)); exact Kd.R_mono HO_7.out (fun _ hk => trivial), by repeat (first | (with_reducible first | exact HB.out | apply below_alloc | apply pw_below_drewN | apply below_drew1) | exact HB.out)⟩
    · rw [if_neg c5] at H
      exact absurd H (by simp)
  · rw [if_neg c4] at H
    exact absurd H (by simp)

/-! ### spec_RenameGrid: function 22 -/
def spec_RenameGrid.f (k : Nat) (l0 : List Int) (a1 : Int) : Option (List Int) := (spec_GridValid.f k l0 a1).bind fun t135 => (if t135 = true then ((spec_l11Names.f k l0 a1).bind fun t136 => (some t136)) else (some (([] : List Int))))
theorem spec_RenameGrid.mono : ∀ a0 a1 k, LeO (spec_RenameGrid.f k a0 a1) (spec_RenameGrid.f (k + 1) a0 a1) := by
  intro a0 a1 k
  unfold spec_RenameGrid.f
  repeat' first
      | (with_reducible exact spec_GridValid.mono _ _ _)
      | (with_reducible exact spec_l11Names.mono _ _ _)
      | (with_reducible exact LeO.refl _)
      | (with_reducible exact LeO.none _)
      | (with_reducible refine LeO.ite ?_ ?_)
      | (with_reducible refine LeO.bind ?_ (fun _ => ?_))
      | exact spec_GridValid.mono _ _ _
      | exact spec_l11Names.mono _ _ _
      | exact LeO.none _
      | refine LeO.ite ?_ ?_
      | refine LeO.bind ?_ (fun _ => ?_)
set_option maxHeartbeats 8000000 in
set_option maxRecDepth 100000 in
theorem spec_RenameGrid.calls (k : Nat) (A0 : Option Addr) (c0 : Nat) (l0 : List Int) (a1 : Int) (r : List Int) (w : World) (hr0 : Kd.C (Kd.int .i64) w A0 l0.length l0) (hc0 : l0.length ≤ c0) (h : spec_RenameGrid.f k l0 a1 = some r) :
    Calls Try.prog 22 #[.slice A0 l0.length c0, .int .i64 a1] w fun e w' => ∃ v0_ : Value, e = .returned (v0_) ∧ Kd.R (Kd.int .i64) 3 w' w.heap.size (fun _ => True) v0_ r ∧ Below w.heap.size w w' := by
  have HR0 := Aside0.mk hr0
  have HC0 := Aside0.mk hc0
  clear hr0 hc0
  have HB := Aside0.mk (Below.refl w.heap.size w)
  have H : ((spec_GridValid.f k l0 a1).bind fun t135 => (if t135 = true then ((spec_l11Names.f k l0 a1).bind fun t136 => (some t136)) else (some (([] : List Int))))) = some r := h
  clear h
  replace H := Option.bind_eq_some_iff.mp H
  obtain ⟨t135, A30, H⟩ := H
  replace H : (if t135 = true then ((spec_l11Names.f k l0 a1).bind fun t136 => (some t136)) else (some (([] : List Int)))) = some r := H
  have A3 := Aside0.mk A30
  clear A30
  by_cases c4 : t135 = true
  · subst c4
    have H1 : ((spec_l11Names.f k l0 a1).bind fun t136 => (some t136)) = some r := by rw [if_pos rfl] at H; exact H
    clear H
    have H := H1
    clear H1
    replace H := Option.bind_eq_some_iff.mp H
    obtain ⟨t136, A50, H⟩ := H
    replace H : (some t136) = some r := H
    have A5 := Aside0.mk A50
    clear A50
    obtain rfl := Option.some.inj H
    go_enter Try.func22, Try.ntmps22
    go_wp2_with (first | ((with_reducible refine gate_callee (f := 56) rfl ?_); refine goesL_ (some 7) rfl rfl Try.func56 (by kernel_rfl) rfl #[.slice A0 l0.length c0, .int .i64 a1] rfl (by (try simp only [List.map_toArray, List.map_cons, List.map_nil]); first | done | rfl | (simp only [List.length_drop, List.length_take]; rfl)) ?_; (with_reducible refine (spec_GridValid.calls k _ _ l0 a1 true _ ?side1 ?side2 A3.out).mono ?_); (case side1 => repeat (first | exact HR0.out | (with_reducible refine Kd.C_alloc ?_ _) | (with_reducible refine Kd.C_drewN ?_ _) | (with_reducible refine Kd.C_drew ?_))); (case side2 => exact HC0.out); rintro e w' ⟨rfl, ⟨nd, rfl⟩⟩; refine ⟨_, rfl, ?_⟩) | ((with_reducible refine gate_callee (f := 57) rfl ?_); refine goesL_ (some 12) rfl rfl Try.func57 (by kernel_rfl) rfl #[.slice A0 l0.length c0, .int .i64 a1] rfl (by (try simp only [List.map_toArray, List.map_cons, List.map_nil]); first | done | rfl | (simp only [List.length_drop, List.length_take]; rfl)) ?_; (with_reducible refine (spec_l11Names.calls k _ _ l0 a1 t136 _ ?side1 ?side2 A5.out).mono ?_); (case side1 => repeat (first | exact HR0.out | (with_reducible refine Kd.C_alloc ?_ _) | (with_reducible refine Kd.C_drewN ?_ _) | (with_reducible refine Kd.C_drew ?_))); (case side2 => exact HC0.out); rintro e w6 ⟨v137, rfl, ho0, hb⟩; refine ⟨_, rfl, ?_⟩; have n0_ := Aside0.mk (Kd.R_lower ho0 (below_size (by repeat (first | (with_reducible first | exact HB.out | apply below_alloc | apply pw_below_drewN | apply below_drew1) | exact HB.out)))); have n1_ := Aside0.mk (below_step (by repeat (first | (with_reducible first | exact HB.out | apply below_alloc | apply pw_below_drewN | apply below_drew1) | exact HB.out)) hb); clear HB; have HO138 := n0_; have HB := n1_; clear n0_ n1_; (try clear hb); (try clear hb2); (try clear hk); (try clear hi); (try clear ho0)))
    go_ret
    exact ⟨_, by first | rfl | (simp [errW_none, errW_some] <;> rfl) | (simp [*, errW_none, errW_some] <;> rfl), by (with_reducible repeat (first | apply Kd.R_alloc | apply Kd.R_drewN | apply Kd.R_drew)); exact HO138.out, by repeat (first | (with_reducible first | exact HB.out | apply below_alloc | apply pw_below_drewN | apply below_drew1) | exact HB.out)⟩
  · replace c4 := Bool.eq_false_iff.mpr c4
    subst c4
    have H1 : (some (([] : List Int))) = some r := by rw [if_neg (show ¬ (false = true) by decide)] at H; exact H
    clear H
    have H := H1
    clear H1
    obtain ⟨y139, hy139⟩ : ∃ y_ : List Int, y_ = (([] : List Int)) := ⟨_, rfl⟩
    replace H : (some y139) = some r := by first | (rw [hy139]; with_reducible exact H) | (have H2_ := (Option.bind_some _ _).symm.trans H; rw [hy139]; with_reducible exact H2_) | (have H2_ := (Option.bind_some _ _).symm.trans H; with_reducible exact H2_) | with_reducible exact H | (rw [hy139]; exact H) | exact H
    have Ny139 := Aside0.mk hy139
    clear hy139
    obtain rfl := Option.some.inj H
    go_enter Try.func22, Try.ntmps22
    go_wp2_with (first | ((with_reducible refine gate_callee (f := 56) rfl ?_); refine goesL_ (some 7) rfl rfl Try.func56 (by kernel_rfl) rfl #[.slice A0 l0.length c0, .int .i64 a1] rfl (by (try simp only [List.map_toArray, List.map_cons, List.map_nil]); first | done | rfl | (simp only [List.length_drop, List.length_take]; rfl)) ?_; (with_reducible refine (spec_GridValid.calls k _ _ l0 a1 false _ ?side1 ?side2 A3.out).mono ?_); (case side1 => repeat (first | exact HR0.out | (with_reducible refine Kd.C_alloc ?_ _) | (with_reducible refine Kd.C_drewN ?_ _) | (with_reducible refine Kd.C_drew ?_))); (case side2 => exact HC0.out); rintro e w' ⟨rfl, ⟨nd, rfl⟩⟩; refine ⟨_, rfl, ?_⟩) | ((with_reducible refine gate_dst (N := 9) rfl ?_); refine Kd.R_lit (Kd.int .i64) _ 3 ?hg (N := 9) ?hd (xs := ([] : List Int)) (inner := []) (ok := fun _ => True) (okp := fun _ => True) ?hr ?hp (fun _ hk => hk) trivial (Below.refl _ _) (Nat.le_refl _) (by simp) ?_; (case hd => rfl); (case hg => rfl); (case hr => first | (go_simp; done) | (go_simp; rfl)); (case hp => exact (Reps.none _ _)); intro v140 w7 ho8 hb hg_ hnew_; clear hg_ hnew_; (first | rw [← Ny139.out] at ho8 | (simp only [Int.reduceToNat] at ho8; rw [← Ny139.out] at ho8)); have n0_ := Aside0.mk (Kd.R_lower ho8 (below_size (by repeat (first | (with_reducible first | exact HB.out | apply below_alloc | apply pw_below_drewN | apply below_drew1) | exact HB.out)))); have n1_ := Aside0.mk (below_step (by repeat (first | (with_reducible first | exact HB.out | apply below_alloc | apply pw_below_drewN | apply below_drew1) | exact HB.out)) hb); clear HB; have HO141 := n0_; have HB := n1_; clear n0_ n1_; clear hb ho8))
    go_ret
    exact ⟨_, by first | rfl | (simp [errW_none, errW_some] <;> rfl) | (simp [*, errW_none, errW_some] <;> rfl), by (with_reducible repeat (first | apply Kd.R_alloc | apply Kd.R_drewN | apply Kd.R_drew)); exact HO141.out, by repeat (first | (with_reducible first | exact HB.out | apply below_alloc | apply pw_below_drewN | apply below_drew1) | exact HB.out)⟩

/-! ### impl_RenameGrid: function 24 -/
--@import Derived.Test.YtniinbnpdnajjaaV1
open Go.Proofs.Ytniinbnpdnajjaa.My
--@import Derived.Deep.RegionHeld3
--@import Derived.StillTailTactics
def impl_RenameGrid.l0 : Nat → List Int → List Int → Int → List Int → Int → Option (List Int)
  | 0, _, _, _, _, _ => none
  | k + 1, x0, n, nx, o, i => if i < (x0.length : Int) then (if 0 ≤ i then (if 0 ≤ rd x0 i then (if rd x0 i < 5 then (if i < (o.length : Int) then (if rd x0 i > 0 then (if rd n (rd x0 i) = 0 then (impl_RenameGrid.l0 k x0 (n.set (rd x0 i).toNat (wrap64 (nx + 1))) (wrap64 (nx + 1)) (o.set i.toNat (wrap64 (nx + 1))) (wrap64 (i + 1))) else (impl_RenameGrid.l0 k x0 n nx (o.set i.toNat (rd n (rd x0 i))) (wrap64 (i + 1)))) else (impl_RenameGrid.l0 k x0 n nx (o.set i.toNat (rd n (rd x0 i))) (wrap64 (i + 1)))) else none) else none) else none) else none) else some o
def impl_RenameGrid.f (k : Nat) (l0 : List Int) (a1 : Int) : Option (List Int) := (impl_GridValid.f k l0 a1).bind fun b => (if b = true then (if (l0.length : Int).toNat ≤ 35184372088832 then (impl_RenameGrid.l0 k l0 [0, 0, 0, 0, 0] 0 (List.replicate (l0.length : Int).toNat 0) 0) else none) else some [])
theorem impl_RenameGrid.mono_l : ∀ k, (∀ y0 y1 y2 y3 y4, LeO (impl_RenameGrid.l0 k y0 y1 y2 y3 y4) (impl_RenameGrid.l0 (k + 1) y0 y1 y2 y3 y4))
  | 0 => fun _ _ _ _ _ r h => by simp [impl_RenameGrid.l0] at h
  | k + 1 => by
    have ih0 := impl_RenameGrid.mono_l k
    · intro y0 y1 y2 y3 y4
      unfold impl_RenameGrid.l0
      repeat' first
      | (with_reducible exact ih0 _ _ _ _ _)
      | (with_reducible exact impl_GridValid.mono _ _ _)
      | (with_reducible exact LeO.refl _)
      | (with_reducible exact LeO.none _)
      | (with_reducible refine LeO.ite ?_ ?_)
      | (with_reducible refine LeO.bind ?_ (fun _ => ?_))
      | exact ih0 _ _ _ _ _
      | exact impl_GridValid.mono _ _ _
      | exact LeO.none _
      | refine LeO.ite ?_ ?_
      | refine LeO.bind ?_ (fun _ => ?_)
theorem impl_RenameGrid.mono : ∀ a0 a1 k, LeO (impl_RenameGrid.f k a0 a1) (impl_RenameGrid.f (k + 1) a0 a1) := by
  intro a0 a1 k
  have ih0 := impl_RenameGrid.mono_l k
  unfold impl_RenameGrid.f
  repeat' first
      | (with_reducible exact ih0 _ _ _ _ _)
      | (with_reducible exact impl_GridValid.mono _ _ _)
      | (with_reducible exact LeO.refl _)
      | (with_reducible exact LeO.none _)
      | (with_reducible refine LeO.ite ?_ ?_)
      | (with_reducible refine LeO.bind ?_ (fun _ => ?_))
      | exact ih0 _ _ _ _ _
      | exact impl_GridValid.mono _ _ _
      | exact LeO.none _
      | refine LeO.ite ?_ ?_
      | refine LeO.bind ?_ (fun _ => ?_)
set_option maxHeartbeats 8000000 in
set_option maxRecDepth 100000 in
theorem impl_RenameGrid.calls (k : Nat) (A0 : Option Addr) (c0 : Nat) (l0 : List Int) (a1 : Int) (r : List Int) (w : World) (hr0 : Kd.C (Kd.int .i64) w A0 l0.length l0) (hc0 : l0.length ≤ c0) (h : impl_RenameGrid.f k l0 a1 = some r) :
    Calls Try.prog 24 #[.slice A0 l0.length c0, .int .i64 a1] w fun e w' => ∃ v0_ : Value, e = .returned (v0_) ∧ Kd.R (Kd.int .i64) 3 w' w.heap.size (fun _ => True) v0_ r ∧ Below w.heap.size w w' := by
  have hu56 := Try.underlying56
  unfold impl_RenameGrid.f at h
  obtain ⟨b, hb, h⟩ := Option.bind_eq_some_iff.mp h
  have HA := Aside0.mk hb
  have HR0 := Aside0.mk hr0
  have HB := Aside0.mk (Below.refl w.heap.size w)
  clear hb hr0
  cases b with
  | false =>
    have e0 : [] = r := Option.some.inj h
    subst e0
    clear h
    go_enter Try.func24, Try.ntmps24
    go_wp2_with (first | ((with_reducible refine gate_callee (f := 54) rfl ?_); refine goesL_ (some 12) rfl rfl Try.func54 (by kernel_rfl) rfl #[.slice A0 l0.length c0, .int .i64 a1] rfl (by (try simp only [List.map_toArray, List.map_cons, List.map_nil]); first | done | rfl) ?_; (with_reducible refine (impl_GridValid.calls k A0 c0 l0 a1 _ _ HR0.out hc0 HA.out).mono ?_); rintro e wb ⟨rfl, hd⟩; have n1_ := Aside0.mk (drawn_below hd); clear HB; have HB := n1_; have HWB := n1_; clear n1_ hd; refine ⟨_, rfl, ?_⟩))
    go_ret
    exact ⟨_, rfl, Kd.R_nil _ _ _ _ _, HB.out⟩
  | true =>
    replace h : (if (l0.length : Int).toNat ≤ 35184372088832 then (impl_RenameGrid.l0 k l0 [0, 0, 0, 0, 0] 0 (List.replicate (l0.length : Int).toNat 0) 0) else none) = some r := h
    by_cases c1 : (l0.length : Int).toNat ≤ 35184372088832
    · rw [if_pos c1] at h
      have H' := Aside0.mk h
      clear h
      go_enter Try.func24, Try.ntmps24
      go_wp2_with (first | ((with_reducible refine gate_callee (f := 54) rfl ?_); refine goesL_ (some 12) rfl rfl Try.func54 (by kernel_rfl) rfl #[.slice A0 l0.length c0, .int .i64 a1] rfl (by (try simp only [List.map_toArray, List.map_cons, List.map_nil]); first | done | rfl) ?_; (with_reducible refine (impl_GridValid.calls k A0 c0 l0 a1 _ _ HR0.out hc0 HA.out).mono ?_); rintro e wb ⟨rfl, hd⟩; have n1_ := Aside0.mk (drawn_below hd); clear HB; have HB := n1_; have HWB := n1_; clear n1_ hd; refine ⟨_, rfl, ?_⟩) | ((with_reducible refine gate_dst (N := 17) rfl ?_); refine Kd.R_make (Kd.int .i64) (w0 := w) w.heap.size 3 rfl (N := 17) rfl 25 _ _ rfl (l0.length : Int) rfl rfl Try.underlying25 (.int .i64 0) 8 info3 rfl (by decide) (by omega) 0 (ok := fun _ => True) (okp := fun _ => True) rfl (fun _ hk => hk) trivial (by omega) (by omega) (HB.out.alloc HB.out.size _) (by have := HB.out.size; simp; omega) ?_; intro vo w4 ho5 hb hg_ hnew_; clear hnew_; have HO := Aside0.mk ho5; have HC : Aside0 (w4.heap[wb.heap.size]? = some (Obj.cells #[.int .i64 0, .int .i64 0, .int .i64 0, .int .i64 0, .int .i64 0] 56 (0, 0))) := ⟨blk_grown (blk_new wb _) hg_ (by simp)⟩; clear HB; have HB := Aside0.mk hb; clear hb ho5 hg_))
      have HK0 : Aside0 (([0, 0, 0, 0, 0] : List Int).length = 5) := ⟨rfl⟩
      have HZ := Aside0.mk (below_size HWB.out)
      go_loopg [6, 20] k (fun kq v6 v20 w' => ∃ (n : List Int) (nx : Int) (o : List Int) (i : Int), v6 = .int .i64 nx ∧ v20 = .int .i64 i ∧ Aside0 (impl_RenameGrid.l0 kq l0 n nx o i = some r) ∧ Aside0 (kq ≤ k) ∧ Aside0 (n.length = 5) ∧ Aside0 (w'.heap[wb.heap.size]? = some (Obj.cells (n.map (Value.int .i64)).toArray 56 (0, 0))) ∧ Aside0 (Kd.R (Kd.int .i64) 3 w' w.heap.size (fun _ => True) vo o) ∧ Aside0 (Below w.heap.size w w'))
      case atStart => exact ⟨_, _, _, 0, rfl, rfl, H', ⟨Nat.le_refl _⟩, HK0, HC, HO, HB⟩
      case round =>
        clear H' HC HB HK0 HO
        obtain ⟨n, nx, o, i, rfl, rfl, HA, HK, HL, HC, HO, HB⟩ := hrel
        cases gk with
        | zero => exact absurd HA.out (by simp [impl_RenameGrid.l0])
        | succ k1 =>
          have H := HA.out
          clear HA
          rw [impl_RenameGrid.l0] at H
          by_cases c5 : i < (l0.length : Int)
          · rw [if_pos c5] at H
            by_cases c6 : 0 ≤ i
            · rw [if_pos c6] at H
              obtain ⟨ad, ead, hx0⟩ := Kd.at_int HR0.out i c6 c5
              cases ead
              have HX := Aside0.mk hx0
              replace hx0 := (HB.out.cell (World.block_lt_of_cell? w _ hx0)).trans hx0
              obtain ⟨v, hv⟩ : ∃ v, rd l0 i = v := ⟨_, rfl⟩
              rw [hv] at H hx0
              have Hv := Aside0.mk hv
              clear hv
              by_cases c7 : 0 ≤ v
              · rw [if_pos c7] at H
                by_cases c8 : v < 5
                · rw [if_pos c8] at H
                  by_cases c9 : i < (o.length : Int)
                  · rw [if_pos c9] at H
                    have p5 := eq_true c6
                    have q5 := eq_true c5
                    have b5 : decide (i < (l0.length : Int)) = true := decide_eq_true c5
                    have p7 := eq_true c7
                    have q7 := eq_true c8
                    have p9 := c6
                    have q9 := c9
                    have hxn := int_cell HC.out v c7 (by have := HL.out; omega)
                    have hfn : wr.frozen? ⟨wb.heap.size, v.toNat, none⟩ = false := blk_frozen HC.out _
                    obtain ⟨go9, co9, eo9, gb9, gl9, cl9, HG9⟩ := Kd.R_form HO.out (by omega)
                    cases eo9
                    obtain ⟨hx9, hf9⟩ := Kd.R_celln 0 HO.out i p9 q9
                    have GB9 := Aside0.mk gb9
                    have GN := Aside0.mk (show go9 ≠ wb.heap.size from fun e => Kd.R_ne HO.out HC.out (by decide) (by rw [e]; rfl))
                    clear gb9 gl9 HG9
                    have q9' := eq_true c9
                    have hx9s : ∀ u, (wr.setCell ⟨wb.heap.size, v.toNat, none⟩ u).cell? ⟨go9, i.toNat, none⟩ = some (.int .i64 (rd o i)) := fun u => (cell_far (p := ⟨wb.heap.size, v.toNat, none⟩) GN.out u).trans hx9
                    by_cases n1 : v > 0
                    · rw [if_pos n1] at H
                      have d1 : decide (0 < v) = true := decide_eq_true n1
                      by_cases n2 : rd n v = 0
                      · rw [if_pos n2] at H
                        have d2 : decide (rd n v = 0) = true := decide_eq_true n2
                        have H' := Aside0.mk H
                        clear H n1 c5 c6 c7 c8 c9
                        go_wp2
                        go_roundg k1
                        case measure => have := HK.out; omega
                        case rel => exact ⟨n.set v.toNat (wrap64 (nx + 1)), wrap64 (nx + 1), o.set i.toNat (wrap64 (nx + 1)), wrap64 (i + 1), rfl, rfl, H', ⟨by have := HK.out; omega⟩, ⟨by rw [List.length_set]; exact HL.out⟩, ⟨blk_far (int_put HC.out v (wrap64 (nx + 1))) GN.out.symm _⟩, ⟨(Kd.R_putg (Kd.R_set HO.out HC.out (by decide) v.toNat (.int .i64 (wrap64 (nx + 1)))) i (wrap64 (nx + 1))).1⟩, ⟨by repeat (first | (with_reducible first | exact HB.out | apply below_alloc | apply pw_below_drewN | apply below_drew1 | refine below_set ?_ HZ.out | refine below_set ?_ GB9.out) | exact HB.out)⟩⟩
                      · rw [if_neg n2] at H
                        have d2 : decide (rd n v = 0) = false := decide_eq_false n2
                        have H' := Aside0.mk H
                        clear H n1 c5 c6 c7 c8 c9
                        go_wp2
                        go_roundg k1
                        case measure => have := HK.out; omega
                        case rel => exact ⟨n, nx, o.set i.toNat (rd n v), wrap64 (i + 1), rfl, rfl, H', ⟨by have := HK.out; omega⟩, HL, ⟨blk_far HC.out GN.out.symm _⟩, ⟨(Kd.R_putg HO.out i (rd n v)).1⟩, ⟨by repeat (first | (with_reducible first | exact HB.out | apply below_alloc | apply pw_below_drewN | apply below_drew1 | refine below_set ?_ HZ.out | refine below_set ?_ GB9.out) | exact HB.out)⟩⟩
                    · rw [if_neg n1] at H
                      have d1 : decide (0 < v) = false := decide_eq_false n1
                      have H' := Aside0.mk H
                      clear H n1 c5 c6 c7 c8 c9
                      go_wp2
                      go_roundg k1
                      case measure => have := HK.out; omega
                      case rel => exact ⟨n, nx, o.set i.toNat (rd n v), wrap64 (i + 1), rfl, rfl, H', ⟨by have := HK.out; omega⟩, HL, ⟨blk_far HC.out GN.out.symm _⟩, ⟨(Kd.R_putg HO.out i (rd n v)).1⟩, ⟨by repeat (first | (with_reducible first | exact HB.out | apply below_alloc | apply pw_below_drewN | apply below_drew1 | refine below_set ?_ HZ.out | refine below_set ?_ GB9.out) | exact HB.out)⟩⟩
                  · rw [if_neg c9] at H
                    exact absurd H (by simp)
                · rw [if_neg c8] at H
                  exact absurd H (by simp)
              · rw [if_neg c7] at H
                exact absurd H (by simp)
            · rw [if_neg c6] at H
              exact absurd H (by simp)
          · rw [if_neg c5] at H
            have c5b0 : decide (i < (l0.length : Int)) = false := decide_eq_false c5
            have e0 : o = r := Option.some.inj H
            subst e0
            clear H c5
            go_wp2_with fail
            go_ret
            exact ⟨_, rfl, HO.out, HB.out⟩
    · rw [if_neg c1] at h
      exact absurd h (by simp)

/-- A state of type 63 at block g of W; what its slices lead to came in by w0. -/
def IsS63 (w0 W : World) (g : Nat) (f0 : List Int) (f1 : Int) : Prop := ∃ A0 c0, W.heap[g]? = some (.cells #[.slice A0 f0.length c0, .int .i64 f1] 63 (0, 0)) ∧ w0.heap.size ≤ g ∧ Kd.C (Kd.int .u8) w0 A0 f0.length f0
theorem IsS63.grown {w0 W : World} {g : Nat} {f0 : List Int} {f1 : Int} {W1 : World} {row : Option Nat} (h : IsS63 w0 W g f0 f1) (hw : W.grownBy W1 row) (hne : some g ≠ row) : IsS63 w0 W1 g f0 f1 := by
  obtain ⟨A0, c0, hb, hg, hr0⟩ := h
  exact ⟨A0, c0, blk_grown hb hw hne, hg, hr0⟩
theorem IsS63.own_neN {w0 W : World} {g : Nat} {f0 : List Int} {f1 : Int} {α : Type} {d : Kd α} {e : Nat} {base : Nat} {ok : Nat → Prop} {v : Value} {xs : List α} (h : IsS63 w0 W g f0 f1) (ho : Kd.N d e W base ok v xs) (ht : e ≠ 63) : some g ≠ v.ownBlock := by
  obtain ⟨A0, c0, hb, hg, hr0⟩ := h
  exact Kd.N_ne ho hb ht
theorem IsS63.fresh {w0 W : World} {g : Nat} {f0 : List Int} {f1 : Int} (h : IsS63 w0 W g f0 f1) : ∀ k, W.heap.size ≤ k → k ≠ g := by
  obtain ⟨A0, c0, hb, hg, hr0⟩ := h
  exact Kd.freshB hb
theorem IsS63.kept {w0 W : World} {g : Nat} {f0 : List Int} {f1 : Int} {W1 : World} {S : Nat → Prop} (h : IsS63 w0 W g f0 f1) (hk : Kept W W1 S) (hne : ¬ S g) : IsS63 w0 W1 g f0 f1 := by
  obtain ⟨A0, c0, hb, hg, hr0⟩ := h
  exact ⟨A0, c0, blk_kept hb hk hne, hg, hr0⟩
theorem IsS63.below {w0 W : World} {g : Nat} {f0 : List Int} {f1 : Int} {W1 : World} (h : IsS63 w0 W g f0 f1) (hw : Below W.heap.size W W1) : IsS63 w0 W1 g f0 f1 := h.grown (grown_of_below hw none) (by simp)
theorem IsS63.alloc {w0 W : World} {g : Nat} {f0 : List Int} {f1 : Int} (h : IsS63 w0 W g f0 f1) (o : Obj) : IsS63 w0 (W.alloc o) g f0 f1 := h.below (below_alloc (Below.refl _ _) o)
theorem IsS63.drewN {w0 W : World} {g : Nat} {f0 : List Int} {f1 : Int} (h : IsS63 w0 W g f0 f1) (m : Nat) : IsS63 w0 (W.drewN m) g f0 f1 := h
theorem IsS63.drew {w0 W : World} {g : Nat} {f0 : List Int} {f1 : Int} (h : IsS63 w0 W g f0 f1) : IsS63 w0 W.drew g f0 f1 := h
theorem IsS63.at_ {w0 W : World} {g : Nat} {f0 : List Int} {f1 : Int} {w' : World} {m : Nat} (hq : W.drewN m = w') (h : IsS63 w0 W g f0 f1) : IsS63 w0 w' g f0 f1 := by subst hq; exact IsS63.drewN h m
theorem IsS63.apart {w0 W : World} {g : Nat} {f0 : List Int} {f1 : Int} {α : Type} {d : Kd α} {e : Nat} {base : Nat} {ok : Nat → Prop} {v : Value} {xs : List α} (h : IsS63 w0 W g f0 f1) (ho : d.R e W base ok v xs) (ht : ∀ q, q ∈ e :: d.E → q ≠ 63) : d.R e W base (fun k => ok k ∧ k ≠ g) v xs := by
  obtain ⟨A0, c0, hb, hg, hr0⟩ := h
  exact Kd.R_types ho hb ht
theorem IsS63.own_ne {w0 W : World} {g : Nat} {f0 : List Int} {f1 : Int} {α : Type} {d : Kd α} {e : Nat} {base : Nat} {ok : Nat → Prop} {v : Value} {xs : List α} (h : IsS63 w0 W g f0 f1) (ho : d.R e W base ok v xs) (ht : e ≠ 63) : some g ≠ v.ownBlock := by
  obtain ⟨A0, c0, hb, hg, hr0⟩ := h
  exact Kd.R_ne ho hb ht
theorem IsS63.apartQ {w0 W : World} {g : Nat} {f0 : List Int} {f1 : Int} {α : Type} {d : Kd α} {e : Nat} {base : Nat} {ok : Nat → Prop} {v : Value} {xs : List α} (h : IsS63 w0 W g f0 f1) (ho : d.Q e W base ok v xs) (ht : ∀ q, q ∈ e :: d.E → q ≠ 63) : d.Q e W base (fun k => ok k ∧ k ≠ g) v xs := by
  obtain ⟨A0, c0, hb, hg, hr0⟩ := h
  exact Kd.Q_types ho hb ht
theorem IsS63.own_neQ {w0 W : World} {g : Nat} {f0 : List Int} {f1 : Int} {α : Type} {d : Kd α} {e : Nat} {base : Nat} {ok : Nat → Prop} {v : Value} {xs : List α} (h : IsS63 w0 W g f0 f1) (ho : d.Q e W base ok v xs) (ht : e ≠ 63) : some g ≠ v.ownBlock := by
  obtain ⟨A0, c0, hb, hg, hr0⟩ := h
  exact Kd.Q_ne ho hb ht
theorem IsS63.apartS {w0 W : World} {g : Nat} {f0 : List Int} {f1 : Int} {α : Type} {d : Kd α} {e : Nat} {base : Nat} {ok : Nat → Prop} {v : Value} {xs : List α} (h : IsS63 w0 W g f0 f1) (ho : d.S e W base ok v xs) (ht : ∀ q, q ∈ e :: d.E → q ≠ 63) : d.S e W base (fun k => ok k ∧ k ≠ g) v xs := by
  obtain ⟨A0, c0, hb, hg, hr0⟩ := h
  exact Kd.S_types ho hb ht
theorem IsS63.own_neS {w0 W : World} {g : Nat} {f0 : List Int} {f1 : Int} {α : Type} {d : Kd α} {e : Nat} {base : Nat} {ok : Nat → Prop} {v : Value} {xs : List α} (h : IsS63 w0 W g f0 f1) (ho : d.S e W base ok v xs) (ht : e ≠ 63) : some g ≠ v.ownBlock := by
  obtain ⟨A0, c0, hb, hg, hr0⟩ := h
  exact Kd.S_ne ho hb ht
theorem IsS63.lt {w0 W : World} {g : Nat} {f0 : List Int} {f1 : Int} (h : IsS63 w0 W g f0 f1) : g < W.heap.size := by
  obtain ⟨A0, c0, hb, hg, hr0⟩ := h
  exact blk_lt hb
theorem IsS63.ge {w0 W : World} {g : Nat} {f0 : List Int} {f1 : Int} (h : IsS63 w0 W g f0 f1) : w0.heap.size ≤ g := by
  obtain ⟨A0, c0, hb, hg, hr0⟩ := h
  exact hg
theorem IsS63.ne_blk {w0 W : World} {g : Nat} {f0 : List Int} {f1 : Int} {a : Nat} {cs : Array Value} {t : TypeId} {fr : Nat × Nat} (h : IsS63 w0 W g f0 f1) (hb2 : W.heap[a]? = some (.cells cs t fr)) (ht : t ≠ 63) : g ≠ a := by
  obtain ⟨A0, c0, hb, hg, hr0⟩ := h
  rintro rfl
  rw [hb] at hb2
  injection hb2 with hb2
  injection hb2 with _ ht2
  exact ht ht2.symm
theorem IsS63.far {w0 W : World} {g : Nat} {f0 : List Int} {f1 : Int} {p : Addr} (h : IsS63 w0 W g f0 f1) (hne : g ≠ p.block) (u : Value) : IsS63 w0 (W.setCell p u) g f0 f1 := by
  obtain ⟨A0, c0, hb, hg, hr0⟩ := h
  exact ⟨A0, c0, blk_far hb hne u, hg, hr0⟩
theorem cellS63_0 {W : World} {g : Nat} {A0 : Option Addr} {c0 : Nat} {f0 : List Int} {f1 : Int} (h : W.heap[g]? = some (.cells #[.slice A0 f0.length c0, .int .i64 f1] 63 (0, 0))) : W.cell? ⟨g, 0, none⟩ = some (.slice A0 f0.length c0) := (blk_cell h 0).trans rfl
theorem cellS63_1 {W : World} {g : Nat} {A0 : Option Addr} {c0 : Nat} {f0 : List Int} {f1 : Int} (h : W.heap[g]? = some (.cells #[.slice A0 f0.length c0, .int .i64 f1] 63 (0, 0))) : W.cell? ⟨g, 1, none⟩ = some (.int .i64 f1) := (blk_cell h 1).trans rfl
theorem IsS63.set_1 {w0 W : World} {g : Nat} {f0 : List Int} {f1 : Int} (h : IsS63 w0 W g f0 f1) (x : Int) : IsS63 w0 (W.setCell ⟨g, 1, none⟩ (.int .i64 x)) g f0 x := by
  obtain ⟨A0, c0, hb, hg, hr0⟩ := h
  exact ⟨A0, c0, by simpa using blk_set hb 1 (.int .i64 x), hg, hr0⟩
theorem IsS63.new (w0 W : World) (A0 : Option Addr) (c0 : Nat) (f0 : List Int) (f1 : Int) (hB : Below w0.heap.size w0 W) (hr0 : Kd.C (Kd.int .u8) w0 A0 f0.length f0) : IsS63 w0 (W.alloc (.cells #[.slice A0 f0.length c0, .int .i64 f1] 63)) W.heap.size f0 f1 := ⟨A0, c0, by simpa using heap_alloc_new W _, hB.size, hr0⟩

/-! ### spec_l20Open: function 44 -/
def spec_l20Open.f (l0 : List Int) : Option (List Int × Int) := if (l0.length : Int) > 2000 then (if 2000 ≤ (l0.length : Int) then (some (l0.take 2000, 0)) else (none)) else (some (l0, 0))
set_option maxHeartbeats 8000000 in
set_option maxRecDepth 100000 in
theorem spec_l20Open.calls (A0 : Option Addr) (c0 : Nat) (l0 : List Int) (r1 : List Int) (r2 : Int) (w0 w : World) (hB : Below w0.heap.size w0 w) (hr0 : Kd.C (Kd.int .u8) w0 A0 l0.length l0) (hc0 : l0.length ≤ c0) (h : spec_l20Open.f l0 = some (r1, r2)) :
    Calls Try.prog 44 #[.slice A0 l0.length c0] w fun e w' => ∃ g_ : Nat, e = .returned (.pointer (some ⟨g_, 0, none⟩)) ∧ IsS63 w0 w' g_ r1 r2 ∧ Below w0.heap.size w0 w' ∧ Below w.heap.size w w' := by
  have hu63 := Try.underlying63
  have HR0 := Aside0.mk hr0
  have HC0 := Aside0.mk hc0
  clear hr0 hc0
  have HBW := Aside0.mk (Below.refl w.heap.size w)
  have HW0 := Aside0.mk hB.size
  have HB := Aside0.mk hB
  clear hB
  have H : (if (l0.length : Int) > 2000 then (if 2000 ≤ (l0.length : Int) then (some (l0.take 2000, 0)) else (none)) else (some (l0, 0))) = some (r1, r2) := h
  clear h
  by_cases c2 : (l0.length : Int) > 2000
  · rw [if_pos c2] at H
    have c2b0 : decide (2000 < (l0.length : Int)) = true := decide_eq_true c2
    have c2b1 : decide (2000 < l0.length) = true := decide_eq_true (by omega)
    clear c2
    by_cases c3 : 2000 ≤ (l0.length : Int)
    · rw [if_pos c3] at H
      have c3b0 := eq_true c3
      have c3b1 : decide (2000 ≤ (l0.length : Int)) = true := decide_eq_true c3
      clear c3
      simp only [Option.some.injEq, Prod.mk.injEq] at H
      obtain ⟨rfl, rfl⟩ := H
      obtain ⟨i04, hi04, _, hsz4, _⟩ := info_parts info5
      obtain ⟨hcut4, hA4, hC4⟩ := print_take_of (P := Try.prog) (Value.int .u8) 0 22 5 .i64 Try.underlying22 hi04 hsz4 A0 c0 l0 2000 (by omega) (of_decide_eq_true (by first | (with_reducible assumption) | assumption)) HC0.out
      have HR142 := Aside0.mk (Kd.C_of_reads (h1 := fun _ => rfl) (hA4 _ (Kd.reads_of_C HR0.out)))
      have HC142 := Aside0.mk hC4
      clear hA4 hC4 hi04 hsz4
      go_enter Try.func44, Try.ntmps44
      go_wp2_with (first | ((with_reducible refine gate_dst (N := 10) rfl ?_); refine box_event ?hg (N := 10) ?hd (cs := #[.slice A0 (l0.take 2000).length c0, .int .i64 0]) (t := 63) ?hr ?_; (case hd => rfl); (case hg => rfl); (case hr => first | (go_simp; done) | (go_simp; rfl)); intro gb143 hg w5 hbox hb; have n0_ := Aside0.mk (below_step HBW.out hb); have n1_ := Aside0.mk (below_step (by repeat (first | (with_reducible first | exact HB.out | apply below_alloc | apply pw_below_drewN | apply below_drew1) | exact HB.out)) hb); have n2_ := Aside0.mk (hbox); have n3_ := Aside0.mk ((by rw [hg]; exact (below_size (by repeat (first | (with_reducible first | exact HBW.out | apply below_alloc | apply pw_below_drewN | apply below_drew1) | exact HBW.out))) : w.heap.size ≤ gb143)); have n4_ := Aside0.mk ((Nat.le_trans HW0.out (by rw [hg]; exact (below_size (by repeat (first | (with_reducible first | exact HBW.out | apply below_alloc | apply pw_below_drewN | apply below_drew1) | exact HBW.out))) : w.heap.size ≤ gb143) : w0.heap.size ≤ gb143)); clear HBW; clear HB; have HBW := n0_; have HB := n1_; have BK143 := n2_; have GW143 := n3_; have GE143 := n4_; clear n0_ n1_ n2_ n3_ n4_; clear hb hbox hg))
      go_ret
      exact ⟨_, rfl, (show IsS63 w0 _ gb143 (l0.take 2000) 0 from ⟨_, _, by (with_reducible repeat (first | refine blk_drewN ?_ _ | refine blk_drew ?_ | refine blk_alloc ?_ _)); exact BK143.out, GE143.out, HR142.out⟩), by repeat (first | (with_reducible first | exact HB.out | apply below_alloc | apply pw_below_drewN | apply below_drew1 | refine below_set ?_ GE143.out) | exact HB.out), by repeat (first | (with_reducible first | exact HBW.out | apply below_alloc | apply pw_below_drewN | apply below_drew1 | refine below_set ?_ GW143.out) | exact HBW.out)⟩
    · rw [if_neg c3] at H
      exact absurd H (by simp)
  · rw [if_neg c2] at H
    have c2b0 : decide (2000 < (l0.length : Int)) = false := decide_eq_false c2
    have c2b1 : decide (2000 < l0.length) = false := decide_eq_false (by omega)
    clear c2
    simp only [Option.some.injEq, Prod.mk.injEq] at H
    obtain ⟨rfl, rfl⟩ := H
    go_enter Try.func44, Try.ntmps44
    go_wp2_with (first | ((with_reducible refine gate_dst (N := 10) rfl ?_); refine box_event ?hg (N := 10) ?hd (cs := #[.slice A0 l0.length c0, .int .i64 0]) (t := 63) ?hr ?_; (case hd => rfl); (case hg => rfl); (case hr => first | (go_simp; done) | (go_simp; rfl)); intro gb144 hg w6 hbox hb; have n0_ := Aside0.mk (below_step HBW.out hb); have n1_ := Aside0.mk (below_step (by repeat (first | (with_reducible first | exact HB.out | apply below_alloc | apply pw_below_drewN | apply below_drew1) | exact HB.out)) hb); have n2_ := Aside0.mk (hbox); have n3_ := Aside0.mk ((by rw [hg]; exact (below_size (by repeat (first | (with_reducible first | exact HBW.out | apply below_alloc | apply pw_below_drewN | apply below_drew1) | exact HBW.out))) : w.heap.size ≤ gb144)); have n4_ := Aside0.mk ((Nat.le_trans HW0.out (by rw [hg]; exact (below_size (by repeat (first | (with_reducible first | exact HBW.out | apply below_alloc | apply pw_below_drewN | apply below_drew1) | exact HBW.out))) : w.heap.size ≤ gb144) : w0.heap.size ≤ gb144)); clear HBW; clear HB; have HBW := n0_; have HB := n1_; have BK144 := n2_; have GW144 := n3_; have GE144 := n4_; clear n0_ n1_ n2_ n3_ n4_; clear hb hbox hg))
    go_ret
    exact ⟨_, rfl, (show IsS63 w0 _ gb144 l0 0 from ⟨_, _, by (with_reducible repeat (first | refine blk_drewN ?_ _ | refine blk_drew ?_ | refine blk_alloc ?_ _)); exact BK144.out, GE144.out, HR0.out⟩), by repeat (first | (with_reducible first | exact HB.out | apply below_alloc | apply pw_below_drewN | apply below_drew1 | refine below_set ?_ GE144.out) | exact HB.out), by repeat (first | (with_reducible first | exact HBW.out | apply below_alloc | apply pw_below_drewN | apply below_drew1 | refine below_set ?_ GW144.out) | exact HBW.out)⟩

/-! ### spec_l20Rd_pick: function 46 -/
def spec_l20Rd_pick.j0 : Nat → Int → Bool → List Int → Int → Option (Int × Int)
  | 0, _, _, _, _ => none
  | k + 1, x1, x24, x1000, x1001 => if x24 = true then (some (0, x1001)) else (if (wrap64 (x1001 - 1)) < (x1000.length : Int) then (if 0 ≤ (wrap64 (x1001 - 1)) then (if x1 = 0 then (none) else (some (Int.tmod (wrap64 (rd x1000 (wrap64 (x1001 - 1)))) x1, x1001))) else (none)) else (if (x1000.length : Int) = 0 then (none) else (if 0 ≤ (Int.tmod (wrap64 (x1001 - 1)) (x1000.length : Int)) then (if (Int.tmod (wrap64 (x1001 - 1)) (x1000.length : Int)) < (x1000.length : Int) then (if 0 ≤ (Int.tmod (wrap64 ((wrap64 ((wrap64 (x1001 - 1)) * 7)) + 3)) (x1000.length : Int)) then (if (Int.tmod (wrap64 ((wrap64 ((wrap64 (x1001 - 1)) * 7)) + 3)) (x1000.length : Int)) < (x1000.length : Int) then (if x1 = 0 then (none) else (some (Int.tmod (Go.bits .xor .i64 (wrap64 ((wrap64 ((wrap64 ((wrap64 ((wrap64 (rd x1000 (Int.tmod (wrap64 (x1001 - 1)) (x1000.length : Int)))) * 131)) + (wrap64 ((wrap64 (rd x1000 (Int.tmod (wrap64 ((wrap64 ((wrap64 (x1001 - 1)) * 7)) + 3)) (x1000.length : Int)))) * 1117)))) + (wrap64 ((wrap64 (x1001 - 1)) * 29)))) + (wrap64 ((wrap64 (Int.tdiv (wrap64 (x1001 - 1)) (x1000.length : Int))) * 53)))) (wrap64 (Int.tdiv (wrap64 ((wrap64 ((wrap64 ((wrap64 ((wrap64 (rd x1000 (Int.tmod (wrap64 (x1001 - 1)) (x1000.length : Int)))) * 131)) + (wrap64 ((wrap64 (rd x1000 (Int.tmod (wrap64 ((wrap64 ((wrap64 (x1001 - 1)) * 7)) + 3)) (x1000.length : Int)))) * 1117)))) + (wrap64 ((wrap64 (x1001 - 1)) * 29)))) + (wrap64 ((wrap64 (Int.tdiv (wrap64 (x1001 - 1)) (x1000.length : Int))) * 53)))) 64))) x1, x1001))) else (none)) else (none)) else (none)) else (none))))
def spec_l20Rd_pick.f (k : Nat) (s0_0 : List Int) (s0_1 : Int) (a1 : Int) : Option (Int × Int) := if a1 < 1 then (spec_l20Rd_pick.j0 k a1 true s0_0 (wrap64 (s0_1 + 1))) else (spec_l20Rd_pick.j0 k a1 ((s0_0.length : Int) == 0) s0_0 (wrap64 (s0_1 + 1)))
theorem spec_l20Rd_pick.mono_l : ∀ k, (∀ y0 y1 y2 y3, LeO (spec_l20Rd_pick.j0 k y0 y1 y2 y3) (spec_l20Rd_pick.j0 (k + 1) y0 y1 y2 y3))
  | 0 => fun _ _ _ _ r h => by simp [spec_l20Rd_pick.j0] at h
  | k + 1 => by
    have ih0 := spec_l20Rd_pick.mono_l k
    · intro y0 y1 y2 y3
      unfold spec_l20Rd_pick.j0
      repeat' first
      | (with_reducible exact ih0 _ _ _ _)
      | (with_reducible exact LeO.refl _)
      | (with_reducible exact LeO.none _)
      | (with_reducible refine LeO.ite ?_ ?_)
      | (with_reducible refine LeO.bind ?_ (fun _ => ?_))
      | exact ih0 _ _ _ _
      | exact LeO.none _
      | refine LeO.ite ?_ ?_
      | refine LeO.bind ?_ (fun _ => ?_)
theorem spec_l20Rd_pick.mono : ∀ a0 a1 a2 k, LeO (spec_l20Rd_pick.f k a0 a1 a2) (spec_l20Rd_pick.f (k + 1) a0 a1 a2) := by
  intro a0 a1 a2 k
  have ih0 := spec_l20Rd_pick.mono_l k
  unfold spec_l20Rd_pick.f
  repeat' first
      | (with_reducible exact ih0 _ _ _ _)
      | (with_reducible exact LeO.refl _)
      | (with_reducible exact LeO.none _)
      | (with_reducible refine LeO.ite ?_ ?_)
      | (with_reducible refine LeO.bind ?_ (fun _ => ?_))
      | exact ih0 _ _ _ _
      | exact LeO.none _
      | refine LeO.ite ?_ ?_
      | refine LeO.bind ?_ (fun _ => ?_)
set_option maxHeartbeats 8000000 in
set_option maxRecDepth 100000 in
theorem spec_l20Rd_pick.calls (k : Nat) (g : Nat) (s0_0 : List Int) (s0_1 : Int) (a1 : Int) (r1 : Int) (r2 : Int) (w0 w : World) (hI : IsS63 w0 w g s0_0 s0_1) (hB : Below w0.heap.size w0 w) (h : spec_l20Rd_pick.f k s0_0 s0_1 a1 = some (r1, r2)) :
    Calls Try.prog 46 #[.pointer (some ⟨g, 0, none⟩), .int .i64 a1] w fun e w' => e = .returned (.int .i64 r1) ∧ IsS63 w0 w' g s0_0 r2 ∧ Below w0.heap.size w0 w' ∧ KeepBut w w' g none := by
  have HI0 := Aside0.mk hI
  have HK := Aside0.mk (KeepBut.refl w g none)
  have HL := Aside0.mk hB.size
  clear hI
  have HW0 := Aside0.mk hB.size
  have HB := Aside0.mk hB
  clear hB
  have H : (if a1 < 1 then (spec_l20Rd_pick.j0 k a1 true s0_0 (wrap64 (s0_1 + 1))) else (spec_l20Rd_pick.j0 k a1 ((s0_0.length : Int) == 0) s0_0 (wrap64 (s0_1 + 1)))) = some (r1, r2) := h
  clear h
  have HC3 := Aside0.mk H
  clear H
  obtain ⟨ASz4_0, cSz4_0, HGz4, hgz4, HSz4_0⟩ := HI0.out
  have hcz4_0 := cellS63_0 HGz4
  have hcz4_1 := cellS63_1 HGz4
  have hfz4_1 := blk_frozen HGz4 1
  clear HGz4 hgz4
  go_enter Try.func46, Try.ntmps46
  go_upto_region 2 with (fail)
  repeat (go_quiet (fail); go_upto_region 2 with (fail))
  go_cut [24] (fun v24 wc => ∃ (kq : Nat) (x24_2 : Bool), v24 = .bool x24_2 ∧ Aside0 (spec_l20Rd_pick.j0 kq a1 x24_2 s0_0 (wrap64 (s0_1 + 1)) = some (r1, r2)) ∧ Aside0 (kq ≤ k) ∧ Aside0 (IsS63 w0 wc g s0_0 (wrap64 (s0_1 + 1))) ∧ Aside0 (KeepBut w wc g none) ∧ Aside0 (Below w0.heap.size w0 wc))
  case first =>
    have H := HC3.out
    clear HC3
    by_cases c5 : a1 < 1
    · rw [if_pos c5] at H
      have c5b0 : decide (a1 < 1) = true := decide_eq_true c5
      clear c5
      (first | rw [c5b0] | (simp only [i64_w, i32_w]; rw [c5b0]) | skip)
      have H' := Aside0.mk H
      clear H
      go_wp2
      repeat (go_quiet (fail); try go_wp2)
      go_meet
      case rel => exact ⟨_, (true), (by first | rfl | (simp; done) | (simp [*]; done)), H', ⟨by first | omega | exact Nat.le_refl _⟩, ⟨by repeat (first | (with_reducible first | exact HI0.out | apply IsS63.alloc | apply IsS63.drewN | apply IsS63.drew | apply IsS63.set_1) | exact HI0.out)⟩, ⟨by repeat (first | (with_reducible first | exact HK.out | apply KeepBut.set_ | apply keep_drewN | apply keep_drew | apply keep_alloc) | exact HK.out)⟩, ⟨by repeat (first | (with_reducible first | exact HB.out | apply below_alloc | apply pw_below_drewN | apply below_drew1 | refine below_set ?_ (IsS63.ge HI0.out)) | exact HB.out)⟩⟩
    · rw [if_neg c5] at H
      have c5b0 : decide (a1 < 1) = false := decide_eq_false c5
      clear c5
      (first | rw [c5b0] | (simp only [i64_w, i32_w]; rw [c5b0]) | skip)
      have H' := Aside0.mk H
      clear H
      obtain ⟨ASz6_0, cSz6_0, HGz6, hgz6, HSz6_0⟩ := HI0.out
      have hcz6_0 := cellS63_0 HGz6
      have hcz6_1 := cellS63_1 HGz6
      have hfz6_1 := blk_frozen HGz6 1
      clear HGz6 hgz6
      go_wp2
      repeat (go_quiet (fail); try go_wp2)
      go_meet
      case rel => exact ⟨_, (((s0_0.length : Int) == 0)), (by first | rfl | (simp; done) | (simp [*]; done)), H', ⟨by first | omega | exact Nat.le_refl _⟩, ⟨by repeat (first | (with_reducible first | exact HI0.out | apply IsS63.alloc | apply IsS63.drewN | apply IsS63.drew | apply IsS63.set_1) | exact HI0.out)⟩, ⟨by repeat (first | (with_reducible first | exact HK.out | apply KeepBut.set_ | apply keep_drewN | apply keep_drew | apply keep_alloc) | exact HK.out)⟩, ⟨by repeat (first | (with_reducible first | exact HB.out | apply below_alloc | apply pw_below_drewN | apply below_drew1 | refine below_set ?_ (IsS63.ge HI0.out)) | exact HB.out)⟩⟩
  case rest =>
    clear HC3
    try clear p2
    try clear c4
    try clear c5
    try clear c5b0
    try clear p6
    try clear hcz4_0
    try clear hcz4_1
    try clear hcz6_0
    try clear hcz6_1
    try clear hfz4_1
    try clear hfz6_1
    obtain ⟨kq, x24_2, rfl, HA, HJ2, HI0, HK, HB⟩ := hcut
    cases kq with
    | zero => exact absurd HA.out (by simp [spec_l20Rd_pick.j0])
    | succ kj2 =>
      have H := HA.out
      clear HA
      simp only [spec_l20Rd_pick.j0] at H
      by_cases c7 : x24_2 = true
      · subst c7
        have H1 : (some (0, (wrap64 (s0_1 + 1)))) = some (r1, r2) := by rw [if_pos rfl] at H; exact H
        clear H
        have H := H1
        clear H1
        simp only [Option.some.injEq, Prod.mk.injEq] at H
        obtain ⟨rfl, rfl⟩ := H
        go_wp2
        repeat (go_quiet (fail); try go_wp2)
        go_ret
        exact ⟨by first | rfl | (simp [errW_none, errW_some] <;> rfl) | (simp [*, errW_none, errW_some] <;> rfl), by repeat (first | (with_reducible first | exact HI0.out | apply IsS63.alloc | apply IsS63.drewN | apply IsS63.drew | apply IsS63.set_1) | exact HI0.out), by repeat (first | (with_reducible first | exact HB.out | apply below_alloc | apply pw_below_drewN | apply below_drew1 | refine below_set ?_ (IsS63.ge HI0.out)) | exact HB.out), by repeat (first | (with_reducible first | exact HK.out | apply KeepBut.set_ | apply keep_drewN | apply keep_drew | apply keep_alloc) | exact HK.out)⟩
      · replace c7 := Bool.eq_false_iff.mpr c7
        subst c7
        have H1 : (if (wrap64 ((wrap64 (s0_1 + 1)) - 1)) < (s0_0.length : Int) then (if 0 ≤ (wrap64 ((wrap64 (s0_1 + 1)) - 1)) then (if a1 = 0 then (none) else (some (Int.tmod (wrap64 (rd s0_0 (wrap64 ((wrap64 (s0_1 + 1)) - 1)))) a1, (wrap64 (s0_1 + 1))))) else (none)) else (if (s0_0.length : Int) = 0 then (none) else (if 0 ≤ (Int.tmod (wrap64 ((wrap64 (s0_1 + 1)) - 1)) (s0_0.length : Int)) then (if (Int.tmod (wrap64 ((wrap64 (s0_1 + 1)) - 1)) (s0_0.length : Int)) < (s0_0.length : Int) then (if 0 ≤ (Int.tmod (wrap64 ((wrap64 ((wrap64 ((wrap64 (s0_1 + 1)) - 1)) * 7)) + 3)) (s0_0.length : Int)) then (if (Int.tmod (wrap64 ((wrap64 ((wrap64 ((wrap64 (s0_1 + 1)) - 1)) * 7)) + 3)) (s0_0.length : Int)) < (s0_0.length : Int) then (if a1 = 0 then (none) else (some (Int.tmod (Go.bits .xor .i64 (wrap64 ((wrap64 ((wrap64 ((wrap64 ((wrap64 (rd s0_0 (Int.tmod (wrap64 ((wrap64 (s0_1 + 1)) - 1)) (s0_0.length : Int)))) * 131)) + (wrap64 ((wrap64 (rd s0_0 (Int.tmod (wrap64 ((wrap64 ((wrap64 ((wrap64 (s0_1 + 1)) - 1)) * 7)) + 3)) (s0_0.length : Int)))) * 1117)))) + (wrap64 ((wrap64 ((wrap64 (s0_1 + 1)) - 1)) * 29)))) + (wrap64 ((wrap64 (Int.tdiv (wrap64 ((wrap64 (s0_1 + 1)) - 1)) (s0_0.length : Int))) * 53)))) (wrap64 (Int.tdiv (wrap64 ((wrap64 ((wrap64 ((wrap64 ((wrap64 (rd s0_0 (Int.tmod (wrap64 ((wrap64 (s0_1 + 1)) - 1)) (s0_0.length : Int)))) * 131)) + (wrap64 ((wrap64 (rd s0_0 (Int.tmod (wrap64 ((wrap64 ((wrap64 ((wrap64 (s0_1 + 1)) - 1)) * 7)) + 3)) (s0_0.length : Int)))) * 1117)))) + (wrap64 ((wrap64 ((wrap64 (s0_1 + 1)) - 1)) * 29)))) + (wrap64 ((wrap64 (Int.tdiv (wrap64 ((wrap64 (s0_1 + 1)) - 1)) (s0_0.length : Int))) * 53)))) 64))) a1, (wrap64 (s0_1 + 1))))) else (none)) else (none)) else (none)) else (none)))) = some (r1, r2) := by rw [if_neg (show ¬ (false = true) by decide)] at H; exact H
        clear H
        have H := H1
        clear H1
        by_cases c8 : (wrap64 ((wrap64 (s0_1 + 1)) - 1)) < (s0_0.length : Int)
        · rw [if_pos c8] at H
          have c8b0 : decide ((wrap64 ((wrap64 (s0_1 + 1)) - 1)) < (s0_0.length : Int)) = true := decide_eq_true c8
          clear c8
          obtain ⟨ji9, hji9⟩ : ∃ j_ : Int, (wrap64 ((wrap64 (s0_1 + 1)) - 1)) = j_ := ⟨_, rfl⟩
          replace H : (if 0 ≤ (ji9) then (if a1 = 0 then (none) else (some (Int.tmod (wrap64 (rd s0_0 (ji9))) a1, (wrap64 (s0_1 + 1))))) else (none)) = some (r1, r2) := by first | (rw [hji9] at H; exact H) | (simp only [hji9] at H ⊢; exact H)
          (try rw [hji9] at c8b0)
          have hji9w : (IntKind.i64.wrap ((wrap64 (s0_1 + 1)) - 1)) = ji9 := (i64_w _).trans hji9
          by_cases c10 : 0 ≤ (ji9)
          · rw [if_pos c10] at H
            have c10b0 : decide (0 ≤ (ji9)) = true := decide_eq_true c10
            clear c10
            by_cases c11 : a1 = 0
            · rw [if_pos c11] at H
              exact absurd H (by simp)
            · rw [if_neg c11] at H
              have c11b0 : (a1 == 0) = false := beq_eq_false_iff_ne.mpr c11
              have c11b1 : (a1 != 0) = true := bne_iff_ne.mpr c11
              simp only [Option.some.injEq, Prod.mk.injEq] at H
              obtain ⟨rfl, rfl⟩ := H
              obtain ⟨ASz12_0, cSz12_0, HGz12, hgz12, HSz12_0⟩ := HI0.out
              have hcz12_0 := cellS63_0 HGz12
              have hcz12_1 := cellS63_1 HGz12
              have hfz12_1 := blk_frozen HGz12 1
              clear HGz12 hgz12
              have p145 : 0 ≤ ((ji9) : Int) := of_decide_eq_true (by first | (with_reducible assumption) | assumption)
              have q145 : (ji9) < (s0_0.length : Int) := of_decide_eq_true (by first | (with_reducible assumption) | assumption)
              obtain ⟨ad145, e145, hx145_0⟩ := Kd.at_int HSz12_0 (ji9) p145 q145
              cases e145
              replace hx145_0 := pw_cell_below HB.out hx145_0
              replace p145 := eq_true p145
              replace q145 := eq_true q145
              go_wp2
              repeat (go_quiet (fail); try go_wp2)
              go_ret
              exact ⟨by first | rfl | (simp [errW_none, errW_some] <;> rfl) | (simp only [← hji9]; first | rfl | (simp [errW_none, errW_some] <;> rfl)) | (simp [*, errW_none, errW_some] <;> rfl), by repeat (first | (with_reducible first | exact HI0.out | apply IsS63.alloc | apply IsS63.drewN | apply IsS63.drew | apply IsS63.set_1) | exact HI0.out), by repeat (first | (with_reducible first | exact HB.out | apply below_alloc | apply pw_below_drewN | apply below_drew1 | refine below_set ?_ (IsS63.ge HI0.out)) | exact HB.out), by repeat (first | (with_reducible first | exact HK.out | apply KeepBut.set_ | apply keep_drewN | apply keep_drew | apply keep_alloc) | exact HK.out)⟩
          · rw [if_neg c10] at H
            exact absurd H (by simp)
        · rw [if_neg c8] at H
          have c8b0 : decide ((wrap64 ((wrap64 (s0_1 + 1)) - 1)) < (s0_0.length : Int)) = false := decide_eq_false c8
          clear c8
          by_cases c13 : (s0_0.length : Int) = 0
          · rw [if_pos c13] at H
            exact absurd H (by simp)
          · rw [if_neg c13] at H
            have c13b0 : ((s0_0.length : Int) == 0) = false := beq_eq_false_iff_ne.mpr c13
            have c13b1 : ((s0_0.length : Int) != 0) = true := bne_iff_ne.mpr c13
            have c13b2 : ¬ (s0_0 = []) := fun h_ => c13 (by rw [h_]; rfl)
            obtain ⟨ji14, hji14⟩ : ∃ j_ : Int, (Int.tmod (wrap64 ((wrap64 (s0_1 + 1)) - 1)) (s0_0.length : Int)) = j_ := ⟨_, rfl⟩
            replace H : (if 0 ≤ (ji14) then (if (ji14) < (s0_0.length : Int) then (if 0 ≤ (Int.tmod (wrap64 ((wrap64 ((wrap64 ((wrap64 (s0_1 + 1)) - 1)) * 7)) + 3)) (s0_0.length : Int)) then (if (Int.tmod (wrap64 ((wrap64 ((wrap64 ((wrap64 (s0_1 + 1)) - 1)) * 7)) + 3)) (s0_0.length : Int)) < (s0_0.length : Int) then (if a1 = 0 then (none) else (some (Int.tmod (Go.bits .xor .i64 (wrap64 ((wrap64 ((wrap64 ((wrap64 ((wrap64 (rd s0_0 (ji14))) * 131)) + (wrap64 ((wrap64 (rd s0_0 (Int.tmod (wrap64 ((wrap64 ((wrap64 ((wrap64 (s0_1 + 1)) - 1)) * 7)) + 3)) (s0_0.length : Int)))) * 1117)))) + (wrap64 ((wrap64 ((wrap64 (s0_1 + 1)) - 1)) * 29)))) + (wrap64 ((wrap64 (Int.tdiv (wrap64 ((wrap64 (s0_1 + 1)) - 1)) (s0_0.length : Int))) * 53)))) (wrap64 (Int.tdiv (wrap64 ((wrap64 ((wrap64 ((wrap64 ((wrap64 (rd s0_0 (ji14))) * 131)) + (wrap64 ((wrap64 (rd s0_0 (Int.tmod (wrap64 ((wrap64 ((wrap64 ((wrap64 (s0_1 + 1)) - 1)) * 7)) + 3)) (s0_0.length : Int)))) * 1117)))) + (wrap64 ((wrap64 ((wrap64 (s0_1 + 1)) - 1)) * 29)))) + (wrap64 ((wrap64 (Int.tdiv (wrap64 ((wrap64 (s0_1 + 1)) - 1)) (s0_0.length : Int))) * 53)))) 64))) a1, (wrap64 (s0_1 + 1))))) else (none)) else (none)) else (none)) else (none)) = some (r1, r2) := by first | (rw [hji14] at H; exact H) | (simp only [hji14] at H ⊢; exact H)
            by_cases c15 : 0 ≤ (ji14)
            · rw [if_pos c15] at H
              have c15b0 : decide (0 ≤ (ji14)) = true := decide_eq_true c15
              clear c15
              by_cases c16 : (ji14) < (s0_0.length : Int)
              · rw [if_pos c16] at H
                have c16b0 : decide ((ji14) < (s0_0.length : Int)) = true := decide_eq_true c16
                clear c16
                obtain ⟨ji17, hji17⟩ : ∃ j_ : Int, (Int.tmod (wrap64 ((wrap64 ((wrap64 ((wrap64 (s0_1 + 1)) - 1)) * 7)) + 3)) (s0_0.length : Int)) = j_ := ⟨_, rfl⟩
                replace H : (if 0 ≤ (ji17) then (if (ji17) < (s0_0.length : Int) then (if a1 = 0 then (none) else (some (Int.tmod (Go.bits .xor .i64 (wrap64 ((wrap64 ((wrap64 ((wrap64 ((wrap64 (rd s0_0 (ji14))) * 131)) + (wrap64 ((wrap64 (rd s0_0 (ji17))) * 1117)))) + (wrap64 ((wrap64 ((wrap64 (s0_1 + 1)) - 1)) * 29)))) + (wrap64 ((wrap64 (Int.tdiv (wrap64 ((wrap64 (s0_1 + 1)) - 1)) (s0_0.length : Int))) * 53)))) (wrap64 (Int.tdiv (wrap64 ((wrap64 ((wrap64 ((wrap64 ((wrap64 (rd s0_0 (ji14))) * 131)) + (wrap64 ((wrap64 (rd s0_0 (ji17))) * 1117)))) + (wrap64 ((wrap64 ((wrap64 (s0_1 + 1)) - 1)) * 29)))) + (wrap64 ((wrap64 (Int.tdiv (wrap64 ((wrap64 (s0_1 + 1)) - 1)) (s0_0.length : Int))) * 53)))) 64))) a1, (wrap64 (s0_1 + 1))))) else (none)) else (none)) = some (r1, r2) := by first | (rw [hji17] at H; exact H) | (simp only [hji17] at H ⊢; exact H)
                by_cases c18 : 0 ≤ (ji17)
                · rw [if_pos c18] at H
                  have c18b0 : decide (0 ≤ (ji17)) = true := decide_eq_true c18
                  clear c18
                  by_cases c19 : (ji17) < (s0_0.length : Int)
                  · rw [if_pos c19] at H
                    have c19b0 : decide ((ji17) < (s0_0.length : Int)) = true := decide_eq_true c19
                    clear c19
                    by_cases c20 : a1 = 0
                    · rw [if_pos c20] at H
                      exact absurd H (by simp)
                    · rw [if_neg c20] at H
                      have c20b0 : (a1 == 0) = false := beq_eq_false_iff_ne.mpr c20
                      have c20b1 : (a1 != 0) = true := bne_iff_ne.mpr c20
                      simp only [Option.some.injEq, Prod.mk.injEq] at H
                      obtain ⟨rfl, rfl⟩ := H
                      obtain ⟨ASz21_0, cSz21_0, HGz21, hgz21, HSz21_0⟩ := HI0.out
                      have hcz21_0 := cellS63_0 HGz21
                      have hcz21_1 := cellS63_1 HGz21
                      have hfz21_1 := blk_frozen HGz21 1
                      clear HGz21 hgz21
                      have p146 : 0 ≤ ((ji14) : Int) := of_decide_eq_true (by first | (with_reducible assumption) | assumption)
                      have q146 : (ji14) < (s0_0.length : Int) := of_decide_eq_true (by first | (with_reducible assumption) | assumption)
                      obtain ⟨ad146, e146, hx146_0⟩ := Kd.at_int HSz21_0 (ji14) p146 q146
                      cases e146
                      replace hx146_0 := pw_cell_below HB.out hx146_0
                      replace p146 := eq_true p146
                      replace q146 := eq_true q146
                      have p147 : 0 ≤ ((ji17) : Int) := of_decide_eq_true (by first | (with_reducible assumption) | assumption)
                      have q147 : (ji17) < (s0_0.length : Int) := of_decide_eq_true (by first | (with_reducible assumption) | assumption)
                      obtain ⟨ad147, e147, hx147_0⟩ := Kd.at_int HSz21_0 (ji17) p147 q147
                      obtain rfl : ad146 = ad147 := (by injection e147)
                      replace hx147_0 := pw_cell_below HB.out hx147_0
                      replace p147 := eq_true p147
                      replace q147 := eq_true q147
                      go_wp2
                      repeat (go_quiet (fail); try go_wp2)
                      go_ret
                      exact ⟨by first | rfl | (simp [errW_none, errW_some] <;> rfl) | (simp only [← hji14, ← hji17]; first | rfl | (simp [errW_none, errW_some] <;> rfl)) | (simp [*, errW_none, errW_some] <;> rfl), by repeat (first | (with_reducible first | exact HI0.out | apply IsS63.alloc | apply IsS63.drewN | apply IsS63.drew | apply IsS63.set_1) | exact HI0.out), by repeat (first | (with_reducible first | exact HB.out | apply below_alloc | apply pw_below_drewN | apply below_drew1 | refine below_set ?_ (IsS63.ge HI0.out)) | exact HB.out), by repeat (first | (with_reducible first | exact HK.out | apply KeepBut.set_ | apply keep_drewN | apply keep_drew | apply keep_alloc) | exact HK.out)⟩
                  · rw [if_neg c19] at H
                    exact absurd H (by simp)
                · rw [if_neg c18] at H
                  exact absurd H (by simp)
              · rw [if_neg c16] at H
                exact absurd H (by simp)
            · rw [if_neg c15] at H
              exact absurd H (by simp)

/-! ### spec_l20Rd_odd: function 69 -/
def spec_l20Rd_odd.f (k : Nat) (s0_0 : List Int) (s0_1 : Int) (a1 : Int) : Option (Bool × Int) := if a1 > 0 then ((spec_l20Rd_pick.f k s0_0 s0_1 a1).bind fun bt148 => (some ((bt148.1 == (wrap64 (a1 - 1))), bt148.2))) else (some (false, s0_1))
theorem spec_l20Rd_odd.mono : ∀ a0 a1 a2 k, LeO (spec_l20Rd_odd.f k a0 a1 a2) (spec_l20Rd_odd.f (k + 1) a0 a1 a2) := by
  intro a0 a1 a2 k
  unfold spec_l20Rd_odd.f
  repeat' first
      | (with_reducible exact spec_l20Rd_pick.mono _ _ _ _)
      | (with_reducible exact LeO.refl _)
      | (with_reducible exact LeO.none _)
      | (with_reducible refine LeO.ite ?_ ?_)
      | (with_reducible refine LeO.bind ?_ (fun _ => ?_))
      | exact spec_l20Rd_pick.mono _ _ _ _
      | exact LeO.none _
      | refine LeO.ite ?_ ?_
      | refine LeO.bind ?_ (fun _ => ?_)
set_option maxHeartbeats 8000000 in
set_option maxRecDepth 100000 in
theorem spec_l20Rd_odd.calls (k : Nat) (g : Nat) (s0_0 : List Int) (s0_1 : Int) (a1 : Int) (r1 : Bool) (r2 : Int) (w0 w : World) (hI : IsS63 w0 w g s0_0 s0_1) (hB : Below w0.heap.size w0 w) (h : spec_l20Rd_odd.f k s0_0 s0_1 a1 = some (r1, r2)) :
    Calls Try.prog 69 #[.pointer (some ⟨g, 0, none⟩), .int .i64 a1] w fun e w' => e = .returned (.bool r1) ∧ IsS63 w0 w' g s0_0 r2 ∧ Below w0.heap.size w0 w' ∧ KeepBut w w' g none := by
  have HI0 := Aside0.mk hI
  have HK := Aside0.mk (KeepBut.refl w g none)
  have HL := Aside0.mk hB.size
  clear hI
  have HW0 := Aside0.mk hB.size
  have HB := Aside0.mk hB
  clear hB
  have H : (if a1 > 0 then ((spec_l20Rd_pick.f k s0_0 s0_1 a1).bind fun bt148 => (some ((bt148.1 == (wrap64 (a1 - 1))), bt148.2))) else (some (false, s0_1))) = some (r1, r2) := h
  clear h
  by_cases c3 : a1 > 0
  · rw [if_pos c3] at H
    have c3b0 : decide (0 < a1) = true := decide_eq_true c3
    clear c3
    replace H := Option.bind_eq_some_iff.mp H
    obtain ⟨⟨t148, t149⟩, A40, H⟩ := H
    replace H : (some ((t148 == (wrap64 (a1 - 1))), t149)) = some (r1, r2) := H
    have A4 := Aside0.mk A40
    clear A40
    simp only [Option.some.injEq, Prod.mk.injEq] at H
    obtain ⟨rfl, rfl⟩ := H
    go_enter Try.func69, Try.ntmps69
    go_wp2_with (first | (go_at_call 46; (with_reducible refine (spec_l20Rd_pick.calls k g s0_0 s0_1 a1 t148 t149 w0 _ ?side1 ?side2 A4.out).mono ?_); (case side1 => repeat (first | (with_reducible first | exact HI0.out | apply IsS63.alloc | apply IsS63.drewN | apply IsS63.drew | apply IsS63.set_1) | exact HI0.out)); (case side2 => repeat (first | (with_reducible first | exact HB.out | apply below_alloc | apply pw_below_drewN | apply below_drew1 | refine below_set ?_ (IsS63.ge HI0.out)) | exact HB.out)); rintro e w5 ⟨rfl, hi, hb, hk⟩; have n0_ := Aside0.mk (KeepBut.trans (by repeat (first | (with_reducible first | exact HK.out | apply KeepBut.set_ | apply keep_drewN | apply keep_drew | apply keep_alloc) | exact HK.out)) hk (.inl rfl)); have n1_ := Aside0.mk (hb); have n2_ := Aside0.mk (hi); clear HK; clear HB; clear HI0; have HK := n0_; have HB := n1_; have HI0 := n2_; clear n0_ n1_ n2_; (try clear hb); (try clear hb2); (try clear hk); (try clear hi)))
    go_ret
    exact ⟨by first | rfl | (simp [errW_none, errW_some] <;> rfl) | (simp [*, errW_none, errW_some] <;> rfl), by repeat (first | (with_reducible first | exact HI0.out | apply IsS63.alloc | apply IsS63.drewN | apply IsS63.drew | apply IsS63.set_1) | exact HI0.out), by repeat (first | (with_reducible first | exact HB.out | apply below_alloc | apply pw_below_drewN | apply below_drew1 | refine below_set ?_ (IsS63.ge HI0.out)) | exact HB.out), by repeat (first | (with_reducible first | exact HK.out | apply KeepBut.set_ | apply keep_drewN | apply keep_drew | apply keep_alloc) | exact HK.out)⟩
  · rw [if_neg c3] at H
    have c3b0 : decide (0 < a1) = false := decide_eq_false c3
    clear c3
    simp only [Option.some.injEq, Prod.mk.injEq] at H
    obtain ⟨rfl, rfl⟩ := H
    go_enter Try.func69, Try.ntmps69
    go_wp2
    go_ret
    exact ⟨by first | rfl | (simp [errW_none, errW_some] <;> rfl) | (simp [*, errW_none, errW_some] <;> rfl), by repeat (first | (with_reducible first | exact HI0.out | apply IsS63.alloc | apply IsS63.drewN | apply IsS63.drew | apply IsS63.set_1) | exact HI0.out), by repeat (first | (with_reducible first | exact HB.out | apply below_alloc | apply pw_below_drewN | apply below_drew1 | refine below_set ?_ (IsS63.ge HI0.out)) | exact HB.out), by repeat (first | (with_reducible first | exact HK.out | apply KeepBut.set_ | apply keep_drewN | apply keep_drew | apply keep_alloc) | exact HK.out)⟩

end Go.Proofs.Ytniinbnpdnajjaa.PFnRenameGrid
