-- Made by a program of this session (a changed copy of the kit print): the kit print itself does not give this text
import Derived.Test.YtapnohcfnclleaaPFnExactPictureFirstx0
import Derived.Test.YtapnohcfnclleaaPFnExactPictureFirstx5
import Derived.Test.YtapnohcfnclleaaPFnExactPictureFirstx6
import Derived.Test.YtapnohcfnclleaaPFnExactPictureFirstx7
import Derived.Test.YtapnohcfnclleaaPFnExactPictureFirstx9
import Derived.Test.YtapnohcfnclleaaV2
namespace Go.Proofs.Ytapnohcfnclleaa.PFnExactPictureFirst
open Go.RowKit Go.Proofs.YtapnohcfnclleaaW.PrintWords Go.Proofs.YtapnohcfnclleaaW.PrintLast Go.Proofs.YtapnohcfnclleaaW.PrintMore
attribute [local go_sem] max2_int min2_int max_two min_two max_three min_three max_four min_four   -- for this text's walks alone
set_option linter.unusedVariables false
set_option linter.unusedSimpArgs false

/-! ### spec_l1OwnRowsInt: function 90 -/
def spec_l1OwnRowsInt.l0 : Nat → List (List Int) → List (List Int) → Int → Option ((List (List Int)))
  | 0, _, _, _ => none
  | k + 1, x0, x3, x4 => if x4 < (x0.length : Int) then ((some (([] : List Int) : List Int)).bind fun y240 => (if 0 ≤ x4 then (if y240.length + (rd_L1 x0 x4).length < 17592186044416 then (if x3.length < 5864062014805 then (spec_l1OwnRowsInt.l0 k x0 (x3 ++ [(y240 ++ (rd_L1 x0 x4))]) (wrap64 (x4 + 1))) else (none)) else (none)) else (none))) else (some x3)
def spec_l1OwnRowsInt.f (k : Nat) (l0 : List (List Int)) : Option ((List (List Int))) := spec_l1OwnRowsInt.l0 k l0 (([] : List (List Int))) 0
theorem spec_l1OwnRowsInt.mono_l : ∀ k, (∀ y0 y1 y2, LeO (spec_l1OwnRowsInt.l0 k y0 y1 y2) (spec_l1OwnRowsInt.l0 (k + 1) y0 y1 y2))
  | 0 => fun _ _ _ r h => by simp [spec_l1OwnRowsInt.l0] at h
  | k + 1 => by
    have ih0 := spec_l1OwnRowsInt.mono_l k
    · intro y0 y1 y2
      unfold spec_l1OwnRowsInt.l0
      repeat' first
      | (with_reducible exact ih0 _ _ _)
      | (with_reducible exact LeO.refl _)
      | (with_reducible exact LeO.none _)
      | (with_reducible refine LeO.ite ?_ ?_)
      | (with_reducible refine LeO.bind ?_ (fun _ => ?_))
      | exact ih0 _ _ _
      | exact LeO.none _
      | refine LeO.ite ?_ ?_
      | refine LeO.bind ?_ (fun _ => ?_)
theorem spec_l1OwnRowsInt.mono : ∀ a0 k, LeO (spec_l1OwnRowsInt.f k a0) (spec_l1OwnRowsInt.f (k + 1) a0) := by
  intro a0 k
  have ih0 := spec_l1OwnRowsInt.mono_l k
  unfold spec_l1OwnRowsInt.f
  repeat' first
      | (with_reducible exact ih0 _ _ _)
      | (with_reducible exact LeO.refl _)
      | (with_reducible exact LeO.none _)
      | (with_reducible refine LeO.ite ?_ ?_)
      | (with_reducible refine LeO.bind ?_ (fun _ => ?_))
      | exact ih0 _ _ _
      | exact LeO.none _
      | refine LeO.ite ?_ ?_
      | refine LeO.bind ?_ (fun _ => ?_)
set_option maxHeartbeats 8000000 in
set_option maxRecDepth 100000 in
theorem spec_l1OwnRowsInt.calls (k : Nat) (A0 : Option Addr) (c0 : Nat) (l0 : List (List Int)) (r : List (List Int)) (w : World) (hr0 : Kd.C (Kd.slice 3 (Kd.int .i64)) w A0 l0.length l0) (hc0 : l0.length ≤ c0) (h : spec_l1OwnRowsInt.f k l0 = some r) :
    Calls Try.prog 90 #[.slice A0 l0.length c0] w fun e w' => ∃ v0_ : Value, e = .returned (v0_) ∧ Kd.R (Kd.slice 3 (Kd.int .i64)) 36 w' w.heap.size (fun _ => True) v0_ r ∧ Below w.heap.size w w' := by
  have HR0 := Aside0.mk hr0
  have HC0 := Aside0.mk hc0
  clear hr0 hc0
  have HB := Aside0.mk (Below.refl w.heap.size w)
  have H : (spec_l1OwnRowsInt.l0 k l0 (([] : List (List Int))) 0) = some r := h
  clear h
  obtain ⟨y237, hy237⟩ : ∃ y_ : List (List Int), y_ = (([] : List (List Int))) := ⟨_, rfl⟩
  replace H : (spec_l1OwnRowsInt.l0 k l0 y237 0) = some r := by first | (rw [hy237]; with_reducible exact H) | (have H2_ := (Option.bind_some _ _).symm.trans H; rw [hy237]; with_reducible exact H2_) | (have H2_ := (Option.bind_some _ _).symm.trans H; with_reducible exact H2_) | with_reducible exact H | (rw [hy237]; exact H) | exact H
  have Ny237 := Aside0.mk hy237
  clear hy237
  have H' := Aside0.mk H
  clear H
  go_enter Try.func90, Try.ntmps90
  go_wp2_with (first | ((with_reducible refine gate_dst (N := 5) rfl ?_); refine Kd.R_lit (Kd.slice 3 (Kd.int .i64)) _ 36 ?hg (N := 5) ?hd (xs := ([] : List (List Int))) (inner := []) (ok := fun _ => True) (okp := fun _ => True) ?hr ?hp (fun _ hk => hk) trivial (Below.refl _ _) (Nat.le_refl _) (by simp) ?_; (case hd => rfl); (case hg => rfl); (case hr => first | (go_simp; done) | (go_simp; rfl)); (case hp => exact (Reps.none _ _)); intro v238 w2 ho3 hb hg_ hnew_; clear hg_ hnew_; (first | rw [← Ny237.out] at ho3 | (simp only [Int.reduceToNat] at ho3; rw [← Ny237.out] at ho3)); have n0_ := Aside0.mk (Kd.R_lower ho3 (below_size (by repeat (first | (with_reducible first | exact HB.out | apply below_alloc | apply pw_below_drewN | apply below_drew1) | exact HB.out)))); have n1_ := Aside0.mk (below_step (by repeat (first | (with_reducible first | exact HB.out | apply below_alloc | apply pw_below_drewN | apply below_drew1) | exact HB.out)) hb); clear HB; have HO239 := n0_; have HB := n1_; clear n0_ n1_; clear hb ho3))
  go_loopg [3, 4] k (fun kq v3 v4 w' => ∃ (x3_1 : List (List Int)) (x4_1 : Int), v4 = .int .i64 x4_1 ∧ Aside0 (spec_l1OwnRowsInt.l0 kq l0 x3_1 x4_1 = some r) ∧ Aside0 (kq ≤ k) ∧ Aside0 (Kd.R (Kd.slice 3 (Kd.int .i64)) 36 w' w.heap.size (fun _ => True) v3 x3_1) ∧ Aside0 (Below w.heap.size w w'))
  case atStart => exact ⟨(y237), (0), (by first | rfl | (simp; done) | (simp [*]; done)), H', ⟨Nat.le_refl _⟩, ⟨by (with_reducible repeat (first | apply Kd.R_alloc | apply Kd.R_drewN | apply Kd.R_drew)); exact HO239.out⟩, ⟨by repeat (first | (with_reducible first | exact HB.out | apply below_alloc | apply pw_below_drewN | apply below_drew1) | exact HB.out)⟩⟩
  case round =>
    clear H'
    try clear p2
    obtain ⟨x3_1, x4_1, rfl, HA, HK1, HO_3, HB⟩ := hrel
    cases gk with
    | zero => exact absurd HA.out (by simp [spec_l1OwnRowsInt.l0])
    | succ k1 =>
      have H := HA.out
      clear HA
      simp only [spec_l1OwnRowsInt.l0] at H
      by_cases c4 : x4_1 < (l0.length : Int)
      · rw [if_pos c4] at H
        have c4b0 : decide (x4_1 < (l0.length : Int)) = true := decide_eq_true c4
        clear c4
        obtain ⟨y240, hy240⟩ : ∃ y_ : List Int, y_ = (([] : List Int)) := ⟨_, rfl⟩
        replace H : (if 0 ≤ x4_1 then (if y240.length + (rd_L1 l0 x4_1).length < 17592186044416 then (if x3_1.length < 5864062014805 then (spec_l1OwnRowsInt.l0 k1 l0 (x3_1 ++ [(y240 ++ (rd_L1 l0 x4_1))]) (wrap64 (x4_1 + 1))) else (none)) else (none)) else (none)) = some r := by first | (rw [hy240]; with_reducible exact H) | (have H2_ := (Option.bind_some _ _).symm.trans H; rw [hy240]; with_reducible exact H2_) | (have H2_ := (Option.bind_some _ _).symm.trans H; with_reducible exact H2_) | with_reducible exact H | (rw [hy240]; exact H) | exact H
        have Ny240 := Aside0.mk hy240
        clear hy240
        by_cases c5 : 0 ≤ x4_1
        · rw [if_pos c5] at H
          have c5b0 : decide (0 ≤ x4_1) = true := decide_eq_true c5
          clear c5
          by_cases c6 : y240.length + (rd_L1 l0 x4_1).length < 17592186044416
          · rw [if_pos c6] at H
            have LMc6 := Aside0.mk c6
            clear c6
            obtain ⟨y244, hy244⟩ : ∃ y_ : List Int, y_ = (y240 ++ (rd_L1 l0 x4_1)) := ⟨_, rfl⟩
            replace H : (if x3_1.length < 5864062014805 then (spec_l1OwnRowsInt.l0 k1 l0 (x3_1 ++ [y244]) (wrap64 (x4_1 + 1))) else (none)) = some r := by first | (rw [hy244]; with_reducible exact H) | (have H2_ := (Option.bind_some _ _).symm.trans H; rw [hy244]; with_reducible exact H2_) | (have H2_ := (Option.bind_some _ _).symm.trans H; with_reducible exact H2_) | with_reducible exact H | (rw [hy244]; exact H) | exact H
            have Ny244 := Aside0.mk hy244
            clear hy244
            by_cases c7 : x3_1.length < 5864062014805
            · rw [if_pos c7] at H
              have LMc7 := Aside0.mk c7
              clear c7
              obtain ⟨y247, hy247⟩ : ∃ y_ : List (List Int), y_ = (x3_1 ++ [y244]) := ⟨_, rfl⟩
              replace H : (spec_l1OwnRowsInt.l0 k1 l0 y247 (wrap64 (x4_1 + 1))) = some r := by first | (rw [hy247]; with_reducible exact H) | (have H2_ := (Option.bind_some _ _).symm.trans H; rw [hy247]; with_reducible exact H2_) | (have H2_ := (Option.bind_some _ _).symm.trans H; with_reducible exact H2_) | with_reducible exact H | (rw [hy247]; exact H) | exact H
              have Ny247 := Aside0.mk hy247
              clear hy247
              have H' := Aside0.mk H
              clear H
              go_wp2_with (first | ((with_reducible refine gate_dst (N := 13) rfl ?_); refine Kd.R_lit (Kd.int .i64) _ 3 ?hg (N := 13) ?hd (xs := ([] : List Int)) (inner := []) (ok := fun _ => True) (okp := fun _ => True) ?hr ?hp (fun _ hk => hk) trivial (Below.refl _ _) (Nat.le_refl _) (by simp) ?_; (case hd => rfl); (case hg => rfl); (case hr => first | (go_simp; done) | (go_simp; rfl) | (obtain ⟨A_, c_, e_⟩ := Kd.R_slice HO246.out; rw [e_]; go_simp; done) | (obtain ⟨A_, c_, e_⟩ := Kd.R_slice HO246.out; rw [e_]; go_simp; rfl)); (case hp => exact (Reps.none _ _)); intro v241 w8 ho9 hb hg_ hnew_; clear hg_ hnew_; (first | rw [← Ny240.out] at ho9 | (simp only [Int.reduceToNat] at ho9; rw [← Ny240.out] at ho9)); have n0_ := Aside0.mk (Kd.R_elder' (by (with_reducible repeat (first | apply Kd.R_alloc | apply Kd.R_drewN | apply Kd.R_drew)); exact HO_3.out) (Kd.R_base ho9) hb); have n1_ := Aside0.mk (Kd.R_lower ho9 (below_size (by repeat (first | (with_reducible first | exact HB.out | apply below_alloc | apply pw_below_drewN | apply below_drew1) | exact HB.out)))); have n2_ := Aside0.mk (below_step (by repeat (first | (with_reducible first | exact HB.out | apply below_alloc | apply pw_below_drewN | apply below_drew1) | exact HB.out)) hb); clear HO_3; clear HB; have HO_3 := n0_; have HO242 := n1_; have HB := n2_; clear n0_ n1_ n2_; clear hb ho9; have p243 : 0 ≤ (x4_1 : Int) := of_decide_eq_true (by first | (with_reducible assumption) | assumption); have q243 : x4_1 < (l0.length : Int) := of_decide_eq_true (by first | (with_reducible assumption) | assumption); obtain ⟨ad243, A243_0, c243_0, e243, hx243_0, hl243_0, hi243_0⟩ := at_L1 HR0.out x4_1 p243 q243; cases e243; replace hx243_0 := (HB.out.cell (World.block_lt_of_cell? w _ hx243_0)).trans hx243_0; have HR243_0 := Aside0.mk hi243_0; have HC243_0 := Aside0.mk hl243_0; clear hi243_0 hl243_0; replace p243 := eq_true p243; replace q243 := eq_true q243) | ((with_reducible refine gate_builtin (b := .append) (xs := #[.tmp 13, .tmp 17]) rfl ?_); at_builtin; refine Kd.R_append_rows (Kd.int .i64) (w0 := w) w.heap.size rfl (.tmp 13) (.tmp 17) 36 3 (.int .i64 0) 8 rfl Try.underlying36 info3 rfl (by decide) (by omega) v241 y240 (rd_L1 l0 x4_1) _ _ _ (fun _ => True) (fun _ => False) rfl rfl ?aO ?aR (fun _ _ h => h) (fun _ h => h.elim) ?aF ?aB ?aS ?aL ?_; (case aR => repeat (first | exact (Kd.C_below HR243_0.out HB.out) | (with_reducible refine Kd.C_alloc ?_ _) | (with_reducible refine Kd.C_drewN ?_ _) | (with_reducible refine Kd.C_drew ?_))); (case aB => exact (by repeat (first | (with_reducible first | exact HB.out | apply below_alloc | apply pw_below_drewN | apply below_drew1) | exact HB.out))); (case aF => exact (fun _ _ => trivial)); (case aO => exact (by (with_reducible repeat (first | apply Kd.R_alloc | apply Kd.R_drewN | apply Kd.R_drew)); exact HO242.out)); (case aS => exact (below_size (by repeat (first | (with_reducible first | exact HB.out | apply below_alloc | apply pw_below_drewN | apply below_drew1) | exact HB.out)))); (case aL => have := LMc6.out; omega); intro v245 w10 ho hb hg hat; rw [← Ny244.out] at ho; have n0_ := Aside0.mk (Kd.R_after (ok := (fun _ => True)) (by (with_reducible repeat (first | apply Kd.R_alloc | apply Kd.R_drewN | apply Kd.R_drew)); exact HO_3.out) hg hat); have n1_ := Aside0.mk (hb); have n2_ := Aside0.mk (ho); clear HO_3; clear HB; clear HO242; have HO_3 := n0_; have HB := n1_; have HO246 := n2_; clear n0_ n1_ n2_; clear ho hb hg hat; obtain ⟨Ao12, co12, eo12⟩ := Kd.R_slice HO246.out; subst eo12) | ((with_reducible refine gate_builtin (b := .append) (xs := #[.tmp 12, .tmp 19]) rfl ?_); at_builtin; refine Kd.R_append (Kd.slice 3 (Kd.int .i64)) (w0 := w) w.heap.size rfl (.tmp 12) (.tmp 19) 23 36 (.slice none 0 0) 24 rfl Try.underlying23 info36 rfl (by decide) (by omega) u3 x3_1 y244 [.slice Ao12 y244.length co12] (fun _ => True) (fun k_ => ((fun _ => True)) k_ ∧ some k_ ≠ (u3 : Value).ownBlock) rfl rfl ?aP (fun _ hk => hk) ?aF ?aO ?aB ?aS ?aL ?_; (case aP => exact Kd.M_row (Kd.R_mono (Kd.R_apart' (HO246.out) (Kd.R_typed HO_3.out) (by decide)) (fun k_ hk => ⟨trivial, hk.2⟩))); (case aB => exact (by repeat (first | (with_reducible first | exact HB.out | apply below_alloc | apply pw_below_drewN | apply below_drew1) | exact HB.out))); (case aF => exact (fun _ _ => trivial)); (case aO => exact (by (with_reducible repeat (first | apply Kd.R_alloc | apply Kd.R_drewN | apply Kd.R_drew)); exact Kd.R_mono HO_3.out (fun _ hk => trivial))); (case aS => exact (below_size (by repeat (first | (with_reducible first | exact HB.out | apply below_alloc | apply pw_below_drewN | apply below_drew1) | exact HB.out)))); (case aL => have := LMc7.out; omega); intro v248 w11 ho hb hg hat; rw [← Ny247.out] at ho; have n0_ := Aside0.mk (hb); have n1_ := Aside0.mk (ho); clear HB; clear HO_3; clear HO246; have HB := n0_; have HO249 := n1_; clear n0_ n1_; clear ho hb hg hat))
              go_roundg k1
              case measure => have := HK1.out; omega
              case rel => exact ⟨(y247), (wrap64 (x4_1 + 1)), (by first | rfl | (simp; done) | (simp [*]; done)), H', ⟨by have := HK1.out; omega⟩, ⟨by (with_reducible repeat (first | apply Kd.R_alloc | apply Kd.R_drewN | apply Kd.R_drew)); exact HO249.out⟩, ⟨by repeat (first | (with_reducible first | exact HB.out | apply below_alloc | apply pw_below_drewN | apply below_drew1) | exact HB.out)⟩⟩
            · rw [if_neg c7] at H
              exact absurd H (by simp)
          · rw [if_neg c6] at H
            exact absurd H (by simp)
        · rw [if_neg c5] at H
          exact absurd H (by simp)
      · rw [if_neg c4] at H
        have c4b0 : decide (x4_1 < (l0.length : Int)) = false := decide_eq_false c4
        clear c4
        obtain rfl := Option.some.inj H
        go_wp2
        go_ret
        exact ⟨_, by first | rfl | (simp [errW_none, errW_some] <;> rfl) | (simp [*, errW_none, errW_some] <;> rfl), by (with_reducible repeat (first | apply Kd.R_alloc | apply Kd.R_drewN | apply Kd.R_drew)); exact HO_3.out, by repeat (first | (with_reducible first | exact HB.out | apply below_alloc | apply pw_below_drewN | apply below_drew1) | exact HB.out)⟩

/-! ### spec_l1OwnPicture: function 74 -/
def spec_l1OwnPicture.f (k : Nat) (l0_0 : List (List Int)) (l0_1 : List (List Int)) : Option ((List (List Int)) × (List (List Int))) := (spec_l1OwnRowsInt.f k l0_0).bind fun t253 => ((spec_l1OwnRowsInt.f k l0_1).bind fun t256 => (some (t253, t256)))
theorem spec_l1OwnPicture.mono : ∀ a0 a1 k, LeO (spec_l1OwnPicture.f k a0 a1) (spec_l1OwnPicture.f (k + 1) a0 a1) := by
  intro a0 a1 k
  unfold spec_l1OwnPicture.f
  repeat' first
      | (with_reducible exact spec_l1OwnRowsInt.mono _ _)
      | (with_reducible exact LeO.refl _)
      | (with_reducible exact LeO.none _)
      | (with_reducible refine LeO.ite ?_ ?_)
      | (with_reducible refine LeO.bind ?_ (fun _ => ?_))
      | exact spec_l1OwnRowsInt.mono _ _
      | exact LeO.none _
      | refine LeO.ite ?_ ?_
      | refine LeO.bind ?_ (fun _ => ?_)
set_option maxHeartbeats 8000000 in
set_option maxRecDepth 100000 in
theorem spec_l1OwnPicture.calls (k : Nat) (A0_0 : Option Addr) (c0_0 : Nat) (l0_0 : List (List Int)) (A0_1 : Option Addr) (c0_1 : Nat) (l0_1 : List (List Int)) (r1 : List (List Int)) (r2 : List (List Int)) (w : World) (hr0_0 : Kd.C (Kd.slice 3 (Kd.int .i64)) w A0_0 l0_0.length l0_0) (hc0_0 : l0_0.length ≤ c0_0) (hr0_1 : Kd.C (Kd.slice 3 (Kd.int .i64)) w A0_1 l0_1.length l0_1) (hc0_1 : l0_1.length ≤ c0_1) (h : spec_l1OwnPicture.f k l0_0 l0_1 = some (r1, r2)) :
    Calls Try.prog 74 #[.agg #[.slice A0_0 l0_0.length c0_0, .slice A0_1 l0_1.length c0_1]] w fun e w' => ∃ v0_ v1_ : Value, e = .returned (.agg #[v0_, v1_]) ∧ Kd.R (Kd.slice 3 (Kd.int .i64)) 36 w' w.heap.size (fun k_ => some k_ ≠ (v1_ : Value).ownBlock) v0_ r1 ∧ Kd.R (Kd.slice 3 (Kd.int .i64)) 36 w' w.heap.size (fun k_ => some k_ ≠ (v0_ : Value).ownBlock) v1_ r2 ∧ Below w.heap.size w w' := by
  have hu25 := Try.underlying25
  have HR0_0 := Aside0.mk hr0_0
  have HC0_0 := Aside0.mk hc0_0
  clear hr0_0 hc0_0
  have HR0_1 := Aside0.mk hr0_1
  have HC0_1 := Aside0.mk hc0_1
  clear hr0_1 hc0_1
  have HB := Aside0.mk (Below.refl w.heap.size w)
  have H : ((spec_l1OwnRowsInt.f k l0_0).bind fun t253 => ((spec_l1OwnRowsInt.f k l0_1).bind fun t256 => (some (t253, t256)))) = some (r1, r2) := h
  clear h
  replace H := Option.bind_eq_some_iff.mp H
  obtain ⟨t253, A20, H⟩ := H
  replace H : ((spec_l1OwnRowsInt.f k l0_1).bind fun t256 => (some (t253, t256))) = some (r1, r2) := H
  have A2 := Aside0.mk A20
  clear A20
  replace H := Option.bind_eq_some_iff.mp H
  obtain ⟨t256, A30, H⟩ := H
  replace H : (some (t253, t256)) = some (r1, r2) := H
  have A3 := Aside0.mk A30
  clear A30
  simp only [Option.some.injEq, Prod.mk.injEq] at H
  obtain ⟨rfl, rfl⟩ := H
  go_enter Try.func74, Try.ntmps74
  go_wp2_with (first | ((with_reducible refine gate_dst (N := 1) rfl ?_); refine box_event ?hg (N := 1) ?hd (cs := #[.slice A0_0 l0_0.length c0_0, .slice A0_1 l0_1.length c0_1]) (t := 25) ?hr ?_; (case hd => rfl); (case hg => rfl); (case hr => first | (go_simp; done) | (go_simp; rfl)); intro gb250 hg w4 hbox hb; have n0_ := Aside0.mk (below_step (by repeat (first | (with_reducible first | exact HB.out | apply below_alloc | apply pw_below_drewN | apply below_drew1) | exact HB.out)) hb); have n1_ := Aside0.mk (hbox); have n2_ := Aside0.mk ((by rw [hg]; exact (below_size (by repeat (first | (with_reducible first | exact HB.out | apply below_alloc | apply pw_below_drewN | apply below_drew1) | exact HB.out))) : w.heap.size ≤ gb250)); have n3_ := Aside0.mk ((by rw [hg]; exact (below_size (by repeat (first | (with_reducible first | exact HB.out | apply below_alloc | apply pw_below_drewN | apply below_drew1) | exact HB.out))) : w.heap.size ≤ gb250)); clear HB; have HB := n0_; have BK250 := n1_; have GW250 := n2_; have GE250 := n3_; clear n0_ n1_ n2_ n3_; clear hb hbox hg) | ((with_reducible refine gate_dst (N := 2) rfl ?_); refine box_event ?hg (N := 2) ?hd (cs := #[.slice none 0 0, .slice none 0 0]) (t := 25) ?hr ?_; (case hd => rfl); (case hg => rfl); (case hr => first | (go_simp; done) | (go_simp; rfl)); intro gb251 hg w5 hbox hb; have n0_ := Aside0.mk (blk_below (g := gb250) (o := .cells #[.slice A0_0 l0_0.length c0_0, .slice A0_1 l0_1.length c0_1] 25 (0, 0)) (by (with_reducible repeat (first | refine blk_drewN ?_ _ | refine blk_drew ?_ | refine blk_alloc ?_ _)); exact BK250.out) hb); have n1_ := Aside0.mk (below_step (by repeat (first | (with_reducible first | exact HB.out | apply below_alloc | apply pw_below_drewN | apply below_drew1 | refine below_set ?_ GE250.out) | exact HB.out)) hb); have n2_ := Aside0.mk (hbox); have n3_ := Aside0.mk ((by rw [hg]; exact (below_size (by repeat (first | (with_reducible first | exact HB.out | apply below_alloc | apply pw_below_drewN | apply below_drew1 | refine below_set ?_ GE250.out) | exact HB.out))) : w.heap.size ≤ gb251)); have n4_ := Aside0.mk ((by rw [hg]; exact (below_size (by repeat (first | (with_reducible first | exact HB.out | apply below_alloc | apply pw_below_drewN | apply below_drew1 | refine below_set ?_ GE250.out) | exact HB.out))) : w.heap.size ≤ gb251)); have n5_ := Aside0.mk ((by rw [hg]; exact Nat.ne_of_lt (blk_lt (g := gb250) (o := .cells #[.slice A0_0 l0_0.length c0_0, .slice A0_1 l0_1.length c0_1] 25 (0, 0)) (by (with_reducible repeat (first | refine blk_drewN ?_ _ | refine blk_drew ?_ | refine blk_alloc ?_ _)); exact BK250.out)) : gb250 ≠ gb251)); have n6_ := Aside0.mk ((by rw [hg]; exact Nat.ne_of_gt (blk_lt (g := gb250) (o := .cells #[.slice A0_0 l0_0.length c0_0, .slice A0_1 l0_1.length c0_1] 25 (0, 0)) (by (with_reducible repeat (first | refine blk_drewN ?_ _ | refine blk_drew ?_ | refine blk_alloc ?_ _)); exact BK250.out)) : gb251 ≠ gb250)); clear BK250; clear HB; have BK250 := n0_; have HB := n1_; have BK251 := n2_; have GW251 := n3_; have GE251 := n4_; have NB250_251 := n5_; have NB251_250 := n6_; clear n0_ n1_ n2_ n3_ n4_ n5_ n6_; clear hb hbox hg; have hnb6 := NB250_251.out; have hnc6 := NB251_250.out; have hcz7_0 : w5.cell? ⟨gb250, 0, none⟩ = some (.slice A0_0 l0_0.length c0_0) := (blk_cell BK250.out 0).trans rfl; have hcz7_1 : w5.cell? ⟨gb250, 1, none⟩ = some (.slice A0_1 l0_1.length c0_1) := (blk_cell BK250.out 1).trans rfl; have hfz7_0 := blk_frozen BK250.out 0; have hfz7_1 := blk_frozen BK250.out 1) | ((with_reducible refine gate_dst (N := 3) rfl ?_); refine box_event ?hg (N := 3) ?hd (cs := #[.slice none 0 0, .slice none 0 0]) (t := 25) ?hr ?_; (case hd => rfl); (case hg => rfl); (case hr => first | (go_simp; done) | (go_simp; rfl)); intro gb252 hg w8 hbox hb; have n0_ := Aside0.mk (blk_below (g := gb250) (o := .cells #[.slice A0_0 l0_0.length c0_0, .slice A0_1 l0_1.length c0_1] 25 (0, 0)) (by (with_reducible repeat (first | refine blk_drewN ?_ _ | refine blk_drew ?_ | refine blk_alloc ?_ _)); exact BK250.out) hb); have n1_ := Aside0.mk (blk_below (g := gb251) (o := .cells #[.slice none 0 0, .slice none 0 0] 25 (0, 0)) (by (with_reducible repeat (first | refine blk_drewN ?_ _ | refine blk_drew ?_ | refine blk_alloc ?_ _)); exact BK251.out) hb); have n2_ := Aside0.mk (below_step (by repeat (first | (with_reducible first | exact HB.out | apply below_alloc | apply pw_below_drewN | apply below_drew1 | refine below_set ?_ GE250.out | refine below_set ?_ GE251.out) | exact HB.out)) hb); have n3_ := Aside0.mk (hbox); have n4_ := Aside0.mk ((by rw [hg]; exact (below_size (by repeat (first | (with_reducible first | exact HB.out | apply below_alloc | apply pw_below_drewN | apply below_drew1 | refine below_set ?_ GE250.out | refine below_set ?_ GE251.out) | exact HB.out))) : w.heap.size ≤ gb252)); have n5_ := Aside0.mk ((by rw [hg]; exact (below_size (by repeat (first | (with_reducible first | exact HB.out | apply below_alloc | apply pw_below_drewN | apply below_drew1 | refine below_set ?_ GE250.out | refine below_set ?_ GE251.out) | exact HB.out))) : w.heap.size ≤ gb252)); have n6_ := Aside0.mk ((by rw [hg]; exact Nat.ne_of_lt (blk_lt (g := gb250) (o := .cells #[.slice A0_0 l0_0.length c0_0, .slice A0_1 l0_1.length c0_1] 25 (0, 0)) (by (with_reducible repeat (first | refine blk_drewN ?_ _ | refine blk_drew ?_ | refine blk_alloc ?_ _)); exact BK250.out)) : gb250 ≠ gb252)); have n7_ := Aside0.mk ((by rw [hg]; exact Nat.ne_of_gt (blk_lt (g := gb250) (o := .cells #[.slice A0_0 l0_0.length c0_0, .slice A0_1 l0_1.length c0_1] 25 (0, 0)) (by (with_reducible repeat (first | refine blk_drewN ?_ _ | refine blk_drew ?_ | refine blk_alloc ?_ _)); exact BK250.out)) : gb252 ≠ gb250)); have n8_ := Aside0.mk ((by rw [hg]; exact Nat.ne_of_lt (blk_lt (g := gb251) (o := .cells #[.slice none 0 0, .slice none 0 0] 25 (0, 0)) (by (with_reducible repeat (first | refine blk_drewN ?_ _ | refine blk_drew ?_ | refine blk_alloc ?_ _)); exact BK251.out)) : gb251 ≠ gb252)); have n9_ := Aside0.mk ((by rw [hg]; exact Nat.ne_of_gt (blk_lt (g := gb251) (o := .cells #[.slice none 0 0, .slice none 0 0] 25 (0, 0)) (by (with_reducible repeat (first | refine blk_drewN ?_ _ | refine blk_drew ?_ | refine blk_alloc ?_ _)); exact BK251.out)) : gb252 ≠ gb251)); clear BK250; clear BK251; clear HB; have BK250 := n0_; have BK251 := n1_; have HB := n2_; have BK252 := n3_; have GW252 := n4_; have GE252 := n5_; have NB250_252 := n6_; have NB252_250 := n7_; have NB251_252 := n8_; have NB252_251 := n9_; clear n0_ n1_ n2_ n3_ n4_ n5_ n6_ n7_ n8_ n9_; clear hb hbox hg; have hnb9 := NB252_250.out; have hnc9 := NB250_252.out; have hnb10 := NB252_251.out; have hnc10 := NB251_252.out; have hcz11_0 : w8.cell? ⟨gb252, 0, none⟩ = some (.slice none 0 0) := (blk_cell BK252.out 0).trans rfl; have hcz11_1 : w8.cell? ⟨gb252, 1, none⟩ = some (.slice none 0 0) := (blk_cell BK252.out 1).trans rfl; have hfz11_0 := blk_frozen BK252.out 0; have hfz11_1 := blk_frozen BK252.out 1; have hcz12_0 : w8.cell? ⟨gb250, 0, none⟩ = some (.slice A0_0 l0_0.length c0_0) := (blk_cell BK250.out 0).trans rfl; have hcz12_1 : w8.cell? ⟨gb250, 1, none⟩ = some (.slice A0_1 l0_1.length c0_1) := (blk_cell BK250.out 1).trans rfl; have hfz12_0 := blk_frozen BK250.out 0; have hfz12_1 := blk_frozen BK250.out 1) | ((with_reducible refine gate_callee (f := 90) rfl ?_); refine goesL_ (some 7) rfl rfl Try.func90 (by kernel_rfl) rfl #[.slice A0_0 l0_0.length c0_0] rfl (by (try simp only [List.map_toArray, List.map_cons, List.map_nil]); first | done | rfl | (simp only [List.length_drop, List.length_take]; rfl)) ?_; (with_reducible refine (spec_l1OwnRowsInt.calls k _ _ l0_0 t253 _ ?side1 ?side2 A2.out).mono ?_); (case side1 => exact Kd.C_below HR0_0.out (by repeat (first | (with_reducible first | exact HB.out | apply below_alloc | apply pw_below_drewN | apply below_drew1 | refine below_set ?_ GE250.out | refine below_set ?_ GE251.out | refine below_set ?_ GE252.out) | exact HB.out))); (case side2 => exact HC0_0.out); rintro e w13 ⟨v254, rfl, ho0, hb⟩; refine ⟨_, rfl, ?_⟩; have n0_ := Aside0.mk (Kd.R_lower ho0 (below_size (by repeat (first | (with_reducible first | exact HB.out | apply below_alloc | apply pw_below_drewN | apply below_drew1 | refine below_set ?_ GE250.out | refine below_set ?_ GE251.out | refine below_set ?_ GE252.out) | exact HB.out)))); have n1_ := Aside0.mk (blk_below (g := gb250) (o := .cells #[.slice A0_0 l0_0.length c0_0, .slice A0_1 l0_1.length c0_1] 25 (0, 0)) (by (with_reducible repeat (first | refine blk_drewN ?_ _ | refine blk_drew ?_ | refine blk_alloc ?_ _)); refine blk_far ?_ NB250_252.out _; (with_reducible repeat (first | refine blk_drewN ?_ _ | refine blk_drew ?_ | refine blk_alloc ?_ _)); refine blk_far ?_ NB250_252.out _; (with_reducible repeat (first | refine blk_drewN ?_ _ | refine blk_drew ?_ | refine blk_alloc ?_ _)); exact BK250.out) hb); have n2_ := Aside0.mk (blk_below (g := gb251) (o := .cells #[.slice none 0 0, .slice none 0 0] 25 (0, 0)) (by (with_reducible repeat (first | refine blk_drewN ?_ _ | refine blk_drew ?_ | refine blk_alloc ?_ _)); refine blk_far ?_ NB251_252.out _; (with_reducible repeat (first | refine blk_drewN ?_ _ | refine blk_drew ?_ | refine blk_alloc ?_ _)); refine blk_far ?_ NB251_252.out _; (with_reducible repeat (first | refine blk_drewN ?_ _ | refine blk_drew ?_ | refine blk_alloc ?_ _)); exact BK251.out) hb); have n3_ := Aside0.mk (blk_below (g := gb252) (o := .cells #[.slice A0_0 l0_0.length c0_0, .slice A0_1 l0_1.length c0_1] 25 (0, 0)) (by (with_reducible repeat (first | refine blk_drewN ?_ _ | refine blk_drew ?_ | refine blk_alloc ?_ _)); refine blk_put (cs := #[.slice A0_0 l0_0.length c0_0, .slice none 0 0]) ?_ 1 _ rfl; (with_reducible repeat (first | refine blk_drewN ?_ _ | refine blk_drew ?_ | refine blk_alloc ?_ _)); refine blk_put (cs := #[.slice none 0 0, .slice none 0 0]) ?_ 0 _ rfl; (with_reducible repeat (first | refine blk_drewN ?_ _ | refine blk_drew ?_ | refine blk_alloc ?_ _)); exact BK252.out) hb); have n4_ := Aside0.mk (below_step (by repeat (first | (with_reducible first | exact HB.out | apply below_alloc | apply pw_below_drewN | apply below_drew1 | refine below_set ?_ GE250.out | refine below_set ?_ GE251.out | refine below_set ?_ GE252.out) | exact HB.out)) hb); clear BK250; clear BK251; clear BK252; clear HB; have HO255 := n0_; have BK250 := n1_; have BK251 := n2_; have BK252 := n3_; have HB := n4_; clear n0_ n1_ n2_ n3_ n4_; (try clear hb); (try clear hb2); (try clear hk); (try clear hi); (try clear ho0); obtain ⟨Ao14, co14, eo14⟩ := Kd.R_slice HO255.out; subst eo14; have hcz15_0 : w13.cell? ⟨gb252, 0, none⟩ = some (.slice A0_0 l0_0.length c0_0) := (blk_cell BK252.out 0).trans rfl; have hcz15_1 : w13.cell? ⟨gb252, 1, none⟩ = some (.slice A0_1 l0_1.length c0_1) := (blk_cell BK252.out 1).trans rfl; have hfz15_0 := blk_frozen BK252.out 0; have hfz15_1 := blk_frozen BK252.out 1; have hcz16_0 : w13.cell? ⟨gb250, 0, none⟩ = some (.slice A0_0 l0_0.length c0_0) := (blk_cell BK250.out 0).trans rfl; have hcz16_1 : w13.cell? ⟨gb250, 1, none⟩ = some (.slice A0_1 l0_1.length c0_1) := (blk_cell BK250.out 1).trans rfl; have hfz16_0 := blk_frozen BK250.out 0; have hfz16_1 := blk_frozen BK250.out 1) | ((with_reducible refine gate_callee (f := 90) rfl ?_); refine goesL_ (some 11) rfl rfl Try.func90 (by kernel_rfl) rfl #[.slice A0_1 l0_1.length c0_1] rfl (by (try simp only [List.map_toArray, List.map_cons, List.map_nil]); first | done | rfl | (simp only [List.length_drop, List.length_take]; rfl)) ?_; (with_reducible refine (spec_l1OwnRowsInt.calls k _ _ l0_1 t256 _ ?side1 ?side2 A3.out).mono ?_); (case side1 => exact Kd.C_below HR0_1.out (by repeat (first | (with_reducible first | exact HB.out | apply below_alloc | apply pw_below_drewN | apply below_drew1 | refine below_set ?_ GE250.out | refine below_set ?_ GE251.out | refine below_set ?_ GE252.out) | exact HB.out))); (case side2 => exact HC0_1.out); rintro e w17 ⟨v257, rfl, ho0, hb⟩; refine ⟨_, rfl, ?_⟩; have n0_ := Aside0.mk (Kd.R_elder' (by (with_reducible repeat (first | apply Kd.R_alloc | apply Kd.R_drewN | apply Kd.R_drew)); exact (Kd.R_mono (Kd.R_far (p := ⟨gb252, 0, none⟩) (Kd.R_types HO255.out BK252.out (by decide)) (fun _ hk => hk.2) (.slice Ao14 t253.length co14)) (fun _ h_ => h_.1))) (Kd.R_base ho0) hb); have n1_ := Aside0.mk (Kd.R_lower (Kd.R_new' ho0 (Kd.R_lt (by (with_reducible repeat (first | apply Kd.R_alloc | apply Kd.R_drewN | apply Kd.R_drew)); exact (Kd.R_mono (Kd.R_far (p := ⟨gb252, 0, none⟩) (Kd.R_types HO255.out BK252.out (by decide)) (fun _ hk => hk.2) (.slice Ao14 t253.length co14)) (fun _ h_ => h_.1))))) (below_size (by repeat (first | (with_reducible first | exact HB.out | apply below_alloc | apply pw_below_drewN | apply below_drew1 | refine below_set ?_ GE250.out | refine below_set ?_ GE251.out | refine below_set ?_ GE252.out) | exact HB.out)))); have n2_ := Aside0.mk (blk_below (g := gb250) (o := .cells #[.slice A0_0 l0_0.length c0_0, .slice A0_1 l0_1.length c0_1] 25 (0, 0)) (by (with_reducible repeat (first | refine blk_drewN ?_ _ | refine blk_drew ?_ | refine blk_alloc ?_ _)); refine blk_far ?_ NB250_252.out _; (with_reducible repeat (first | refine blk_drewN ?_ _ | refine blk_drew ?_ | refine blk_alloc ?_ _)); exact BK250.out) hb); have n3_ := Aside0.mk (blk_below (g := gb251) (o := .cells #[.slice none 0 0, .slice none 0 0] 25 (0, 0)) (by (with_reducible repeat (first | refine blk_drewN ?_ _ | refine blk_drew ?_ | refine blk_alloc ?_ _)); refine blk_far ?_ NB251_252.out _; (with_reducible repeat (first | refine blk_drewN ?_ _ | refine blk_drew ?_ | refine blk_alloc ?_ _)); exact BK251.out) hb); have n4_ := Aside0.mk (blk_below (g := gb252) (o := .cells #[.slice Ao14 t253.length co14, .slice A0_1 l0_1.length c0_1] 25 (0, 0)) (by (with_reducible repeat (first | refine blk_drewN ?_ _ | refine blk_drew ?_ | refine blk_alloc ?_ _)); refine blk_put (cs := #[.slice A0_0 l0_0.length c0_0, .slice A0_1 l0_1.length c0_1]) ?_ 0 _ rfl; (with_reducible repeat (first | refine blk_drewN ?_ _ | refine blk_drew ?_ | refine blk_alloc ?_ _)); exact BK252.out) hb); have n5_ := Aside0.mk (below_step (by repeat (first | (with_reducible first | exact HB.out | apply below_alloc | apply pw_below_drewN | apply below_drew1 | refine below_set ?_ GE250.out | refine below_set ?_ GE251.out | refine below_set ?_ GE252.out) | exact HB.out)) hb); clear HO255; clear BK250; clear BK251; clear BK252; clear HB; have HO255 := n0_; have HO258 := n1_; have BK250 := n2_; have BK251 := n3_; have BK252 := n4_; have HB := n5_; clear n0_ n1_ n2_ n3_ n4_ n5_; (try clear hb); (try clear hb2); (try clear hk); (try clear hi); (try clear ho0); obtain ⟨Ao18, co18, eo18⟩ := Kd.R_slice HO258.out; subst eo18; have hcz19_0 : w17.cell? ⟨gb252, 0, none⟩ = some (.slice Ao14 t253.length co14) := (blk_cell BK252.out 0).trans rfl; have hcz19_1 : w17.cell? ⟨gb252, 1, none⟩ = some (.slice A0_1 l0_1.length c0_1) := (blk_cell BK252.out 1).trans rfl; have hfz19_0 := blk_frozen BK252.out 0; have hfz19_1 := blk_frozen BK252.out 1; have hcz20_0 : w17.cell? ⟨gb251, 0, none⟩ = some (.slice none 0 0) := (blk_cell BK251.out 0).trans rfl; have hcz20_1 : w17.cell? ⟨gb251, 1, none⟩ = some (.slice none 0 0) := (blk_cell BK251.out 1).trans rfl; have hfz20_0 := blk_frozen BK251.out 0; have hfz20_1 := blk_frozen BK251.out 1))
  refine bodyPost_ret (results_cell_row rfl _ _ gb251 25 #[.slice Ao14 t253.length co14, .slice Ao18 t256.length co18] (0, 0) _ rfl (by (with_reducible repeat (first | refine blk_drewN ?_ _ | refine blk_drew ?_ | refine blk_alloc ?_ _)); refine blk_put (cs := #[.slice Ao14 t253.length co14, .slice none 0 0]) ?_ 1 _ rfl; (with_reducible repeat (first | refine blk_drewN ?_ _ | refine blk_drew ?_ | refine blk_alloc ?_ _)); refine blk_put (cs := #[.slice none 0 0, .slice none 0 0]) ?_ 0 _ rfl; (with_reducible repeat (first | refine blk_drewN ?_ _ | refine blk_drew ?_ | refine blk_alloc ?_ _)); refine blk_far ?_ NB251_252.out _; (with_reducible repeat (first | refine blk_drewN ?_ _ | refine blk_drew ?_ | refine blk_alloc ?_ _)); exact BK251.out) Try.underlying25 rfl (by kernel_rfl)) rfl ?_
  exact ⟨_, _, by first | rfl | (simp [errW_none, errW_some] <;> rfl) | (simp [*, errW_none, errW_some] <;> rfl), by (with_reducible repeat (first | apply Kd.R_alloc | apply Kd.R_drewN | apply Kd.R_drew)); exact Kd.R_mono (Kd.R_far (p := ⟨gb251, 1, none⟩) (Kd.R_far (p := ⟨gb251, 0, none⟩) (Kd.R_far (p := ⟨gb252, 1, none⟩) (Kd.R_types (Kd.R_types HO255.out BK252.out (by decide)) BK251.out (by decide)) (fun _ hk => hk.1.2) (.slice Ao18 t256.length co18)) (fun _ hk => hk.2) (.slice Ao14 t253.length co14)) (fun _ hk => hk.2) (.slice Ao18 t256.length co18)) (fun _ hk => hk.1.1.2), by (with_reducible repeat (first | apply Kd.R_alloc | apply Kd.R_drewN | apply Kd.R_drew)); exact Kd.R_mono (Kd.R_far (p := ⟨gb251, 1, none⟩) (Kd.R_far (p := ⟨gb251, 0, none⟩) (Kd.R_far (p := ⟨gb252, 1, none⟩) (Kd.R_types (Kd.R_types HO258.out BK252.out (by decide)) BK251.out (by decide)) (fun _ hk => hk.1.2) (.slice Ao18 t256.length co18)) (fun _ hk => hk.2) (.slice Ao14 t253.length co14)) (fun _ hk => hk.2) (.slice Ao18 t256.length co18)) (fun _ hk => hk.1.1.2), by repeat (first | (with_reducible first | exact HB.out | apply below_alloc | apply pw_below_drewN | apply below_drew1 | refine below_set ?_ GE250.out | refine below_set ?_ GE251.out | refine below_set ?_ GE252.out) | exact HB.out)⟩

/-! ### spec_PictureFirst: function 42 -/
def spec_PictureFirst.f (k : Nat) (l0_0 : List (List Int)) (l0_1 : List (List Int)) : Option ((List (List Bool)) × Bool) := (spec_l1OwnPicture.f k l0_0 l0_1).bind fun bt260 => ((spec_PictureValid.f k bt260.1 bt260.2).bind fun t266 => (if t266 = true then ((spec_l13All.f k bt260.1 bt260.2 1).bind fun t267 => (if (t267.length : Int) = 0 then (some ((([] : List (List Bool))), false)) else (if 0 < (t267.length : Int) then (some (rd_L4 t267 0, true)) else (none)))) else (some ((([] : List (List Bool))), false))))
theorem spec_PictureFirst.mono : ∀ a0 a1 k, LeO (spec_PictureFirst.f k a0 a1) (spec_PictureFirst.f (k + 1) a0 a1) := by
  intro a0 a1 k
  unfold spec_PictureFirst.f
  repeat' first
      | (with_reducible exact spec_PictureValid.mono _ _ _)
      | (with_reducible exact spec_l13All.mono _ _ _ _)
      | (with_reducible exact spec_l1OwnPicture.mono _ _ _)
      | (with_reducible exact LeO.refl _)
      | (with_reducible exact LeO.none _)
      | (with_reducible refine LeO.ite ?_ ?_)
      | (with_reducible refine LeO.bind ?_ (fun _ => ?_))
      | exact spec_PictureValid.mono _ _ _
      | exact spec_l13All.mono _ _ _ _
      | exact spec_l1OwnPicture.mono _ _ _
      | exact LeO.none _
      | refine LeO.ite ?_ ?_
      | refine LeO.bind ?_ (fun _ => ?_)
set_option maxHeartbeats 8000000 in
set_option maxRecDepth 100000 in
theorem spec_PictureFirst.calls (k : Nat) (A0_0 : Option Addr) (c0_0 : Nat) (l0_0 : List (List Int)) (A0_1 : Option Addr) (c0_1 : Nat) (l0_1 : List (List Int)) (r1 : List (List Bool)) (r2 : Bool) (w : World) (hr0_0 : Kd.C (Kd.slice 3 (Kd.int .i64)) w A0_0 l0_0.length l0_0) (hc0_0 : l0_0.length ≤ c0_0) (hr0_1 : Kd.C (Kd.slice 3 (Kd.int .i64)) w A0_1 l0_1.length l0_1) (hc0_1 : l0_1.length ≤ c0_1) (h : spec_PictureFirst.f k l0_0 l0_1 = some (r1, r2)) :
    Calls Try.prog 42 #[.agg #[.slice A0_0 l0_0.length c0_0, .slice A0_1 l0_1.length c0_1]] w fun e w' => ∃ v0_ : Value, e = .returned (.tuple #[v0_, .bool r2]) ∧ Kd.R (Kd.slice 4 Kd.bool) 37 w' w.heap.size (fun _ => True) v0_ r1 ∧ Below w.heap.size w w' := by
  have hu25 := Try.underlying25
  have HR0_0 := Aside0.mk hr0_0
  have HC0_0 := Aside0.mk hc0_0
  clear hr0_0 hc0_0
  have HR0_1 := Aside0.mk hr0_1
  have HC0_1 := Aside0.mk hc0_1
  clear hr0_1 hc0_1
  have HB := Aside0.mk (Below.refl w.heap.size w)
  have H : ((spec_l1OwnPicture.f k l0_0 l0_1).bind fun bt260 => ((spec_PictureValid.f k bt260.1 bt260.2).bind fun t266 => (if t266 = true then ((spec_l13All.f k bt260.1 bt260.2 1).bind fun t267 => (if (t267.length : Int) = 0 then (some ((([] : List (List Bool))), false)) else (if 0 < (t267.length : Int) then (some (rd_L4 t267 0, true)) else (none)))) else (some ((([] : List (List Bool))), false))))) = some (r1, r2) := h
  clear h
  replace H := Option.bind_eq_some_iff.mp H
  obtain ⟨⟨t260, t263⟩, A20, H⟩ := H
  replace H : ((spec_PictureValid.f k t260 t263).bind fun t266 => (if t266 = true then ((spec_l13All.f k t260 t263 1).bind fun t267 => (if (t267.length : Int) = 0 then (some ((([] : List (List Bool))), false)) else (if 0 < (t267.length : Int) then (some (rd_L4 t267 0, true)) else (none)))) else (some ((([] : List (List Bool))), false)))) = some (r1, r2) := H
  have A2 := Aside0.mk A20
  clear A20
  replace H := Option.bind_eq_some_iff.mp H
  obtain ⟨t266, A30, H⟩ := H
  replace H : (if t266 = true then ((spec_l13All.f k t260 t263 1).bind fun t267 => (if (t267.length : Int) = 0 then (some ((([] : List (List Bool))), false)) else (if 0 < (t267.length : Int) then (some (rd_L4 t267 0, true)) else (none)))) else (some ((([] : List (List Bool))), false))) = some (r1, r2) := H
  have A3 := Aside0.mk A30
  clear A30
  by_cases c4 : t266 = true
  · subst c4
    have H1 : ((spec_l13All.f k t260 t263 1).bind fun t267 => (if (t267.length : Int) = 0 then (some ((([] : List (List Bool))), false)) else (if 0 < (t267.length : Int) then (some (rd_L4 t267 0, true)) else (none)))) = some (r1, r2) := by rw [if_pos rfl] at H; exact H
    clear H
    have H := H1
    clear H1
    replace H := Option.bind_eq_some_iff.mp H
    obtain ⟨t267, A50, H⟩ := H
    replace H : (if (t267.length : Int) = 0 then (some ((([] : List (List Bool))), false)) else (if 0 < (t267.length : Int) then (some (rd_L4 t267 0, true)) else (none))) = some (r1, r2) := H
    have A5 := Aside0.mk A50
    clear A50
    by_cases c6 : (t267.length : Int) = 0
    · rw [if_pos c6] at H
      have c6b0 : ((t267.length : Int) == 0) = true := beq_iff_eq.mpr c6
      have c6b1 : ((t267.length : Int) != 0) = false := bne_eq_false_iff_eq.mpr c6
      clear c6
      obtain ⟨y270, hy270⟩ : ∃ y_ : List (List Bool), y_ = (([] : List (List Bool))) := ⟨_, rfl⟩
      replace H : (some (y270, false)) = some (r1, r2) := by first | (rw [hy270]; with_reducible exact H) | (have H2_ := (Option.bind_some _ _).symm.trans H; rw [hy270]; with_reducible exact H2_) | (have H2_ := (Option.bind_some _ _).symm.trans H; with_reducible exact H2_) | with_reducible exact H | (rw [hy270]; exact H) | exact H
      have Ny270 := Aside0.mk hy270
      clear hy270
      simp only [Option.some.injEq, Prod.mk.injEq] at H
      obtain ⟨rfl, rfl⟩ := H
      go_enter Try.func42, Try.ntmps42
      go_wp2_with (first | ((with_reducible refine gate_dst (N := 1) rfl ?_); refine box_event ?hg (N := 1) ?hd (cs := #[.slice A0_0 l0_0.length c0_0, .slice A0_1 l0_1.length c0_1]) (t := 25) ?hr ?_; (case hd => rfl); (case hg => rfl); (case hr => first | (go_simp; done) | (go_simp; rfl)); intro gb259 hg w7 hbox hb; have n0_ := Aside0.mk (below_step (by repeat (first | (with_reducible first | exact HB.out | apply below_alloc | apply pw_below_drewN | apply below_drew1) | exact HB.out)) hb); have n1_ := Aside0.mk (hbox); have n2_ := Aside0.mk ((by rw [hg]; exact (below_size (by repeat (first | (with_reducible first | exact HB.out | apply below_alloc | apply pw_below_drewN | apply below_drew1) | exact HB.out))) : w.heap.size ≤ gb259)); have n3_ := Aside0.mk ((by rw [hg]; exact (below_size (by repeat (first | (with_reducible first | exact HB.out | apply below_alloc | apply pw_below_drewN | apply below_drew1) | exact HB.out))) : w.heap.size ≤ gb259)); clear HB; have HB := n0_; have BK259 := n1_; have GW259 := n2_; have GE259 := n3_; clear n0_ n1_ n2_ n3_; clear hb hbox hg; have hcz8_0 : w7.cell? ⟨gb259, 0, none⟩ = some (.slice A0_0 l0_0.length c0_0) := (blk_cell BK259.out 0).trans rfl; have hcz8_1 : w7.cell? ⟨gb259, 1, none⟩ = some (.slice A0_1 l0_1.length c0_1) := (blk_cell BK259.out 1).trans rfl; have hfz8_0 := blk_frozen BK259.out 0; have hfz8_1 := blk_frozen BK259.out 1) | ((with_reducible refine gate_callee (f := 74) rfl ?_); refine goesL_ (some 6) rfl rfl Try.func74 (by kernel_rfl) rfl #[.agg #[.slice A0_0 l0_0.length c0_0, .slice A0_1 l0_1.length c0_1]] rfl (by (try simp only [List.map_toArray, List.map_cons, List.map_nil]); first | done | rfl | (simp only [List.length_drop, List.length_take]; rfl)) ?_; (with_reducible refine (spec_l1OwnPicture.calls k _ _ l0_0 _ _ l0_1 t260 t263 _ ?side1 ?side2 ?side3 ?side4 A2.out).mono ?_); (case side1 => repeat (first | exact (Kd.C_below HR0_0.out HB.out) | (with_reducible refine Kd.C_alloc ?_ _) | (with_reducible refine Kd.C_drewN ?_ _) | (with_reducible refine Kd.C_drew ?_))); (case side2 => exact HC0_0.out); (case side3 => repeat (first | exact (Kd.C_below HR0_1.out HB.out) | (with_reducible refine Kd.C_alloc ?_ _) | (with_reducible refine Kd.C_drewN ?_ _) | (with_reducible refine Kd.C_drew ?_))); (case side4 => exact HC0_1.out); rintro e w9 ⟨v261, v264, rfl, ho0, ho1, hb⟩; refine ⟨_, rfl, ?_⟩; have n0_ := Aside0.mk (Kd.R_lower ho0 (below_size (by repeat (first | (with_reducible first | exact HB.out | apply below_alloc | apply pw_below_drewN | apply below_drew1 | refine below_set ?_ GE259.out) | exact HB.out)))); have n1_ := Aside0.mk (Kd.R_lower ho1 (below_size (by repeat (first | (with_reducible first | exact HB.out | apply below_alloc | apply pw_below_drewN | apply below_drew1 | refine below_set ?_ GE259.out) | exact HB.out)))); have n2_ := Aside0.mk (blk_below (g := gb259) (o := .cells #[.slice A0_0 l0_0.length c0_0, .slice A0_1 l0_1.length c0_1] 25 (0, 0)) (by (with_reducible repeat (first | refine blk_drewN ?_ _ | refine blk_drew ?_ | refine blk_alloc ?_ _)); exact BK259.out) hb); have n3_ := Aside0.mk (below_step (by repeat (first | (with_reducible first | exact HB.out | apply below_alloc | apply pw_below_drewN | apply below_drew1 | refine below_set ?_ GE259.out) | exact HB.out)) hb); clear BK259; clear HB; have HO262 := n0_; have HO265 := n1_; have BK259 := n2_; have HB := n3_; clear n0_ n1_ n2_ n3_; (try clear hb); (try clear hb2); (try clear hk); (try clear hi); (try clear ho0); (try clear ho1); obtain ⟨Ao10, co10, eo10⟩ := Kd.R_slice HO262.out; subst eo10; have hcz11_0 : w9.cell? ⟨gb259, 0, none⟩ = some (.slice A0_0 l0_0.length c0_0) := (blk_cell BK259.out 0).trans rfl; have hcz11_1 : w9.cell? ⟨gb259, 1, none⟩ = some (.slice A0_1 l0_1.length c0_1) := (blk_cell BK259.out 1).trans rfl; have hfz11_0 := blk_frozen BK259.out 0; have hfz11_1 := blk_frozen BK259.out 1; obtain ⟨Ao12, co12, eo12⟩ := Kd.R_slice HO265.out; subst eo12) | ((with_reducible refine gate_callee (f := 17) rfl ?_); refine goesL_ (some 8) rfl rfl Try.func17 (by kernel_rfl) rfl #[.agg #[.slice Ao10 t260.length co10, .slice Ao12 t263.length co12]] rfl (by (try simp only [List.map_toArray, List.map_cons, List.map_nil]); first | done | rfl | (simp only [List.length_drop, List.length_take]; rfl)) ?_; (with_reducible refine (spec_PictureValid.calls k _ _ t260 _ _ t263 true _ ?side1 ?side2 ?side3 ?side4 A3.out).mono ?_); (case side1 => refine (Kd.R_reads' (e := 36) (base := w.heap.size) (ok := fun k_ => some k_ ≠ (.slice Ao12 t263.length co12 : Value).ownBlock) (n := t260.length) (c := co10) ?_).2.2; exact (by (with_reducible repeat (first | apply Kd.R_alloc | apply Kd.R_drewN | apply Kd.R_drew)); exact (Kd.R_mono (Kd.R_far (p := ⟨gb259, 1, none⟩) (Kd.R_far (p := ⟨gb259, 0, none⟩) (Kd.R_types HO262.out BK259.out (by decide)) (fun _ hk => hk.2) (.slice Ao10 t260.length co10)) (fun _ hk => hk.2) (.slice Ao12 t263.length co12)) (fun _ h_ => h_.1)))); (case side2 => exact (Kd.R_reads' HO262.out).2.1); (case side3 => refine (Kd.R_reads' (e := 36) (base := w.heap.size) (ok := fun k_ => some k_ ≠ (.slice Ao10 t260.length co10 : Value).ownBlock) (n := t263.length) (c := co12) ?_).2.2; exact (by (with_reducible repeat (first | apply Kd.R_alloc | apply Kd.R_drewN | apply Kd.R_drew)); exact (Kd.R_mono (Kd.R_far (p := ⟨gb259, 1, none⟩) (Kd.R_far (p := ⟨gb259, 0, none⟩) (Kd.R_types HO265.out BK259.out (by decide)) (fun _ hk => hk.2) (.slice Ao10 t260.length co10)) (fun _ hk => hk.2) (.slice Ao12 t263.length co12)) (fun _ h_ => h_.1)))); (case side4 => exact (Kd.R_reads' HO265.out).2.1); rintro e w13 ⟨rfl, hb⟩; refine ⟨_, rfl, ?_⟩; have n0_ := Aside0.mk (Kd.R_below (by (with_reducible repeat (first | apply Kd.R_alloc | apply Kd.R_drewN | apply Kd.R_drew)); exact (Kd.R_mono (Kd.R_far (p := ⟨gb259, 1, none⟩) (Kd.R_far (p := ⟨gb259, 0, none⟩) (Kd.R_types HO262.out BK259.out (by decide)) (fun _ hk => hk.2) (.slice Ao10 t260.length co10)) (fun _ hk => hk.2) (.slice Ao12 t263.length co12)) (fun _ h_ => h_.1))) hb); have n1_ := Aside0.mk (Kd.R_below (by (with_reducible repeat (first | apply Kd.R_alloc | apply Kd.R_drewN | apply Kd.R_drew)); exact (Kd.R_mono (Kd.R_far (p := ⟨gb259, 1, none⟩) (Kd.R_far (p := ⟨gb259, 0, none⟩) (Kd.R_types HO265.out BK259.out (by decide)) (fun _ hk => hk.2) (.slice Ao10 t260.length co10)) (fun _ hk => hk.2) (.slice Ao12 t263.length co12)) (fun _ h_ => h_.1))) hb); have n2_ := Aside0.mk (blk_below (g := gb259) (o := .cells #[.slice Ao10 t260.length co10, .slice Ao12 t263.length co12] 25 (0, 0)) (by (with_reducible repeat (first | refine blk_drewN ?_ _ | refine blk_drew ?_ | refine blk_alloc ?_ _)); refine blk_put (cs := #[.slice Ao10 t260.length co10, .slice A0_1 l0_1.length c0_1]) ?_ 1 _ rfl; (with_reducible repeat (first | refine blk_drewN ?_ _ | refine blk_drew ?_ | refine blk_alloc ?_ _)); refine blk_put (cs := #[.slice A0_0 l0_0.length c0_0, .slice A0_1 l0_1.length c0_1]) ?_ 0 _ rfl; (with_reducible repeat (first | refine blk_drewN ?_ _ | refine blk_drew ?_ | refine blk_alloc ?_ _)); exact BK259.out) hb); have n3_ := Aside0.mk (below_step (by repeat (first | (with_reducible first | exact HB.out | apply below_alloc | apply pw_below_drewN | apply below_drew1 | refine below_set ?_ GE259.out) | exact HB.out)) hb); clear HO262; clear HO265; clear BK259; clear HB; have HO262 := n0_; have HO265 := n1_; have BK259 := n2_; have HB := n3_; clear n0_ n1_ n2_ n3_; (try clear hb); (try clear hb2); (try clear hk); (try clear hi); have hcz14_0 : w13.cell? ⟨gb259, 0, none⟩ = some (.slice Ao10 t260.length co10) := (blk_cell BK259.out 0).trans rfl; have hcz14_1 : w13.cell? ⟨gb259, 1, none⟩ = some (.slice Ao12 t263.length co12) := (blk_cell BK259.out 1).trans rfl; have hfz14_0 := blk_frozen BK259.out 0; have hfz14_1 := blk_frozen BK259.out 1) | ((with_reducible refine gate_callee (f := 69) rfl ?_); refine goesL_ (some 12) rfl rfl Try.func69 (by kernel_rfl) rfl #[.agg #[.slice Ao10 t260.length co10, .slice Ao12 t263.length co12], .int .i64 1] rfl (by (try simp only [List.map_toArray, List.map_cons, List.map_nil]); first | done | rfl | (simp only [List.length_drop, List.length_take]; rfl)) ?_; (with_reducible refine (spec_l13All.calls k _ _ t260 _ _ t263 1 t267 _ ?side1 ?side2 ?side3 ?side4 A5.out).mono ?_); (case side1 => repeat (first | exact (Kd.R_reads' HO262.out).2.2 | (with_reducible refine Kd.C_alloc ?_ _) | (with_reducible refine Kd.C_drewN ?_ _) | (with_reducible refine Kd.C_drew ?_))); (case side2 => exact (Kd.R_reads' HO262.out).2.1); (case side3 => repeat (first | exact (Kd.R_reads' HO265.out).2.2 | (with_reducible refine Kd.C_alloc ?_ _) | (with_reducible refine Kd.C_drewN ?_ _) | (with_reducible refine Kd.C_drew ?_))); (case side4 => exact (Kd.R_reads' HO265.out).2.1); rintro e w15 ⟨v268, rfl, ho0, hb⟩; refine ⟨_, rfl, ?_⟩; have n0_ := Aside0.mk (Kd.R_below (by (with_reducible repeat (first | apply Kd.R_alloc | apply Kd.R_drewN | apply Kd.R_drew)); exact HO262.out) hb); have n1_ := Aside0.mk (Kd.R_below (by (with_reducible repeat (first | apply Kd.R_alloc | apply Kd.R_drewN | apply Kd.R_drew)); exact HO265.out) hb); have n2_ := Aside0.mk (Kd.R_lower ho0 (below_size (by repeat (first | (with_reducible first | exact HB.out | apply below_alloc | apply pw_below_drewN | apply below_drew1 | refine below_set ?_ GE259.out) | exact HB.out)))); have n3_ := Aside0.mk (blk_below (g := gb259) (o := .cells #[.slice Ao10 t260.length co10, .slice Ao12 t263.length co12] 25 (0, 0)) (by (with_reducible repeat (first | refine blk_drewN ?_ _ | refine blk_drew ?_ | refine blk_alloc ?_ _)); exact BK259.out) hb); have n4_ := Aside0.mk (below_step (by repeat (first | (with_reducible first | exact HB.out | apply below_alloc | apply pw_below_drewN | apply below_drew1 | refine below_set ?_ GE259.out) | exact HB.out)) hb); clear HO262; clear HO265; clear BK259; clear HB; have HO262 := n0_; have HO265 := n1_; have HO269 := n2_; have BK259 := n3_; have HB := n4_; clear n0_ n1_ n2_ n3_ n4_; (try clear hb); (try clear hb2); (try clear hk); (try clear hi); (try clear ho0); obtain ⟨Ao16, co16, eo16⟩ := Kd.R_slice HO269.out; subst eo16) | ((with_reducible refine gate_dst (N := 16) rfl ?_); refine Kd.R_lit (Kd.slice 4 Kd.bool) _ 37 ?hg (N := 16) ?hd (xs := ([] : List (List Bool))) (inner := []) (ok := fun _ => True) (okp := fun _ => True) ?hr ?hp (fun _ hk => hk) trivial (Below.refl _ _) (Nat.le_refl _) (by simp) ?_; (case hd => rfl); (case hg => rfl); (case hr => first | (go_simp; done) | (go_simp; rfl)); (case hp => exact (Reps.none _ _)); intro v271 w17 ho18 hb hg_ hnew_; clear hg_ hnew_; (first | rw [← Ny270.out] at ho18 | (simp only [Int.reduceToNat] at ho18; rw [← Ny270.out] at ho18)); have n0_ := Aside0.mk (Kd.R_below (by (with_reducible repeat (first | apply Kd.R_alloc | apply Kd.R_drewN | apply Kd.R_drew)); exact HO262.out) hb); have n1_ := Aside0.mk (Kd.R_below (by (with_reducible repeat (first | apply Kd.R_alloc | apply Kd.R_drewN | apply Kd.R_drew)); exact HO265.out) hb); have n2_ := Aside0.mk (Kd.R_elder' (by (with_reducible repeat (first | apply Kd.R_alloc | apply Kd.R_drewN | apply Kd.R_drew)); exact HO269.out) (Kd.R_base ho18) hb); have n3_ := Aside0.mk (Kd.R_lower ho18 (below_size (by repeat (first | (with_reducible first | exact HB.out | apply below_alloc | apply pw_below_drewN | apply below_drew1 | refine below_set ?_ GE259.out) | exact HB.out)))); have n4_ := Aside0.mk (blk_below (g := gb259) (o := .cells #[.slice Ao10 t260.length co10, .slice Ao12 t263.length co12] 25 (0, 0)) (by (with_reducible repeat (first | refine blk_drewN ?_ _ | refine blk_drew ?_ | refine blk_alloc ?_ _)); exact BK259.out) hb); have n5_ := Aside0.mk (below_step (by repeat (first | (with_reducible first | exact HB.out | apply below_alloc | apply pw_below_drewN | apply below_drew1 | refine below_set ?_ GE259.out) | exact HB.out)) hb); clear HO262; clear HO265; clear HO269; clear BK259; clear HB; have HO262 := n0_; have HO265 := n1_; have HO269 := n2_; have HO272 := n3_; have BK259 := n4_; have HB := n5_; clear n0_ n1_ n2_ n3_ n4_ n5_; clear hb ho18))
      go_ret2
      exact ⟨_, by first | rfl | (simp [errW_none, errW_some] <;> rfl) | (simp [*, errW_none, errW_some] <;> rfl), by (with_reducible repeat (first | apply Kd.R_alloc | apply Kd.R_drewN | apply Kd.R_drew)); exact HO272.out, by repeat (first | (with_reducible first | exact HB.out | apply below_alloc | apply pw_below_drewN | apply below_drew1 | refine below_set ?_ GE259.out) | exact HB.out)⟩
    · rw [if_neg c6] at H
      have c6b0 : ((t267.length : Int) == 0) = false := beq_eq_false_iff_ne.mpr c6
      have c6b1 : ((t267.length : Int) != 0) = true := bne_iff_ne.mpr c6
      have c6b2 : ¬ (t267 = []) := fun h_ => c6 (by rw [h_]; rfl)
      by_cases c19 : 0 < (t267.length : Int)
      · rw [if_pos c19] at H
        have c19b0 : decide (0 < (t267.length : Int)) = true := decide_eq_true c19
        have c19b1 : decide (0 < t267.length) = true := decide_eq_true (by omega)
        clear c19
        simp only [Option.some.injEq, Prod.mk.injEq] at H
        obtain ⟨rfl, rfl⟩ := H
        go_enter Try.func42, Try.ntmps42
        go_wp2_with (first | ((with_reducible refine gate_dst (N := 1) rfl ?_); refine box_event ?hg (N := 1) ?hd (cs := #[.slice A0_0 l0_0.length c0_0, .slice A0_1 l0_1.length c0_1]) (t := 25) ?hr ?_; (case hd => rfl); (case hg => rfl); (case hr => first | (go_simp; done) | (go_simp; rfl)); intro gb259 hg w20 hbox hb; have n0_ := Aside0.mk (below_step (by repeat (first | (with_reducible first | exact HB.out | apply below_alloc | apply pw_below_drewN | apply below_drew1) | exact HB.out)) hb); have n1_ := Aside0.mk (hbox); have n2_ := Aside0.mk ((by rw [hg]; exact (below_size (by repeat (first | (with_reducible first | exact HB.out | apply below_alloc | apply pw_below_drewN | apply below_drew1) | exact HB.out))) : w.heap.size ≤ gb259)); have n3_ := Aside0.mk ((by rw [hg]; exact (below_size (by repeat (first | (with_reducible first | exact HB.out | apply below_alloc | apply pw_below_drewN | apply below_drew1) | exact HB.out))) : w.heap.size ≤ gb259)); clear HB; have HB := n0_; have BK259 := n1_; have GW259 := n2_; have GE259 := n3_; clear n0_ n1_ n2_ n3_; clear hb hbox hg; have hcz21_0 : w20.cell? ⟨gb259, 0, none⟩ = some (.slice A0_0 l0_0.length c0_0) := (blk_cell BK259.out 0).trans rfl; have hcz21_1 : w20.cell? ⟨gb259, 1, none⟩ = some (.slice A0_1 l0_1.length c0_1) := (blk_cell BK259.out 1).trans rfl; have hfz21_0 := blk_frozen BK259.out 0; have hfz21_1 := blk_frozen BK259.out 1) | ((with_reducible refine gate_callee (f := 74) rfl ?_); refine goesL_ (some 6) rfl rfl Try.func74 (by kernel_rfl) rfl #[.agg #[.slice A0_0 l0_0.length c0_0, .slice A0_1 l0_1.length c0_1]] rfl (by (try simp only [List.map_toArray, List.map_cons, List.map_nil]); first | done | rfl | (simp only [List.length_drop, List.length_take]; rfl)) ?_; (with_reducible refine (spec_l1OwnPicture.calls k _ _ l0_0 _ _ l0_1 t260 t263 _ ?side1 ?side2 ?side3 ?side4 A2.out).mono ?_); (case side1 => repeat (first | exact (Kd.C_below HR0_0.out HB.out) | (with_reducible refine Kd.C_alloc ?_ _) | (with_reducible refine Kd.C_drewN ?_ _) | (with_reducible refine Kd.C_drew ?_))); (case side2 => exact HC0_0.out); (case side3 => repeat (first | exact (Kd.C_below HR0_1.out HB.out) | (with_reducible refine Kd.C_alloc ?_ _) | (with_reducible refine Kd.C_drewN ?_ _) | (with_reducible refine Kd.C_drew ?_))); (case side4 => exact HC0_1.out); rintro e w22 ⟨v261, v264, rfl, ho0, ho1, hb⟩; refine ⟨_, rfl, ?_⟩; have n0_ := Aside0.mk (Kd.R_lower ho0 (below_size (by repeat (first | (with_reducible first | exact HB.out | apply below_alloc | apply pw_below_drewN | apply below_drew1 | refine below_set ?_ GE259.out) | exact HB.out)))); have n1_ := Aside0.mk (Kd.R_lower ho1 (below_size (by repeat (first | (with_reducible first | exact HB.out | apply below_alloc | apply pw_below_drewN | apply below_drew1 | refine below_set ?_ GE259.out) | exact HB.out)))); have n2_ := Aside0.mk (blk_below (g := gb259) (o := .cells #[.slice A0_0 l0_0.length c0_0, .slice A0_1 l0_1.length c0_1] 25 (0, 0)) (by (with_reducible repeat (first | refine blk_drewN ?_ _ | refine blk_drew ?_ | refine blk_alloc ?_ _)); exact BK259.out) hb); have n3_ := Aside0.mk (below_step (by repeat (first | (with_reducible first | exact HB.out | apply below_alloc | apply pw_below_drewN | apply below_drew1 | refine below_set ?_ GE259.out) | exact HB.out)) hb); clear BK259; clear HB; have HO262 := n0_; have HO265 := n1_; have BK259 := n2_; have HB := n3_; clear n0_ n1_ n2_ n3_; (try clear hb); (try clear hb2); (try clear hk); (try clear hi); (try clear ho0); (try clear ho1); obtain ⟨Ao23, co23, eo23⟩ := Kd.R_slice HO262.out; subst eo23; have hcz24_0 : w22.cell? ⟨gb259, 0, none⟩ = some (.slice A0_0 l0_0.length c0_0) := (blk_cell BK259.out 0).trans rfl; have hcz24_1 : w22.cell? ⟨gb259, 1, none⟩ = some (.slice A0_1 l0_1.length c0_1) := (blk_cell BK259.out 1).trans rfl; have hfz24_0 := blk_frozen BK259.out 0; have hfz24_1 := blk_frozen BK259.out 1; obtain ⟨Ao25, co25, eo25⟩ := Kd.R_slice HO265.out; subst eo25) | ((with_reducible refine gate_callee (f := 17) rfl ?_); refine goesL_ (some 8) rfl rfl Try.func17 (by kernel_rfl) rfl #[.agg #[.slice Ao23 t260.length co23, .slice Ao25 t263.length co25]] rfl (by (try simp only [List.map_toArray, List.map_cons, List.map_nil]); first | done | rfl | (simp only [List.length_drop, List.length_take]; rfl)) ?_; (with_reducible refine (spec_PictureValid.calls k _ _ t260 _ _ t263 true _ ?side1 ?side2 ?side3 ?side4 A3.out).mono ?_); (case side1 => refine (Kd.R_reads' (e := 36) (base := w.heap.size) (ok := fun k_ => some k_ ≠ (.slice Ao25 t263.length co25 : Value).ownBlock) (n := t260.length) (c := co23) ?_).2.2; exact (by (with_reducible repeat (first | apply Kd.R_alloc | apply Kd.R_drewN | apply Kd.R_drew)); exact (Kd.R_mono (Kd.R_far (p := ⟨gb259, 1, none⟩) (Kd.R_far (p := ⟨gb259, 0, none⟩) (Kd.R_types HO262.out BK259.out (by decide)) (fun _ hk => hk.2) (.slice Ao23 t260.length co23)) (fun _ hk => hk.2) (.slice Ao25 t263.length co25)) (fun _ h_ => h_.1)))); (case side2 => exact (Kd.R_reads' HO262.out).2.1); (case side3 => refine (Kd.R_reads' (e := 36) (base := w.heap.size) (ok := fun k_ => some k_ ≠ (.slice Ao23 t260.length co23 : Value).ownBlock) (n := t263.length) (c := co25) ?_).2.2; exact (by (with_reducible repeat (first | apply Kd.R_alloc | apply Kd.R_drewN | apply Kd.R_drew)); exact (Kd.R_mono (Kd.R_far (p := ⟨gb259, 1, none⟩) (Kd.R_far (p := ⟨gb259, 0, none⟩) (Kd.R_types HO265.out BK259.out (by decide)) (fun _ hk => hk.2) (.slice Ao23 t260.length co23)) (fun _ hk => hk.2) (.slice Ao25 t263.length co25)) (fun _ h_ => h_.1)))); (case side4 => exact (Kd.R_reads' HO265.out).2.1); rintro e w26 ⟨rfl, hb⟩; refine ⟨_, rfl, ?_⟩; have n0_ := Aside0.mk (Kd.R_below (by (with_reducible repeat (first | apply Kd.R_alloc | apply Kd.R_drewN | apply Kd.R_drew)); exact (Kd.R_mono (Kd.R_far (p := ⟨gb259, 1, none⟩) (Kd.R_far (p := ⟨gb259, 0, none⟩) (Kd.R_types HO262.out BK259.out (by decide)) (fun _ hk => hk.2) (.slice Ao23 t260.length co23)) (fun _ hk => hk.2) (.slice Ao25 t263.length co25)) (fun _ h_ => h_.1))) hb); have n1_ := Aside0.mk (Kd.R_below (by (with_reducible repeat (first | apply Kd.R_alloc | apply Kd.R_drewN | apply Kd.R_drew)); exact (Kd.R_mono (Kd.R_far (p := ⟨gb259, 1, none⟩) (Kd.R_far (p := ⟨gb259, 0, none⟩) (Kd.R_types HO265.out BK259.out (by decide)) (fun _ hk => hk.2) (.slice Ao23 t260.length co23)) (fun _ hk => hk.2) (.slice Ao25 t263.length co25)) (fun _ h_ => h_.1))) hb); have n2_ := Aside0.mk (blk_below (g := gb259) (o := .cells #[.slice Ao23 t260.length co23, .slice Ao25 t263.length co25] 25 (0, 0)) (by (with_reducible repeat (first | refine blk_drewN ?_ _ | refine blk_drew ?_ | refine blk_alloc ?_ _)); refine blk_put (cs := #[.slice Ao23 t260.length co23, .slice A0_1 l0_1.length c0_1]) ?_ 1 _ rfl; (with_reducible repeat (first | refine blk_drewN ?_ _ | refine blk_drew ?_ | refine blk_alloc ?_ _)); refine blk_put (cs := #[.slice A0_0 l0_0.length c0_0, .slice A0_1 l0_1.length c0_1]) ?_ 0 _ rfl; (with_reducible repeat (first | refine blk_drewN ?_ _ | refine blk_drew ?_ | refine blk_alloc ?_ _)); exact BK259.out) hb); have n3_ := Aside0.mk (below_step (by repeat (first | (with_reducible first | exact HB.out | apply below_alloc | apply pw_below_drewN | apply below_drew1 | refine below_set ?_ GE259.out) | exact HB.out)) hb); clear HO262; clear HO265; clear BK259; clear HB; have HO262 := n0_; have HO265 := n1_; have BK259 := n2_; have HB := n3_; clear n0_ n1_ n2_ n3_; (try clear hb); (try clear hb2); (try clear hk); (try clear hi); have hcz27_0 : w26.cell? ⟨gb259, 0, none⟩ = some (.slice Ao23 t260.length co23) := (blk_cell BK259.out 0).trans rfl; have hcz27_1 : w26.cell? ⟨gb259, 1, none⟩ = some (.slice Ao25 t263.length co25) := (blk_cell BK259.out 1).trans rfl; have hfz27_0 := blk_frozen BK259.out 0; have hfz27_1 := blk_frozen BK259.out 1) | ((with_reducible refine gate_callee (f := 69) rfl ?_); refine goesL_ (some 12) rfl rfl Try.func69 (by kernel_rfl) rfl #[.agg #[.slice Ao23 t260.length co23, .slice Ao25 t263.length co25], .int .i64 1] rfl (by (try simp only [List.map_toArray, List.map_cons, List.map_nil]); first | done | rfl | (simp only [List.length_drop, List.length_take]; rfl)) ?_; (with_reducible refine (spec_l13All.calls k _ _ t260 _ _ t263 1 t267 _ ?side1 ?side2 ?side3 ?side4 A5.out).mono ?_); (case side1 => repeat (first | exact (Kd.R_reads' HO262.out).2.2 | (with_reducible refine Kd.C_alloc ?_ _) | (with_reducible refine Kd.C_drewN ?_ _) | (with_reducible refine Kd.C_drew ?_))); (case side2 => exact (Kd.R_reads' HO262.out).2.1); (case side3 => repeat (first | exact (Kd.R_reads' HO265.out).2.2 | (with_reducible refine Kd.C_alloc ?_ _) | (with_reducible refine Kd.C_drewN ?_ _) | (with_reducible refine Kd.C_drew ?_))); (case side4 => exact (Kd.R_reads' HO265.out).2.1); rintro e w28 ⟨v268, rfl, ho0, hb⟩; refine ⟨_, rfl, ?_⟩; have n0_ := Aside0.mk (Kd.R_below (by (with_reducible repeat (first | apply Kd.R_alloc | apply Kd.R_drewN | apply Kd.R_drew)); exact HO262.out) hb); have n1_ := Aside0.mk (Kd.R_below (by (with_reducible repeat (first | apply Kd.R_alloc | apply Kd.R_drewN | apply Kd.R_drew)); exact HO265.out) hb); have n2_ := Aside0.mk (Kd.R_lower ho0 (below_size (by repeat (first | (with_reducible first | exact HB.out | apply below_alloc | apply pw_below_drewN | apply below_drew1 | refine below_set ?_ GE259.out) | exact HB.out)))); have n3_ := Aside0.mk (blk_below (g := gb259) (o := .cells #[.slice Ao23 t260.length co23, .slice Ao25 t263.length co25] 25 (0, 0)) (by (with_reducible repeat (first | refine blk_drewN ?_ _ | refine blk_drew ?_ | refine blk_alloc ?_ _)); exact BK259.out) hb); have n4_ := Aside0.mk (below_step (by repeat (first | (with_reducible first | exact HB.out | apply below_alloc | apply pw_below_drewN | apply below_drew1 | refine below_set ?_ GE259.out) | exact HB.out)) hb); clear HO262; clear HO265; clear BK259; clear HB; have HO262 := n0_; have HO265 := n1_; have HO269 := n2_; have BK259 := n3_; have HB := n4_; clear n0_ n1_ n2_ n3_ n4_; (try clear hb); (try clear hb2); (try clear hk); (try clear hi); (try clear ho0); obtain ⟨Ao29, co29, eo29⟩ := Kd.R_slice HO269.out; subst eo29; have p273 : 0 ≤ (0 : Int) := (by omega); have q273 : 0 < (t267.length : Int) := of_decide_eq_true (by first | (with_reducible assumption) | assumption); obtain ⟨ad273, A273_0, c273_0, e273, hx273_0, hl273_0, hi273_0⟩ := at_L4 (Kd.R_reads' HO269.out).2.2 0 p273 q273; cases e273; obtain ⟨ce273, hce273, hMe273, hcc273⟩ := Kd.R_get HO269.out [] 0 p273 (by first | exact q273 | exact of_decide_eq_true (by first | (with_reducible assumption) | assumption) | (have e_ := (Kd.R_reads' HO269.out).1; omega)); obtain ⟨ve273_0, rfl, ge273_0⟩ := hMe273; have hv273_0 := hcc273 0 _ rfl; rw [Nat.add_zero, show ((Kd.slice 37 (Kd.slice 4 Kd.bool))).sz = 1 from rfl, Nat.mul_one] at hv273_0; replace hv273_0 := Option.some.inj (hv273_0.symm.trans hx273_0); rw [hv273_0] at ge273_0; have HL273_0 := Aside0.mk (show Kd.R (Kd.slice 4 Kd.bool) 37 _ _ _ _ (rd_L4 t267 0) from ge273_0); clear hv273_0 ge273_0; clear hcc273 hce273; have qi273 : (0 < t267.length) = True := eq_true (by omega); (try rw [show ((0 : Int)).toNat = 0 from rfl] at hx273_0); (try rw [Addr.add_zero'] at hx273_0); have HR273_0 := Aside0.mk hi273_0; have HC273_0 := Aside0.mk hl273_0; clear hi273_0 hl273_0; replace p273 := eq_true p273; replace q273 := eq_true q273))
        go_ret2
        exact ⟨_, by first | rfl | (simp [errW_none, errW_some] <;> rfl) | (simp [*, errW_none, errW_some] <;> rfl), by (with_reducible repeat (first | apply Kd.R_alloc | apply Kd.R_drewN | apply Kd.R_drew)); exact Kd.R_mono HL273_0.out (fun _ hk => trivial), by repeat (first | (with_reducible first | exact HB.out | apply below_alloc | apply pw_below_drewN | apply below_drew1 | refine below_set ?_ GE259.out) | exact HB.out)⟩
      · rw [if_neg c19] at H
        exact absurd H (by simp)
  · replace c4 := Bool.eq_false_iff.mpr c4
    subst c4
    have H1 : (some ((([] : List (List Bool))), false)) = some (r1, r2) := by rw [if_neg (show ¬ (false = true) by decide)] at H; exact H
    clear H
    have H := H1
    clear H1
    obtain ⟨y274, hy274⟩ : ∃ y_ : List (List Bool), y_ = (([] : List (List Bool))) := ⟨_, rfl⟩
    replace H : (some (y274, false)) = some (r1, r2) := by first | (rw [hy274]; with_reducible exact H) | (have H2_ := (Option.bind_some _ _).symm.trans H; rw [hy274]; with_reducible exact H2_) | (have H2_ := (Option.bind_some _ _).symm.trans H; with_reducible exact H2_) | with_reducible exact H | (rw [hy274]; exact H) | exact H
    have Ny274 := Aside0.mk hy274
    clear hy274
    simp only [Option.some.injEq, Prod.mk.injEq] at H
    obtain ⟨rfl, rfl⟩ := H
    go_enter Try.func42, Try.ntmps42
    go_wp2_with (first | ((with_reducible refine gate_dst (N := 1) rfl ?_); refine box_event ?hg (N := 1) ?hd (cs := #[.slice A0_0 l0_0.length c0_0, .slice A0_1 l0_1.length c0_1]) (t := 25) ?hr ?_; (case hd => rfl); (case hg => rfl); (case hr => first | (go_simp; done) | (go_simp; rfl)); intro gb259 hg w30 hbox hb; have n0_ := Aside0.mk (below_step (by repeat (first | (with_reducible first | exact HB.out | apply below_alloc | apply pw_below_drewN | apply below_drew1) | exact HB.out)) hb); have n1_ := Aside0.mk (hbox); have n2_ := Aside0.mk ((by rw [hg]; exact (below_size (by repeat (first | (with_reducible first | exact HB.out | apply below_alloc | apply pw_below_drewN | apply below_drew1) | exact HB.out))) : w.heap.size ≤ gb259)); have n3_ := Aside0.mk ((by rw [hg]; exact (below_size (by repeat (first | (with_reducible first | exact HB.out | apply below_alloc | apply pw_below_drewN | apply below_drew1) | exact HB.out))) : w.heap.size ≤ gb259)); clear HB; have HB := n0_; have BK259 := n1_; have GW259 := n2_; have GE259 := n3_; clear n0_ n1_ n2_ n3_; clear hb hbox hg; have hcz31_0 : w30.cell? ⟨gb259, 0, none⟩ = some (.slice A0_0 l0_0.length c0_0) := (blk_cell BK259.out 0).trans rfl; have hcz31_1 : w30.cell? ⟨gb259, 1, none⟩ = some (.slice A0_1 l0_1.length c0_1) := (blk_cell BK259.out 1).trans rfl; have hfz31_0 := blk_frozen BK259.out 0; have hfz31_1 := blk_frozen BK259.out 1) | ((with_reducible refine gate_callee (f := 74) rfl ?_); refine goesL_ (some 6) rfl rfl Try.func74 (by kernel_rfl) rfl #[.agg #[.slice A0_0 l0_0.length c0_0, .slice A0_1 l0_1.length c0_1]] rfl (by (try simp only [List.map_toArray, List.map_cons, List.map_nil]); first | done | rfl | (simp only [List.length_drop, List.length_take]; rfl)) ?_; (with_reducible refine (spec_l1OwnPicture.calls k _ _ l0_0 _ _ l0_1 t260 t263 _ ?side1 ?side2 ?side3 ?side4 A2.out).mono ?_); (case side1 => repeat (first | exact (Kd.C_below HR0_0.out HB.out) | (with_reducible refine Kd.C_alloc ?_ _) | (with_reducible refine Kd.C_drewN ?_ _) | (with_reducible refine Kd.C_drew ?_))); (case side2 => exact HC0_0.out); (case side3 => repeat (first | exact (Kd.C_below HR0_1.out HB.out) | (with_reducible refine Kd.C_alloc ?_ _) | (with_reducible refine Kd.C_drewN ?_ _) | (with_reducible refine Kd.C_drew ?_))); (case side4 => exact HC0_1.out); rintro e w32 ⟨v261, v264, rfl, ho0, ho1, hb⟩; refine ⟨_, rfl, ?_⟩; have n0_ := Aside0.mk (Kd.R_lower ho0 (below_size (by repeat (first | (with_reducible first | exact HB.out | apply below_alloc | apply pw_below_drewN | apply below_drew1 | refine below_set ?_ GE259.out) | exact HB.out)))); have n1_ := Aside0.mk (Kd.R_lower ho1 (below_size (by repeat (first | (with_reducible first | exact HB.out | apply below_alloc | apply pw_below_drewN | apply below_drew1 | refine below_set ?_ GE259.out) | exact HB.out)))); have n2_ := Aside0.mk (blk_below (g := gb259) (o := .cells #[.slice A0_0 l0_0.length c0_0, .slice A0_1 l0_1.length c0_1] 25 (0, 0)) (by (with_reducible repeat (first | refine blk_drewN ?_ _ | refine blk_drew ?_ | refine blk_alloc ?_ _)); exact BK259.out) hb); have n3_ := Aside0.mk (below_step (by repeat (first | (with_reducible first | exact HB.out | apply below_alloc | apply pw_below_drewN | apply below_drew1 | refine below_set ?_ GE259.out) | exact HB.out)) hb); clear BK259; clear HB; have HO262 := n0_; have HO265 := n1_; have BK259 := n2_; have HB := n3_; clear n0_ n1_ n2_ n3_; (try clear hb); (try clear hb2); (try clear hk); (try clear hi); (try clear ho0); (try clear ho1); obtain ⟨Ao33, co33, eo33⟩ := Kd.R_slice HO262.out; subst eo33; have hcz34_0 : w32.cell? ⟨gb259, 0, none⟩ = some (.slice A0_0 l0_0.length c0_0) := (blk_cell BK259.out 0).trans rfl; have hcz34_1 : w32.cell? ⟨gb259, 1, none⟩ = some (.slice A0_1 l0_1.length c0_1) := (blk_cell BK259.out 1).trans rfl; have hfz34_0 := blk_frozen BK259.out 0; have hfz34_1 := blk_frozen BK259.out 1; obtain ⟨Ao35, co35, eo35⟩ := Kd.R_slice HO265.out; subst eo35) | ((with_reducible refine gate_callee (f := 17) rfl ?_); refine goesL_ (some 8) rfl rfl Try.func17 (by kernel_rfl) rfl #[.agg #[.slice Ao33 t260.length co33, .slice Ao35 t263.length co35]] rfl (by (try simp only [List.map_toArray, List.map_cons, List.map_nil]); first | done | rfl | (simp only [List.length_drop, List.length_take]; rfl)) ?_; (with_reducible refine (spec_PictureValid.calls k _ _ t260 _ _ t263 false _ ?side1 ?side2 ?side3 ?side4 A3.out).mono ?_); (case side1 => refine (Kd.R_reads' (e := 36) (base := w.heap.size) (ok := fun k_ => some k_ ≠ (.slice Ao35 t263.length co35 : Value).ownBlock) (n := t260.length) (c := co33) ?_).2.2; exact (by (with_reducible repeat (first | apply Kd.R_alloc | apply Kd.R_drewN | apply Kd.R_drew)); exact (Kd.R_mono (Kd.R_far (p := ⟨gb259, 1, none⟩) (Kd.R_far (p := ⟨gb259, 0, none⟩) (Kd.R_types HO262.out BK259.out (by decide)) (fun _ hk => hk.2) (.slice Ao33 t260.length co33)) (fun _ hk => hk.2) (.slice Ao35 t263.length co35)) (fun _ h_ => h_.1)))); (case side2 => exact (Kd.R_reads' HO262.out).2.1); (case side3 => refine (Kd.R_reads' (e := 36) (base := w.heap.size) (ok := fun k_ => some k_ ≠ (.slice Ao33 t260.length co33 : Value).ownBlock) (n := t263.length) (c := co35) ?_).2.2; exact (by (with_reducible repeat (first | apply Kd.R_alloc | apply Kd.R_drewN | apply Kd.R_drew)); exact (Kd.R_mono (Kd.R_far (p := ⟨gb259, 1, none⟩) (Kd.R_far (p := ⟨gb259, 0, none⟩) (Kd.R_types HO265.out BK259.out (by decide)) (fun _ hk => hk.2) (.slice Ao33 t260.length co33)) (fun _ hk => hk.2) (.slice Ao35 t263.length co35)) (fun _ h_ => h_.1)))); (case side4 => exact (Kd.R_reads' HO265.out).2.1); rintro e w36 ⟨rfl, hb⟩; refine ⟨_, rfl, ?_⟩; have n0_ := Aside0.mk (Kd.R_below (by (with_reducible repeat (first | apply Kd.R_alloc | apply Kd.R_drewN | apply Kd.R_drew)); exact (Kd.R_mono (Kd.R_far (p := ⟨gb259, 1, none⟩) (Kd.R_far (p := ⟨gb259, 0, none⟩) (Kd.R_types HO262.out BK259.out (by decide)) (fun _ hk => hk.2) (.slice Ao33 t260.length co33)) (fun _ hk => hk.2) (.slice Ao35 t263.length co35)) (fun _ h_ => h_.1))) hb); have n1_ := Aside0.mk (Kd.R_below (by (with_reducible repeat (first | apply Kd.R_alloc | apply Kd.R_drewN | apply Kd.R_drew)); exact (Kd.R_mono (Kd.R_far (p := ⟨gb259, 1, none⟩) (Kd.R_far (p := ⟨gb259, 0, none⟩) (Kd.R_types HO265.out BK259.out (by decide)) (fun _ hk => hk.2) (.slice Ao33 t260.length co33)) (fun _ hk => hk.2) (.slice Ao35 t263.length co35)) (fun _ h_ => h_.1))) hb); have n2_ := Aside0.mk (blk_below (g := gb259) (o := .cells #[.slice Ao33 t260.length co33, .slice Ao35 t263.length co35] 25 (0, 0)) (by (with_reducible repeat (first | refine blk_drewN ?_ _ | refine blk_drew ?_ | refine blk_alloc ?_ _)); refine blk_put (cs := #[.slice Ao33 t260.length co33, .slice A0_1 l0_1.length c0_1]) ?_ 1 _ rfl; (with_reducible repeat (first | refine blk_drewN ?_ _ | refine blk_drew ?_ | refine blk_alloc ?_ _)); refine blk_put (cs := #[.slice A0_0 l0_0.length c0_0, .slice A0_1 l0_1.length c0_1]) ?_ 0 _ rfl; (with_reducible repeat (first | refine blk_drewN ?_ _ | refine blk_drew ?_ | refine blk_alloc ?_ _)); exact BK259.out) hb); have n3_ := Aside0.mk (below_step (by repeat (first | (with_reducible first | exact HB.out | apply below_alloc | apply pw_below_drewN | apply below_drew1 | refine below_set ?_ GE259.out) | exact HB.out)) hb); clear HO262; clear HO265; clear BK259; clear HB; have HO262 := n0_; have HO265 := n1_; have BK259 := n2_; have HB := n3_; clear n0_ n1_ n2_ n3_; (try clear hb); (try clear hb2); (try clear hk); (try clear hi)) | ((with_reducible refine gate_dst (N := 10) rfl ?_); refine Kd.R_lit (Kd.slice 4 Kd.bool) _ 37 ?hg (N := 10) ?hd (xs := ([] : List (List Bool))) (inner := []) (ok := fun _ => True) (okp := fun _ => True) ?hr ?hp (fun _ hk => hk) trivial (Below.refl _ _) (Nat.le_refl _) (by simp) ?_; (case hd => rfl); (case hg => rfl); (case hr => first | (go_simp; done) | (go_simp; rfl)); (case hp => exact (Reps.none _ _)); intro v275 w37 ho38 hb hg_ hnew_; clear hg_ hnew_; (first | rw [← Ny274.out] at ho38 | (simp only [Int.reduceToNat] at ho38; rw [← Ny274.out] at ho38)); have n0_ := Aside0.mk (Kd.R_below (by (with_reducible repeat (first | apply Kd.R_alloc | apply Kd.R_drewN | apply Kd.R_drew)); exact HO262.out) hb); have n1_ := Aside0.mk (Kd.R_below (by (with_reducible repeat (first | apply Kd.R_alloc | apply Kd.R_drewN | apply Kd.R_drew)); exact HO265.out) hb); have n2_ := Aside0.mk (Kd.R_lower ho38 (below_size (by repeat (first | (with_reducible first | exact HB.out | apply below_alloc | apply pw_below_drewN | apply below_drew1 | refine below_set ?_ GE259.out) | exact HB.out)))); have n3_ := Aside0.mk (blk_below (g := gb259) (o := .cells #[.slice Ao33 t260.length co33, .slice Ao35 t263.length co35] 25 (0, 0)) (by (with_reducible repeat (first | refine blk_drewN ?_ _ | refine blk_drew ?_ | refine blk_alloc ?_ _)); exact BK259.out) hb); have n4_ := Aside0.mk (below_step (by repeat (first | (with_reducible first | exact HB.out | apply below_alloc | apply pw_below_drewN | apply below_drew1 | refine below_set ?_ GE259.out) | exact HB.out)) hb); clear HO262; clear HO265; clear BK259; clear HB; have HO262 := n0_; have HO265 := n1_; have HO276 := n2_; have BK259 := n3_; have HB := n4_; clear n0_ n1_ n2_ n3_ n4_; clear hb ho38))
    go_ret2
    exact ⟨_, by first | rfl | (simp [errW_none, errW_some] <;> rfl) | (simp [*, errW_none, errW_some] <;> rfl), by (with_reducible repeat (first | apply Kd.R_alloc | apply Kd.R_drewN | apply Kd.R_drew)); exact HO276.out, by repeat (first | (with_reducible first | exact HB.out | apply below_alloc | apply pw_below_drewN | apply below_drew1 | refine below_set ?_ GE259.out) | exact HB.out)⟩

/-! ### laws_heldBoolS: function 75 -/
def laws_heldBoolS.l0 : Nat → List Bool → Int → Int → Option (Int)
  | 0, _, _, _ => none
  | k + 1, x0, x1, x5 => if x5 < (x0.length : Int) then (if 0 ≤ x5 then (if ((rdOf false x0 x5) != ((Int.tmod x1 3) == 0)) = true then (some (-1)) else (laws_heldBoolS.l0 k x0 (wrap64 (x1 + 1)) (wrap64 (x5 + 1)))) else (none)) else (some x1)
def laws_heldBoolS.f (k : Nat) (l0 : List Bool) (a1 : Int) : Option (Int) := laws_heldBoolS.l0 k l0 a1 0
theorem laws_heldBoolS.mono_l : ∀ k, (∀ y0 y1 y2, LeO (laws_heldBoolS.l0 k y0 y1 y2) (laws_heldBoolS.l0 (k + 1) y0 y1 y2))
  | 0 => fun _ _ _ r h => by simp [laws_heldBoolS.l0] at h
  | k + 1 => by
    have ih0 := laws_heldBoolS.mono_l k
    · intro y0 y1 y2
      unfold laws_heldBoolS.l0
      repeat' first
      | (with_reducible exact ih0 _ _ _)
      | (with_reducible exact LeO.refl _)
      | (with_reducible exact LeO.none _)
      | (with_reducible refine LeO.ite ?_ ?_)
      | (with_reducible refine LeO.bind ?_ (fun _ => ?_))
      | exact ih0 _ _ _
      | exact LeO.none _
      | refine LeO.ite ?_ ?_
      | refine LeO.bind ?_ (fun _ => ?_)
theorem laws_heldBoolS.mono : ∀ a0 a1 k, LeO (laws_heldBoolS.f k a0 a1) (laws_heldBoolS.f (k + 1) a0 a1) := by
  intro a0 a1 k
  have ih0 := laws_heldBoolS.mono_l k
  unfold laws_heldBoolS.f
  repeat' first
      | (with_reducible exact ih0 _ _ _)
      | (with_reducible exact LeO.refl _)
      | (with_reducible exact LeO.none _)
      | (with_reducible refine LeO.ite ?_ ?_)
      | (with_reducible refine LeO.bind ?_ (fun _ => ?_))
      | exact ih0 _ _ _
      | exact LeO.none _
      | refine LeO.ite ?_ ?_
      | refine LeO.bind ?_ (fun _ => ?_)
set_option maxHeartbeats 8000000 in
set_option maxRecDepth 100000 in
theorem laws_heldBoolS.calls (k : Nat) (A0 : Option Addr) (c0 : Nat) (l0 : List Bool) (a1 : Int) (r : Int) (w : World) (hr0 : Kd.C Kd.bool w A0 l0.length l0) (hc0 : l0.length ≤ c0) (h : laws_heldBoolS.f k l0 a1 = some r) :
    Calls Try.prog 75 #[.slice A0 l0.length c0, .int .i64 a1] w fun e w' => e = .returned (.int .i64 r) ∧ Drawn0 w w' := by
  have HR0 := Aside0.mk hr0
  have HC0 := Aside0.mk hc0
  clear hr0 hc0
  have H : (laws_heldBoolS.l0 k l0 a1 0) = some r := h
  clear h
  have H' := Aside0.mk H
  clear H
  go_enter Try.func75, Try.ntmps75
  go_wp2
  go_loopg [1, 5] k (fun kq v1 v5 w' => ∃ (x1_1 : Int) (x5_1 : Int), v1 = .int .i64 x1_1 ∧ v5 = .int .i64 x5_1 ∧ Aside0 (laws_heldBoolS.l0 kq l0 x1_1 x5_1 = some r) ∧ Aside0 (kq ≤ k) ∧ Drawn0 w w')
  case atStart => exact ⟨(a1), (0), (by first | rfl | (simp; done) | (simp [*]; done)), (by first | rfl | (simp; done) | (simp [*]; done)), H', ⟨Nat.le_refl _⟩, by repeat (first | exact Drawn0.refl _ | apply Drawn0.step)⟩
  case round =>
    clear H'
    try clear p2
    obtain ⟨x1_1, x5_1, rfl, rfl, HA, HK1, ⟨m1, rfl⟩⟩ := hrel
    cases gk with
    | zero => exact absurd HA.out (by simp [laws_heldBoolS.l0])
    | succ k1 =>
      have H := HA.out
      clear HA
      simp only [laws_heldBoolS.l0] at H
      by_cases c3 : x5_1 < (l0.length : Int)
      · rw [if_pos c3] at H
        have c3b0 : decide (x5_1 < (l0.length : Int)) = true := decide_eq_true c3
        clear c3
        by_cases c4 : 0 ≤ x5_1
        · rw [if_pos c4] at H
          have c4b0 : decide (0 ≤ x5_1) = true := decide_eq_true c4
          clear c4
          by_cases c5 : ((rdOf false l0 x5_1) != ((Int.tmod x1_1 3) == 0)) = true
          · rw [if_pos c5] at H
            have c5b0 : ((rdOf false l0 x5_1) != ((Int.tmod x1_1 3) == 0)) = true := c5
            (try (have c5b1 : decide ((rdOf false l0 x5_1) = ((Int.tmod x1_1 3) == 0)) = false := by simpa using c5))
            (try (have c5b2 : ((rdOf false l0 x5_1) == ((Int.tmod x1_1 3) == 0)) = false := by simpa using c5))
            (try (have c5b3 : ¬ ((rdOf false l0 x5_1) = ((Int.tmod x1_1 3) == 0)) := by simpa using c5))
            clear c5
            obtain rfl := Option.some.inj H
            have p277 : 0 ≤ (x5_1 : Int) := of_decide_eq_true (by first | (with_reducible assumption) | assumption)
            have q277 : x5_1 < (l0.length : Int) := of_decide_eq_true (by first | (with_reducible assumption) | assumption)
            obtain ⟨ad277, e277, hx277_0⟩ := Kd.at_bool HR0.out x5_1 p277 q277
            cases e277
            replace p277 := eq_true p277
            replace q277 := eq_true q277
            go_wp2
            go_ret
            exact ⟨by first | rfl | (simp; done) | (simp [*]; done), by repeat (first | exact Drawn0.refl _ | apply Drawn0.step)⟩
          · rw [if_neg c5] at H
            have c5b0 : ((rdOf false l0 x5_1) != ((Int.tmod x1_1 3) == 0)) = false := by simpa using c5
            (try (have c5b1 : decide ((rdOf false l0 x5_1) = ((Int.tmod x1_1 3) == 0)) = true := by simpa using c5))
            (try (have c5b2 : ((rdOf false l0 x5_1) == ((Int.tmod x1_1 3) == 0)) = true := by simpa using c5))
            clear c5
            have H' := Aside0.mk H
            clear H
            have p277 : 0 ≤ (x5_1 : Int) := of_decide_eq_true (by first | (with_reducible assumption) | assumption)
            have q277 : x5_1 < (l0.length : Int) := of_decide_eq_true (by first | (with_reducible assumption) | assumption)
            obtain ⟨ad277, e277, hx277_0⟩ := Kd.at_bool HR0.out x5_1 p277 q277
            cases e277
            replace p277 := eq_true p277
            replace q277 := eq_true q277
            go_wp2
            go_roundg k1
            case measure => have := HK1.out; omega
            case rel => exact ⟨(wrap64 (x1_1 + 1)), (wrap64 (x5_1 + 1)), (by first | rfl | (simp; done) | (simp [*]; done)), (by first | rfl | (simp; done) | (simp [*]; done)), H', ⟨by have := HK1.out; omega⟩, by repeat (first | exact Drawn0.refl _ | apply Drawn0.step)⟩
        · rw [if_neg c4] at H
          exact absurd H (by simp)
      · rw [if_neg c3] at H
        have c3b0 : decide (x5_1 < (l0.length : Int)) = false := decide_eq_false c3
        clear c3
        obtain rfl := Option.some.inj H
        go_wp2
        go_ret
        exact ⟨by first | rfl | (simp; done) | (simp [*]; done), by repeat (first | exact Drawn0.refl _ | apply Drawn0.step)⟩

/-! ### laws_heldBoolSS: function 44 -/
def laws_heldBoolSS.l0 : Nat → List (List Bool) → Int → Int → Option (Int)
  | 0, _, _, _ => none
  | k + 1, x0, x1, x5 => if x5 < (x0.length : Int) then (if 0 ≤ x5 then ((laws_heldBoolS.f k (rd_L3 x0 x5) x1).bind fun t279 => (if t279 < 0 then (some (-1)) else (laws_heldBoolSS.l0 k x0 t279 (wrap64 (x5 + 1))))) else (none)) else (some x1)
def laws_heldBoolSS.f (k : Nat) (l0 : List (List Bool)) (a1 : Int) : Option (Int) := laws_heldBoolSS.l0 k l0 a1 0
theorem laws_heldBoolSS.mono_l : ∀ k, (∀ y0 y1 y2, LeO (laws_heldBoolSS.l0 k y0 y1 y2) (laws_heldBoolSS.l0 (k + 1) y0 y1 y2))
  | 0 => fun _ _ _ r h => by simp [laws_heldBoolSS.l0] at h
  | k + 1 => by
    have ih0 := laws_heldBoolSS.mono_l k
    · intro y0 y1 y2
      unfold laws_heldBoolSS.l0
      repeat' first
      | (with_reducible exact ih0 _ _ _)
      | (with_reducible exact laws_heldBoolS.mono _ _ _)
      | (with_reducible exact LeO.refl _)
      | (with_reducible exact LeO.none _)
      | (with_reducible refine LeO.ite ?_ ?_)
      | (with_reducible refine LeO.bind ?_ (fun _ => ?_))
      | exact ih0 _ _ _
      | exact laws_heldBoolS.mono _ _ _
      | exact LeO.none _
      | refine LeO.ite ?_ ?_
      | refine LeO.bind ?_ (fun _ => ?_)
theorem laws_heldBoolSS.mono : ∀ a0 a1 k, LeO (laws_heldBoolSS.f k a0 a1) (laws_heldBoolSS.f (k + 1) a0 a1) := by
  intro a0 a1 k
  have ih0 := laws_heldBoolSS.mono_l k
  unfold laws_heldBoolSS.f
  repeat' first
      | (with_reducible exact ih0 _ _ _)
      | (with_reducible exact laws_heldBoolS.mono _ _ _)
      | (with_reducible exact LeO.refl _)
      | (with_reducible exact LeO.none _)
      | (with_reducible refine LeO.ite ?_ ?_)
      | (with_reducible refine LeO.bind ?_ (fun _ => ?_))
      | exact ih0 _ _ _
      | exact laws_heldBoolS.mono _ _ _
      | exact LeO.none _
      | refine LeO.ite ?_ ?_
      | refine LeO.bind ?_ (fun _ => ?_)
set_option maxHeartbeats 8000000 in
set_option maxRecDepth 100000 in
theorem laws_heldBoolSS.calls (k : Nat) (A0 : Option Addr) (c0 : Nat) (l0 : List (List Bool)) (a1 : Int) (r : Int) (w : World) (hr0 : Kd.C (Kd.slice 4 Kd.bool) w A0 l0.length l0) (hc0 : l0.length ≤ c0) (h : laws_heldBoolSS.f k l0 a1 = some r) :
    Calls Try.prog 44 #[.slice A0 l0.length c0, .int .i64 a1] w fun e w' => e = .returned (.int .i64 r) ∧ Drawn0 w w' := by
  have HR0 := Aside0.mk hr0
  have HC0 := Aside0.mk hc0
  clear hr0 hc0
  have H : (laws_heldBoolSS.l0 k l0 a1 0) = some r := h
  clear h
  have H' := Aside0.mk H
  clear H
  go_enter Try.func44, Try.ntmps44
  go_wp2
  go_loopg [1, 5] k (fun kq v1 v5 w' => ∃ (x1_1 : Int) (x5_1 : Int), v1 = .int .i64 x1_1 ∧ v5 = .int .i64 x5_1 ∧ Aside0 (laws_heldBoolSS.l0 kq l0 x1_1 x5_1 = some r) ∧ Aside0 (kq ≤ k) ∧ Drawn0 w w')
  case atStart => exact ⟨(a1), (0), (by first | rfl | (simp; done) | (simp [*]; done)), (by first | rfl | (simp; done) | (simp [*]; done)), H', ⟨Nat.le_refl _⟩, by repeat (first | exact Drawn0.refl _ | apply Drawn0.step)⟩
  case round =>
    clear H'
    try clear p2
    obtain ⟨x1_1, x5_1, rfl, rfl, HA, HK1, ⟨m1, rfl⟩⟩ := hrel
    cases gk with
    | zero => exact absurd HA.out (by simp [laws_heldBoolSS.l0])
    | succ k1 =>
      have H := HA.out
      clear HA
      simp only [laws_heldBoolSS.l0] at H
      by_cases c3 : x5_1 < (l0.length : Int)
      · rw [if_pos c3] at H
        have c3b0 : decide (x5_1 < (l0.length : Int)) = true := decide_eq_true c3
        clear c3
        by_cases c4 : 0 ≤ x5_1
        · rw [if_pos c4] at H
          have c4b0 : decide (0 ≤ x5_1) = true := decide_eq_true c4
          clear c4
          replace H := Option.bind_eq_some_iff.mp H
          obtain ⟨t279, A50, H⟩ := H
          replace H : (if t279 < 0 then (some (-1)) else (laws_heldBoolSS.l0 k1 l0 t279 (wrap64 (x5_1 + 1)))) = some r := H
          have A5 := Aside0.mk A50
          clear A50
          by_cases c6 : t279 < 0
          · rw [if_pos c6] at H
            have c6b0 : decide (t279 < 0) = true := decide_eq_true c6
            clear c6
            obtain rfl := Option.some.inj H
            have p278 : 0 ≤ (x5_1 : Int) := of_decide_eq_true (by first | (with_reducible assumption) | assumption)
            have q278 : x5_1 < (l0.length : Int) := of_decide_eq_true (by first | (with_reducible assumption) | assumption)
            obtain ⟨ad278, A278_0, c278_0, e278, hx278_0, hl278_0, hi278_0⟩ := at_L3 HR0.out x5_1 p278 q278
            cases e278
            have HR278_0 := Aside0.mk hi278_0
            have HC278_0 := Aside0.mk hl278_0
            clear hi278_0 hl278_0
            replace p278 := eq_true p278
            replace q278 := eq_true q278
            go_wp2_with (first | ((with_reducible refine gate_callee (f := 75) rfl ?_); refine goesL_ (some 17) rfl rfl Try.func75 (by kernel_rfl) rfl #[.slice A278_0 (rd_L3 l0 x5_1).length c278_0, .int .i64 x1_1] rfl (by (try simp only [List.map_toArray, List.map_cons, List.map_nil]); first | done | rfl | (simp only [List.length_drop, List.length_take]; rfl)) ?_; (with_reducible refine (laws_heldBoolS.calls k1 _ _ (rd_L3 l0 x5_1) x1_1 t279 _ ?side1 ?side2 A5.out).mono ?_); (case side1 => repeat (first | exact HR278_0.out | (with_reducible refine Kd.C_alloc ?_ _) | (with_reducible refine Kd.C_drewN ?_ _) | (with_reducible refine Kd.C_drew ?_))); (case side2 => exact HC278_0.out); rintro e w' ⟨rfl, ⟨nd, rfl⟩⟩; refine ⟨_, rfl, ?_⟩))
            go_ret
            exact ⟨by first | rfl | (simp; done) | (simp [*]; done), by repeat (first | exact Drawn0.refl _ | apply Drawn0.step)⟩
          · rw [if_neg c6] at H
            have c6b0 : decide (t279 < 0) = false := decide_eq_false c6
            clear c6
            have H' := Aside0.mk H
            clear H
            have p278 : 0 ≤ (x5_1 : Int) := of_decide_eq_true (by first | (with_reducible assumption) | assumption)
            have q278 : x5_1 < (l0.length : Int) := of_decide_eq_true (by first | (with_reducible assumption) | assumption)
            obtain ⟨ad278, A278_0, c278_0, e278, hx278_0, hl278_0, hi278_0⟩ := at_L3 HR0.out x5_1 p278 q278
            cases e278
            have HR278_0 := Aside0.mk hi278_0
            have HC278_0 := Aside0.mk hl278_0
            clear hi278_0 hl278_0
            replace p278 := eq_true p278
            replace q278 := eq_true q278
            go_wp2_with (first | ((with_reducible refine gate_callee (f := 75) rfl ?_); refine goesL_ (some 17) rfl rfl Try.func75 (by kernel_rfl) rfl #[.slice A278_0 (rd_L3 l0 x5_1).length c278_0, .int .i64 x1_1] rfl (by (try simp only [List.map_toArray, List.map_cons, List.map_nil]); first | done | rfl | (simp only [List.length_drop, List.length_take]; rfl)) ?_; (with_reducible refine (laws_heldBoolS.calls k1 _ _ (rd_L3 l0 x5_1) x1_1 t279 _ ?side1 ?side2 A5.out).mono ?_); (case side1 => repeat (first | exact HR278_0.out | (with_reducible refine Kd.C_alloc ?_ _) | (with_reducible refine Kd.C_drewN ?_ _) | (with_reducible refine Kd.C_drew ?_))); (case side2 => exact HC278_0.out); rintro e w' ⟨rfl, ⟨nd, rfl⟩⟩; refine ⟨_, rfl, ?_⟩))
            go_roundg k1
            case measure => have := HK1.out; omega
            case rel => exact ⟨(t279), (wrap64 (x5_1 + 1)), (by first | rfl | (simp; done) | (simp [*]; done)), (by first | rfl | (simp; done) | (simp [*]; done)), H', ⟨by have := HK1.out; omega⟩, by repeat (first | exact Drawn0.refl _ | apply Drawn0.step)⟩
        · rw [if_neg c4] at H
          exact absurd H (by simp)
      · rw [if_neg c3] at H
        have c3b0 : decide (x5_1 < (l0.length : Int)) = false := decide_eq_false c3
        clear c3
        obtain rfl := Option.some.inj H
        go_wp2
        go_ret
        exact ⟨by first | rfl | (simp; done) | (simp [*]; done), by repeat (first | exact Drawn0.refl _ | apply Drawn0.step)⟩

/-! ### laws_FnExactPictureFirst: function 13 -/
--@import Derived.Test.YtapnohcfnclleaaV2
open Go.Proofs.Ytapnohcfnclleaa.My
theorem own_lower {α : Type} {d : Kd α} {e b b' lo hi : Nat} {w : World} {v : Value} {xs : List α} (h : Own d e w b' lo hi v xs) (hb : b ≤ b') : Own d e w b lo hi v xs := ⟨Kd.S_lower h.1 hb, h.2⟩
theorem ownR_set {α : Type} {d : Kd α} {e b lo hi : Nat} {w : World} {v : Value} {xs : List α} (h : OwnR d e w b lo hi v xs) (p : Addr) (u : Value) (hp : ∀ k, lo ≤ k ∧ k < hi → k ≠ p.block) : OwnR d e (w.setCell p u) b lo hi v xs :=
  h.kept (P := fun k => k = p.block) ⟨by rw [World.size_setCell]; exact Nat.le_refl _, fun k _ hn => Below.heap_setCell w p u k hn⟩ hp
def laws_FnExactPictureFirst.f (k : Nat) (l0_0 l0_1 : List (List Int)) : Option Bool := (laws_szPicture.f k l0_0 l0_1 1048576).bind fun left => (if left < 0 then some true else ((laws_toPicture.f k l0_0 l0_1).bind fun p => ((spec_PictureFirst.f k p.1 p.2).bind fun wf => ((impl_PictureFirst.f k p.1 p.2).bind fun g => ((laws_eqBoolSS.f k g.1 wf.1).bind fun e1 => (if e1 = true then (if g.2 = wf.2 then ((laws_eqPicture.f k p.1 p.2 p.1 p.2).bind fun e2 => (if e2 = true then ((laws_markPicture.f k p.1 p.2 1).bind fun kx => (if 0 ≤ kx then ((laws_markBoolSS.f k g.1 1).bind fun kg => (if 0 ≤ kg.1 then ((laws_heldBoolSS.f k kg.2 1).bind fun q => (if q = kg.1 then some true else none)) else none)) else none)) else none)) else none) else none))))))
theorem laws_FnExactPictureFirst.mono : ∀ a0 a1 k, LeO (laws_FnExactPictureFirst.f k a0 a1) (laws_FnExactPictureFirst.f (k + 1) a0 a1) := by
  intro a0 a1 k
  unfold laws_FnExactPictureFirst.f
  repeat' first
      | (with_reducible exact laws_szPicture.mono _ _ _ _)
      | (with_reducible exact laws_toPicture.mono _ _ _)
      | (with_reducible exact spec_PictureFirst.mono _ _ _)
      | (with_reducible exact impl_PictureFirst.mono _ _ _)
      | (with_reducible exact laws_eqBoolSS.mono _ _ _)
      | (with_reducible exact laws_eqPicture.mono _ _ _ _ _)
      | (with_reducible exact laws_markPicture.mono _ _ _ _)
      | (with_reducible exact laws_markBoolSS.mono _ _ _)
      | (with_reducible exact laws_heldBoolSS.mono _ _ _)
      | (with_reducible exact LeO.refl _)
      | (with_reducible exact LeO.none _)
      | (with_reducible refine LeO.ite ?_ ?_)
      | (with_reducible refine LeO.bind ?_ (fun _ => ?_))
      | exact laws_szPicture.mono _ _ _ _
      | exact laws_toPicture.mono _ _ _
      | exact spec_PictureFirst.mono _ _ _
      | exact impl_PictureFirst.mono _ _ _
      | exact laws_eqBoolSS.mono _ _ _
      | exact laws_eqPicture.mono _ _ _ _ _
      | exact laws_markPicture.mono _ _ _ _
      | exact laws_markBoolSS.mono _ _ _
      | exact laws_heldBoolSS.mono _ _ _
      | exact LeO.none _
      | refine LeO.ite ?_ ?_
      | refine LeO.bind ?_ (fun _ => ?_)
set_option maxHeartbeats 8000000 in
set_option maxRecDepth 100000 in
theorem laws_FnExactPictureFirst.calls (k : Nat) (A0_0 : Option Addr) (c0_0 : Nat) (l0_0 : List (List Int)) (A0_1 : Option Addr) (c0_1 : Nat) (l0_1 : List (List Int)) (r : Bool) (w : World) (hr0_0 : Kd.C (Kd.slice 3 (Kd.int .i64)) w A0_0 l0_0.length l0_0) (hc0_0 : l0_0.length ≤ c0_0) (hr0_1 : Kd.C (Kd.slice 3 (Kd.int .i64)) w A0_1 l0_1.length l0_1) (hc0_1 : l0_1.length ≤ c0_1) (h : laws_FnExactPictureFirst.f k l0_0 l0_1 = some r) :
    Calls Try.prog 13 #[.agg #[.slice A0_0 l0_0.length c0_0, .slice A0_1 l0_1.length c0_1]] w fun e w' => e = .returned (.bool r) ∧ Below w.heap.size w w' := by
  have hu39 := Try.underlying39
  have hu25 := Try.underlying25
  have HR0 := Aside0.mk hr0_0
  have HR1 := Aside0.mk hr0_1
  clear hr0_0 hr0_1
  unfold laws_FnExactPictureFirst.f at h
  obtain ⟨left, hleft, h⟩ := Option.bind_eq_some_iff.mp h
  have HZ := Aside0.mk hleft
  clear hleft
  obtain ⟨W1, hW1⟩ : ∃ W1 : World, W1 = w.alloc (Obj.cells #[.slice A0_0 l0_0.length c0_0, .slice A0_1 l0_1.length c0_1] 39) := ⟨_, rfl⟩
  have HW1 := Aside0.mk hW1
  have HB : Aside0 (Below w.heap.size w W1) := ⟨by rw [hW1]; exact (Below.refl _ _).alloc (Nat.le_refl _) _⟩
  have HA : Aside0 (W1.heap[w.heap.size]? = some (Obj.cells #[.slice A0_0 l0_0.length c0_0, .slice A0_1 l0_1.length c0_1] 39 (0, 0))) := ⟨by rw [hW1]; exact blk_new _ _⟩
  have cb0 : (w.alloc (Obj.cells #[.slice A0_0 l0_0.length c0_0, .slice A0_1 l0_1.length c0_1] 39)).cell? ⟨w.heap.size, 0, none⟩ = some (.slice A0_0 l0_0.length c0_0) := blk_cell (blk_new _ _) 0
  have cb1 : (w.alloc (Obj.cells #[.slice A0_0 l0_0.length c0_0, .slice A0_1 l0_1.length c0_1] 39)).cell? ⟨w.heap.size, 1, none⟩ = some (.slice A0_1 l0_1.length c0_1) := blk_cell (blk_new _ _) 1
  clear hW1
  by_cases c1 : left < 0
  · rw [if_pos c1] at h
    obtain rfl := Option.some.inj h
    have b1 : decide (left < 0) = true := decide_eq_true c1
    clear h c1
    go_enter Try.func13, Try.ntmps13
    go_wp2_with (first | ((with_reducible refine gate_callee (f := 22) rfl ?_); (try rw [← HW1.out]); refine goesL_ (some 16) rfl rfl Try.func22 (by kernel_rfl) rfl #[.agg #[.slice A0_0 l0_0.length c0_0, .slice A0_1 l0_1.length c0_1], .int .i64 1048576] rfl (by (try simp only [List.map_toArray, List.map_cons, List.map_nil]); first | done | rfl) ?_; (with_reducible refine (laws_szPicture.calls k A0_0 c0_0 l0_0 A0_1 c0_1 l0_1 1048576 left _ (Kd.C_below HR0.out HB.out) hc0_0 (Kd.C_below HR1.out HB.out) hc0_1 HZ.out).mono ?_); rintro e wv1 ⟨rfl, hb⟩; refine ⟨_, rfl, ?_⟩; have n0_ := Aside0.mk (below_step HB.out hb); have n1_ := Aside0.mk (blk_lower' HA.out hb); (try clear HB); (try clear HA); have HB := n0_; have HA := n1_; clear n0_ n1_; (try clear hb); (try clear ca0); (try clear ca1); (try clear cx0); (try clear cx1); (try clear cb0); (try clear cb1); have ca0 : wv1.cell? ⟨w.heap.size, 0, none⟩ = some (.slice A0_0 l0_0.length c0_0) := blk_cell HA.out 0; have ca1 : wv1.cell? ⟨w.heap.size, 1, none⟩ = some (.slice A0_1 l0_1.length c0_1) := blk_cell HA.out 1))
    go_ret
    exact ⟨rfl, HB.out⟩
  · rw [if_neg c1] at h
    have b1 : decide (left < 0) = false := decide_eq_false c1
    clear c1
    obtain ⟨⟨X0, X1⟩, hx, h⟩ := Option.bind_eq_some_iff.mp h
    obtain ⟨⟨wf, ok⟩, hw, h⟩ := Option.bind_eq_some_iff.mp h
    obtain ⟨⟨g, ok2⟩, hg, h⟩ := Option.bind_eq_some_iff.mp h
    dsimp only at hw hg h
    obtain ⟨e1, he1, h⟩ := Option.bind_eq_some_iff.mp h
    by_cases c2 : e1 = true
    case neg => rw [if_neg c2] at h; exact absurd h (by simp)
    rw [if_pos c2] at h
    subst c2
    by_cases c2b : ok2 = ok
    case neg => rw [if_neg c2b] at h; exact absurd h (by simp)
    subst c2b
    rw [if_pos rfl] at h
    obtain ⟨e2, he2, h⟩ := Option.bind_eq_some_iff.mp h
    by_cases c3 : e2 = true
    case neg => rw [if_neg c3] at h; exact absurd h (by simp)
    rw [if_pos c3] at h
    subst c3
    obtain ⟨kx, hkx, h⟩ := Option.bind_eq_some_iff.mp h
    by_cases c4 : 0 ≤ kx
    case neg => rw [if_neg c4] at h; exact absurd h (by simp)
    rw [if_pos c4] at h
    obtain ⟨kg, hkg, h⟩ := Option.bind_eq_some_iff.mp h
    by_cases c5 : 0 ≤ kg.1
    case neg => rw [if_neg c5] at h; exact absurd h (by simp)
    rw [if_pos c5] at h
    obtain ⟨q, hq, h⟩ := Option.bind_eq_some_iff.mp h
    by_cases c6 : q = kg.1
    case neg => rw [if_neg c6] at h; exact absurd h (by simp)
    rw [if_pos c6] at h
    subst c6
    obtain rfl := Option.some.inj h
    have d4 : decide (kx < 0) = false := decide_eq_false (by omega)
    have d5 : decide (kg.1 < 0) = false := decide_eq_false (by omega)
    have HT := Aside0.mk hx
    have HS := Aside0.mk hw
    have HG0 := Aside0.mk hg
    have HE1 := Aside0.mk he1
    have HE2 := Aside0.mk he2
    have HM1 := Aside0.mk hkx
    have HM2 : Aside0 (laws_markBoolSS.f k g 1 = some (kg.1, kg.2)) := ⟨hkg⟩
    have HQ := Aside0.mk hq
    clear hx hw hg he1 he2 hkx hkg hq h c4 c5
    go_enter Try.func13, Try.ntmps13
    go_upto_region 10 with (first | ((with_reducible refine gate_callee (f := 22) rfl ?_); (try rw [← HW1.out]); refine goesL_ (some 16) rfl rfl Try.func22 (by kernel_rfl) rfl #[.agg #[.slice A0_0 l0_0.length c0_0, .slice A0_1 l0_1.length c0_1], .int .i64 1048576] rfl (by (try simp only [List.map_toArray, List.map_cons, List.map_nil]); first | done | rfl) ?_; (with_reducible refine (laws_szPicture.calls k A0_0 c0_0 l0_0 A0_1 c0_1 l0_1 1048576 left _ (Kd.C_below HR0.out HB.out) hc0_0 (Kd.C_below HR1.out HB.out) hc0_1 HZ.out).mono ?_); rintro e wv1 ⟨rfl, hb⟩; refine ⟨_, rfl, ?_⟩; have n0_ := Aside0.mk (below_step HB.out hb); have n1_ := Aside0.mk (blk_lower' HA.out hb); (try clear HB); (try clear HA); have HB := n0_; have HA := n1_; clear n0_ n1_; (try clear hb); (try clear ca0); (try clear ca1); (try clear cx0); (try clear cx1); (try clear cb0); (try clear cb1); have ca0 : wv1.cell? ⟨w.heap.size, 0, none⟩ = some (.slice A0_0 l0_0.length c0_0) := blk_cell HA.out 0; have ca1 : wv1.cell? ⟨w.heap.size, 1, none⟩ = some (.slice A0_1 l0_1.length c0_1) := blk_cell HA.out 1) | ((with_reducible refine gate_callee (f := 23) rfl ?_); refine goesL_ (some 21) rfl rfl Try.func23 (by kernel_rfl) rfl #[.agg #[.slice A0_0 l0_0.length c0_0, .slice A0_1 l0_1.length c0_1]] rfl (by (try simp only [List.map_toArray, List.map_cons, List.map_nil]); first | done | rfl) ?_; (with_reducible refine (laws_toPicture.calls k A0_0 c0_0 l0_0 A0_1 c0_1 l0_1 X0 X1 _ (Kd.C_below HR0.out HB.out) hc0_0 (Kd.C_below HR1.out HB.out) hc0_1 HT.out).mono ?_); rintro e wv2 ⟨v0_, v1_, loP0, hiP0, loP1, hiP1, rfl, ho0, ho1, hl0, hl1, hl2, hb⟩; refine ⟨_, rfl, ?_⟩; have NS := HB.out.size; have EP := Aside0.mk (show w.heap.size < loP0 ∧ w.heap.size < loP1 from ⟨Nat.lt_of_lt_of_le (lt_of_some HA.out) hl0, Nat.lt_of_lt_of_le (lt_of_some HA.out) hl2⟩); have n0_ := Aside0.mk (below_step HB.out hb); have n1_ := Aside0.mk (blk_lower' HA.out hb); (try clear HB); (try clear HA); have HB := n0_; have HA := n1_; clear n0_ n1_; have HP0 := Aside0.mk (own_lower ho0 NS); have HP1 := Aside0.mk (own_lower ho1 NS); have LLP : Aside0 (hiP0 ≤ loP1) := ⟨hl1⟩; clear ho0 ho1 hl0 hl1 hl2 hb NS; (try clear ca0); (try clear ca1); (try clear cx0); (try clear cx1); obtain ⟨AP0, cP0, eP0⟩ := Kd.S_slice HP0.out.row; subst eP0; obtain ⟨AP1, cP1, eP1⟩ := Kd.S_slice HP1.out.row; subst eP1; have ca0 : wv2.cell? ⟨w.heap.size, 0, none⟩ = some (.slice A0_0 l0_0.length c0_0) := blk_cell HA.out 0; have ca1 : wv2.cell? ⟨w.heap.size, 1, none⟩ = some (.slice A0_1 l0_1.length c0_1) := blk_cell HA.out 1) | ((with_reducible refine gate_callee (f := 42) rfl ?_); refine goesL_ (some 22) rfl rfl Try.func42 (by kernel_rfl) rfl #[.agg #[.slice AP0 X0.length cP0, .slice AP1 X1.length cP1]] rfl (by (try simp only [List.map_toArray, List.map_cons, List.map_nil]); first | done | rfl) ?_; (with_reducible refine (spec_PictureFirst.calls k AP0 cP0 X0 AP1 cP1 X1 wf ok2 _ HP0.out.reads.2.2 HP0.out.reads.2.1 HP1.out.reads.2.2 HP1.out.reads.2.1 HS.out).mono ?_); rintro e wv3 ⟨vW, rfl, ho, hb⟩; refine ⟨_, rfl, ?_⟩; have EW0 := lt_of_some HA.out; obtain ⟨loW, hiW, ho1, hd1⟩ := ownR_new (b := w.heap.size) ho hb HB.out.size; have EW : Aside0 (w.heap.size < loW) := ⟨Nat.lt_of_lt_of_le EW0 (hd1 _ (Nat.le_refl _))⟩; have n0_ := Aside0.mk (below_step HB.out hb); have n1_ := Aside0.mk (blk_lower' HA.out hb); (try clear HB); (try clear HA); have HB := n0_; have HA := n1_; clear n0_ n1_; have HW := Aside0.mk ho1; clear ho hb ho1 hd1 EW0; (try clear ca0); (try clear ca1); (try clear cx0); (try clear cx1); obtain ⟨AW, cW, eW⟩ := Kd.R_slice HW.out.row; subst eW; have ca0 : wv3.cell? ⟨w.heap.size, 0, none⟩ = some (.slice A0_0 l0_0.length c0_0) := blk_cell HA.out 0; have ca1 : wv3.cell? ⟨w.heap.size, 1, none⟩ = some (.slice A0_1 l0_1.length c0_1) := blk_cell HA.out 1) | ((with_reducible refine gate_callee (f := 23) rfl ?_); refine goesL_ (some 26) rfl rfl Try.func23 (by kernel_rfl) rfl #[.agg #[.slice A0_0 l0_0.length c0_0, .slice A0_1 l0_1.length c0_1]] rfl (by (try simp only [List.map_toArray, List.map_cons, List.map_nil]); first | done | rfl) ?_; (with_reducible refine (laws_toPicture.calls k A0_0 c0_0 l0_0 A0_1 c0_1 l0_1 X0 X1 _ (Kd.C_below HR0.out HB.out) hc0_0 (Kd.C_below HR1.out HB.out) hc0_1 HT.out).mono ?_); rintro e wv4 ⟨v0_, v1_, loX0, hiX0, loX1, hiX1, rfl, ho0, ho1, hl0, hl1, hl2, hb⟩; refine ⟨_, rfl, ?_⟩; have NS := HB.out.size; have DWX := Aside0.mk (show hiW ≤ loX0 ∧ hiW ≤ loX1 from ⟨Nat.le_trans HW.out.top hl0, Nat.le_trans HW.out.top hl2⟩); have EX := Aside0.mk (show w.heap.size < loX0 ∧ w.heap.size < loX1 from ⟨Nat.lt_of_lt_of_le (lt_of_some HA.out) hl0, Nat.lt_of_lt_of_le (lt_of_some HA.out) hl2⟩); have n0_ := Aside0.mk (below_step HB.out hb); have n1_ := Aside0.mk (blk_lower' HA.out hb); have n2_ := Aside0.mk (HW.out.below hb); (try clear HB); (try clear HA); (try clear HW); have HB := n0_; have HA := n1_; have HW := n2_; clear n0_ n1_ n2_; have HX0 := Aside0.mk (own_lower ho0 NS); have HX1 := Aside0.mk (own_lower ho1 NS); have LLX : Aside0 (hiX0 ≤ loX1) := ⟨hl1⟩; clear ho0 ho1 hl0 hl1 hl2 hb NS; (try clear ca0); (try clear ca1); (try clear cx0); (try clear cx1); obtain ⟨AX0, cX0, eX0⟩ := Kd.S_slice HX0.out.row; subst eX0; obtain ⟨AX1, cX1, eX1⟩ := Kd.S_slice HX1.out.row; subst eX1; have ca0 : wv4.cell? ⟨w.heap.size, 0, none⟩ = some (.slice A0_0 l0_0.length c0_0) := blk_cell HA.out 0; have ca1 : wv4.cell? ⟨w.heap.size, 1, none⟩ = some (.slice A0_1 l0_1.length c0_1) := blk_cell HA.out 1) | ((with_reducible refine gate_dst (N := 6) rfl ?_); refine box_event ?hg (N := 6) ?hd (cs := #[.slice none 0 0, .slice none 0 0]) (t := 25) ?hr ?_; (case hd => rfl); (case hg => rfl); (case hr => first | (go_simp; done) | (go_simp; rfl)); intro bx hg wx1 hbox hb; have GEX : Aside0 (w.heap.size < bx) := ⟨by rw [hg]; exact lt_of_some HA.out⟩; have TXW : Aside0 (hiW ≤ bx) := ⟨by rw [hg]; exact HW.out.top⟩; have TXX0 : Aside0 (hiX0 ≤ bx) := ⟨by rw [hg]; exact HX0.out.top⟩; have TXX1 : Aside0 (hiX1 ≤ bx) := ⟨by rw [hg]; exact HX1.out.top⟩; have n0_ := Aside0.mk (below_step HB.out hb); have n1_ := Aside0.mk (blk_lower' HA.out hb); have n2_ := Aside0.mk (HW.out.below hb); have n3_ := Aside0.mk (HX0.out.below hb); have n4_ := Aside0.mk (HX1.out.below hb); (try clear HB); (try clear HA); (try clear HW); (try clear HX0); (try clear HX1); have HB := n0_; have HA := n1_; have HW := n2_; have HX0 := n3_; have HX1 := n4_; clear n0_ n1_ n2_ n3_ n4_; have HXB := Aside0.mk hbox; clear hb hbox hg; (try clear ca0); (try clear ca1); (try clear cx0); (try clear cx1); have cz0 : wx1.cell? ⟨bx, 0, none⟩ = some (.slice none 0 0) := blk_cell HXB.out 0; have cz1 : wx1.cell? ⟨bx, 1, none⟩ = some (.slice none 0 0) := blk_cell HXB.out 1; have cf0 := blk_frozen HXB.out 0; have cf1 := blk_frozen HXB.out 1) | ((with_reducible refine gate_callee (f := 20) rfl ?_); obtain ⟨wx2, hwx2⟩ : ∃ W_ : World, W_ = (wx1.setCell ⟨bx, 0, none⟩ (.slice AX0 X0.length cX0)).setCell ⟨bx, 1, none⟩ (.slice AX1 X1.length cX1) := ⟨_, rfl⟩; rw [← hwx2]; have m0_ : Aside0 (Below w.heap.size w wx2) := ⟨by rw [hwx2]; exact below_set (below_set HB.out (Nat.le_of_lt GEX.out)) (Nat.le_of_lt GEX.out)⟩; have m1_ : Aside0 (wx2.heap[w.heap.size]? = some (Obj.cells #[.slice A0_0 l0_0.length c0_0, .slice A0_1 l0_1.length c0_1] 39 (0, 0))) := ⟨by rw [hwx2]; exact blk_far (blk_far HA.out (Nat.ne_of_lt GEX.out) _) (Nat.ne_of_lt GEX.out) _⟩; have m2_ : Aside0 (wx2.heap[bx]? = some (Obj.cells #[(.slice AX0 X0.length cX0), (.slice AX1 X1.length cX1)] 25 (0, 0))) := ⟨by rw [hwx2]; exact blk_put (cs := #[(.slice AX0 X0.length cX0), .slice none 0 0]) (blk_put (cs := #[.slice none 0 0, .slice none 0 0]) HXB.out 0 _ rfl) 1 _ rfl⟩; have mW_ : Aside0 (OwnR (Kd.slice 4 Kd.bool) 37 wx2 w.heap.size loW hiW (.slice AW wf.length cW) wf) := ⟨by rw [hwx2]; exact ownR_set (ownR_set HW.out _ _ (fun k_ hk_ => by have h1 := TXW.out; have h3 : _ := hk_; show k_ ≠ bx; omega)) _ _ (fun k_ hk_ => by have h1 := TXW.out; have h3 : _ := hk_; show k_ ≠ bx; omega)⟩; have mX0_ : Aside0 (Own (Kd.slice 3 (Kd.int .i64)) 36 wx2 w.heap.size loX0 hiX0 (.slice AX0 X0.length cX0) X0) := ⟨by rw [hwx2]; exact own_set (own_set HX0.out _ _ (fun k_ hk_ => by have h1 := TXX0.out; have h3 : _ := hk_; show k_ ≠ bx; omega)) _ _ (fun k_ hk_ => by have h1 := TXX0.out; have h3 : _ := hk_; show k_ ≠ bx; omega)⟩; have mX1_ : Aside0 (Own (Kd.slice 3 (Kd.int .i64)) 36 wx2 w.heap.size loX1 hiX1 (.slice AX1 X1.length cX1) X1) := ⟨by rw [hwx2]; exact own_set (own_set HX1.out _ _ (fun k_ hk_ => by have h1 := TXX1.out; have h3 : _ := hk_; show k_ ≠ bx; omega)) _ _ (fun k_ hk_ => by have h1 := TXX1.out; have h3 : _ := hk_; show k_ ≠ bx; omega)⟩; clear hwx2 cz0 cz1 cf0 cf1 HB HA HXB HW HX0 HX1; have HB := m0_; have HA := m1_; have HXB := m2_; have HW := mW_; have HX0 := mX0_; have HX1 := mX1_; clear m0_ m1_ m2_ mW_ mX0_ mX1_; refine goesL_ (some 29) rfl rfl Try.func20 (by kernel_rfl) rfl #[.agg #[.slice AX0 X0.length cX0, .slice AX1 X1.length cX1]] rfl (by (try simp only [List.map_toArray, List.map_cons, List.map_nil]); first | done | rfl) ?_; (with_reducible refine (impl_PictureFirst.calls k AX0 cX0 X0 AX1 cX1 X1 g ok2 _ HX0.out.reads.2.2 HX0.out.reads.2.1 HX1.out.reads.2.2 HX1.out.reads.2.1 HG0.out).mono ?_); rintro e wv5 ⟨vG, rfl, ho, hb⟩; refine ⟨_, rfl, ?_⟩; have EG0 := lt_of_some HA.out; obtain ⟨loG, hiG, ho1, hd1⟩ := own_new (b := w.heap.size) ho hb HB.out.size; have DWG := Aside0.mk (hd1 _ HW.out.top); have DX0G := Aside0.mk (hd1 _ HX0.out.top); have DX1G := Aside0.mk (hd1 _ HX1.out.top); have EG : Aside0 (w.heap.size < loG) := ⟨Nat.lt_of_lt_of_le EG0 (hd1 _ (Nat.le_refl _))⟩; have n0_ := Aside0.mk (below_step HB.out hb); have n1_ := Aside0.mk (blk_lower' HA.out hb); have n2_ := Aside0.mk (blk_lower' HXB.out hb); have n3_ := Aside0.mk (HW.out.below hb); have n4_ := Aside0.mk (HX0.out.below hb); have n5_ := Aside0.mk (HX1.out.below hb); (try clear HB); (try clear HA); (try clear HXB); (try clear HW); (try clear HX0); (try clear HX1); have HB := n0_; have HA := n1_; have HXB := n2_; have HW := n3_; have HX0 := n4_; have HX1 := n5_; clear n0_ n1_ n2_ n3_ n4_ n5_; have HG := Aside0.mk ho1; clear ho hb ho1 hd1 EG0; (try clear ca0); (try clear ca1); (try clear cx0); (try clear cx1); obtain ⟨AG, cG, eG⟩ := Kd.S_slice HG.out.row; subst eG; have ca0 : wv5.cell? ⟨w.heap.size, 0, none⟩ = some (.slice A0_0 l0_0.length c0_0) := blk_cell HA.out 0; have ca1 : wv5.cell? ⟨w.heap.size, 1, none⟩ = some (.slice A0_1 l0_1.length c0_1) := blk_cell HA.out 1; have cx0 : wv5.cell? ⟨bx, 0, none⟩ = some (.slice AX0 X0.length cX0) := blk_cell HXB.out 0; have cx1 : wv5.cell? ⟨bx, 1, none⟩ = some (.slice AX1 X1.length cX1) := blk_cell HXB.out 1) | ((with_reducible refine gate_callee (f := 31) rfl ?_); refine goesL_ (some 34) rfl rfl Try.func31 (by kernel_rfl) rfl #[.slice AG g.length cG, .slice AW wf.length cW] rfl (by (try simp only [List.map_toArray, List.map_cons, List.map_nil]); first | done | rfl) ?_; (with_reducible refine (laws_eqBoolSS.calls k AG cG g AW cW wf true _ HG.out.reads.2.2 HG.out.reads.2.1 HW.out.reads.2.2 HW.out.reads.2.1 HE1.out).mono ?_); rintro e wv6 ⟨rfl, hd⟩; refine ⟨_, rfl, ?_⟩; have hb := drawn_below hd; have n0_ := Aside0.mk (below_step HB.out hb); have n1_ := Aside0.mk (blk_lower' HA.out hb); have n2_ := Aside0.mk (blk_lower' HXB.out hb); have n3_ := Aside0.mk (HW.out.below hb); have n4_ := Aside0.mk (HX0.out.below hb); have n5_ := Aside0.mk (HX1.out.below hb); have n6_ := Aside0.mk (HG.out.below hb); (try clear HB); (try clear HA); (try clear HXB); (try clear HW); (try clear HX0); (try clear HX1); (try clear HG); have HB := n0_; have HA := n1_; have HXB := n2_; have HW := n3_; have HX0 := n4_; have HX1 := n5_; have HG := n6_; clear n0_ n1_ n2_ n3_ n4_ n5_ n6_; (try clear hb); (try clear hd); (try clear ca0); (try clear ca1); (try clear cx0); (try clear cx1); have ca0 : wv6.cell? ⟨w.heap.size, 0, none⟩ = some (.slice A0_0 l0_0.length c0_0) := blk_cell HA.out 0; have ca1 : wv6.cell? ⟨w.heap.size, 1, none⟩ = some (.slice A0_1 l0_1.length c0_1) := blk_cell HA.out 1; have cx0 : wv6.cell? ⟨bx, 0, none⟩ = some (.slice AX0 X0.length cX0) := blk_cell HXB.out 0; have cx1 : wv6.cell? ⟨bx, 1, none⟩ = some (.slice AX1 X1.length cX1) := blk_cell HXB.out 1))
    have hb : Below wv6.heap.size wv6 wv6.drew := below_drew1 (Below.refl _ _)
    have n0_ := Aside0.mk (below_step HB.out hb)
    have n1_ := Aside0.mk (blk_lower' HA.out hb)
    have n2_ := Aside0.mk (blk_lower' HXB.out hb)
    have n3_ := Aside0.mk (HW.out.below hb)
    have n4_ := Aside0.mk (HX0.out.below hb)
    have n5_ := Aside0.mk (HX1.out.below hb)
    have n6_ := Aside0.mk (HG.out.below hb)
    (try clear HB)
    (try clear HA)
    (try clear HXB)
    (try clear HW)
    (try clear HX0)
    (try clear HX1)
    (try clear HG)
    have HB := n0_
    have HA := n1_
    have HXB := n2_
    have HW := n3_
    have HX0 := n4_
    have HX1 := n5_
    have HG := n6_
    clear n0_ n1_ n2_ n3_ n4_ n5_ n6_
    (try clear hb)
    (try clear ca0)
    (try clear ca1)
    (try clear cx0)
    (try clear cx1)
    refine start_ (n := 5) (S := fun w' => w'.cell? ⟨w.heap.size, 0, none⟩ = some (.slice A0_0 l0_0.length c0_0) ∧ w'.cell? ⟨w.heap.size, 1, none⟩ = some (.slice A0_1 l0_1.length c0_1) ∧ w'.cell? ⟨bx, 0, none⟩ = some (.slice AX0 X0.length cX0) ∧ w'.cell? ⟨bx, 1, none⟩ = some (.slice AX1 X1.length cX1)) (ds := []) #[false, false, false, false, false] (by kernel_rfl) rfl rfl ⟨blk_cell HA.out 0, blk_cell HA.out 1, blk_cell HXB.out 0, blk_cell HXB.out 1⟩ (fun hHeld => ?_)
    generalize wv6.drew = wr0 at HB HA HXB HW HX0 HX1 HG hHeld ⊢
    refine take_ (i := 0) (N := some 41) (v := ?_) (a' := ?_) #[true, false, false, false, false] rfl rfl (by kernel_rfl) (fun _ _ _ h => h) (Or.inl ⟨by rfl, ?_⟩) hHeld ?_ ?_
    rotate_left
    · rintro w' ⟨s0, s1, s2, s3⟩
      go_simp
      with_reducible rfl
    rotate_left
    · simp only [Act.put, List.setIfInBounds_toArray, List.set_cons_zero, List.set_cons_succ, i64_w, i32_w]
      rfl
    refine take_ (i := 1) (N := some 42) (v := ?_) (a' := ?_) #[true, true, false, false, false] rfl rfl (by kernel_rfl) (fun _ _ _ h => h) (Or.inl ⟨by rfl, ?_⟩) hHeld ?_ ?_
    rotate_left
    · rintro w' ⟨s0, s1, s2, s3⟩
      go_simp
      with_reducible rfl
    rotate_left
    · simp only [Act.put, List.setIfInBounds_toArray, List.set_cons_zero, List.set_cons_succ, i64_w, i32_w]
      rfl
    refine one_ (i := 2) (N := some 43) #[true, true, true, false, false] rfl rfl (by kernel_rfl) (by decide) (fun K hK => ?_)
    refine call_ 23 #[.agg #[.slice A0_0 l0_0.length c0_0, .slice A0_1 l0_1.length c0_1]] (by rfl) rfl ?_ ?_
    · first | (go_simp; done) | (go_simp; rfl)
    refine (laws_toPicture.calls k A0_0 c0_0 l0_0 A0_1 c0_1 l0_1 X0 X1 _ (Kd.C_below HR0.out HB.out) hc0_0 (Kd.C_below HR1.out HB.out) hc0_1 HT.out).mono ?_
    rintro e wv7 ⟨v0_, v1_, loY0, hiY0, loY1, hiY1, rfl, ho0, ho1, hl0, hl1, hl2, hb⟩
    have NS := HB.out.size
    have EY := Aside0.mk (show w.heap.size < loY0 ∧ w.heap.size < loY1 from ⟨Nat.lt_of_lt_of_le (lt_of_some HA.out) hl0, Nat.lt_of_lt_of_le (lt_of_some HA.out) hl2⟩)
    have n0_ := Aside0.mk (below_step HB.out hb)
    have n1_ := Aside0.mk (blk_lower' HA.out hb)
    have n2_ := Aside0.mk (blk_lower' HXB.out hb)
    have n3_ := Aside0.mk (HW.out.below hb)
    have n4_ := Aside0.mk (HX0.out.below hb)
    have n5_ := Aside0.mk (HX1.out.below hb)
    have n6_ := Aside0.mk (HG.out.below hb)
    (try clear HB)
    (try clear HA)
    (try clear HXB)
    (try clear HW)
    (try clear HX0)
    (try clear HX1)
    (try clear HG)
    have HB := n0_
    have HA := n1_
    have HXB := n2_
    have HW := n3_
    have HX0 := n4_
    have HX1 := n5_
    have HG := n6_
    clear n0_ n1_ n2_ n3_ n4_ n5_ n6_
    have HY0 := Aside0.mk (own_lower ho0 NS)
    have HY1 := Aside0.mk (own_lower ho1 NS)
    have LLY : Aside0 (hiY0 ≤ loY1) := ⟨hl1⟩
    clear ho0 ho1 hl0 hl1 hl2 hb NS
    (try clear ca0)
    (try clear ca1)
    (try clear cx0)
    (try clear cx1)
    obtain ⟨AY0, cY0, eY0⟩ := Kd.S_slice HY0.out.row; subst eY0
    obtain ⟨AY1, cY1, eY1⟩ := Kd.S_slice HY1.out.row; subst eY1
    have ca0 : wv7.cell? ⟨w.heap.size, 0, none⟩ = some (.slice A0_0 l0_0.length c0_0) := blk_cell HA.out 0
    have ca1 : wv7.cell? ⟨w.heap.size, 1, none⟩ = some (.slice A0_1 l0_1.length c0_1) := blk_cell HA.out 1
    have cx0 : wv7.cell? ⟨bx, 0, none⟩ = some (.slice AX0 X0.length cX0) := blk_cell HXB.out 0
    have cx1 : wv7.cell? ⟨bx, 1, none⟩ = some (.slice AX1 X1.length cX1) := blk_cell HXB.out 1
    refine ⟨_, rfl, ?_⟩
    refine hK.out _ _ ⟨ca0, ca1, cx0, cx1⟩ (fun hHeld => ?_)
    clear hK K
    refine norm_ (a' := ?_) ?_ ?_
    rotate_left
    · show Act.put _ (some 43) _ = _
      simp only [Act.put, List.setIfInBounds_toArray, List.set_cons_zero, List.set_cons_succ, i64_w, i32_w]
      rfl
    refine one_ (i := 3) (N := some 44) #[true, true, true, true, false] rfl rfl (by kernel_rfl) (by decide) (fun K hK => ?_)
    refine call_ 25 #[.agg #[.slice AX0 X0.length cX0, .slice AX1 X1.length cX1], .agg #[.slice AY0 X0.length cY0, .slice AY1 X1.length cY1]] (by rfl) rfl ?_ ?_
    · first | (go_simp; done) | (go_simp; rfl)
    refine (laws_eqPicture.calls k AX0 cX0 X0 AX1 cX1 X1 AY0 cY0 X0 AY1 cY1 X1 true _ HX0.out.reads.2.2 HX0.out.reads.2.1 HX1.out.reads.2.2 HX1.out.reads.2.1 HY0.out.reads.2.2 HY0.out.reads.2.1 HY1.out.reads.2.2 HY1.out.reads.2.1 HE2.out).mono ?_
    rintro e wv8 ⟨rfl, hb⟩
    have n0_ := Aside0.mk (below_step HB.out hb)
    have n1_ := Aside0.mk (blk_lower' HA.out hb)
    have n2_ := Aside0.mk (blk_lower' HXB.out hb)
    have n3_ := Aside0.mk (HW.out.below hb)
    have n4_ := Aside0.mk (HX0.out.below hb)
    have n5_ := Aside0.mk (HX1.out.below hb)
    have n6_ := Aside0.mk (HG.out.below hb)
    (try clear HB)
    (try clear HA)
    (try clear HXB)
    (try clear HW)
    (try clear HX0)
    (try clear HX1)
    (try clear HG)
    have HB := n0_
    have HA := n1_
    have HXB := n2_
    have HW := n3_
    have HX0 := n4_
    have HX1 := n5_
    have HG := n6_
    clear n0_ n1_ n2_ n3_ n4_ n5_ n6_
    (try clear hb)
    (try clear ca0)
    (try clear ca1)
    (try clear cx0)
    (try clear cx1)
    have ca0 : wv8.cell? ⟨w.heap.size, 0, none⟩ = some (.slice A0_0 l0_0.length c0_0) := blk_cell HA.out 0
    have ca1 : wv8.cell? ⟨w.heap.size, 1, none⟩ = some (.slice A0_1 l0_1.length c0_1) := blk_cell HA.out 1
    have cx0 : wv8.cell? ⟨bx, 0, none⟩ = some (.slice AX0 X0.length cX0) := blk_cell HXB.out 0
    have cx1 : wv8.cell? ⟨bx, 1, none⟩ = some (.slice AX1 X1.length cX1) := blk_cell HXB.out 1
    refine ⟨_, rfl, ?_⟩
    refine hK.out _ _ ⟨ca0, ca1, cx0, cx1⟩ (fun hHeld => ?_)
    clear hK K
    refine norm_ (a' := ?_) ?_ ?_
    rotate_left
    · show Act.put _ (some 44) _ = _
      simp only [Act.put, List.setIfInBounds_toArray, List.set_cons_zero, List.set_cons_succ, i64_w, i32_w]
      rfl
    refine pure_ (i := 4) (N := some 45) (v := ?_) (a' := ?_) #[true, true, true, true, true] rfl rfl (by kernel_rfl) (fun _ _ _ h => h) (Or.inl ⟨by rfl, ?_⟩) ?_ ?_
    rotate_left
    · intro w'
      go_simp
      with_reducible rfl
    rotate_left
    · simp only [Act.put, List.setIfInBounds_toArray, List.set_cons_zero, List.set_cons_succ, i64_w, i32_w]
      rfl
    refine done_ (by kernel_rfl) ?_
    go_wp2_with (first | ((with_reducible refine gate_callee (f := 33) rfl ?_); refine goesL_ (some 48) rfl rfl Try.func33 (by kernel_rfl) rfl #[.agg #[.slice AX0 X0.length cX0, .slice AX1 X1.length cX1], .int .i64 1] rfl (by (try simp only [List.map_toArray, List.map_cons, List.map_nil]); first | done | rfl) ?_; (with_reducible refine (laws_markPicture.calls k loX0 hiX0 loX1 hiX1 AX0 AX1 X0.length X1.length cX0 cX1 X0 X1 1 kx w _ HB.out HX0.out HX1.out LLX.out HM1.out).mono ?_); rintro e wv9 ⟨rfl, hb, hk⟩; refine ⟨_, rfl, ?_⟩; have n0_ := Aside0.mk (hb); have n1_ := Aside0.mk (kept_blk HA.out hk (fun hp_ => by have h1 := EX.out; have h3 : (loX0 ≤ w.heap.size ∧ w.heap.size < hiX0) ∨ (loX1 ≤ w.heap.size ∧ w.heap.size < hiX1) := hp_; omega)); have n2_ := Aside0.mk (HW.out.kept hk (fun k_ hk_ hp_ => by have h1 := DWX.out; have h2 := DWX.out; have h3 : (loX0 ≤ k_ ∧ k_ < hiX0) ∨ (loX1 ≤ k_ ∧ k_ < hiX1) := hp_; omega)); have n3_ := Aside0.mk (HG.out.kept hk (fun k_ hk_ hp_ => by have h1 := DX0G.out; have h2 := DX1G.out; have h3 : (loX0 ≤ k_ ∧ k_ < hiX0) ∨ (loX1 ≤ k_ ∧ k_ < hiX1) := hp_; omega)); (try clear HB); (try clear HA); (try clear HW); (try clear HG); have HB := n0_; have HA := n1_; have HW := n2_; have HG := n3_; clear n0_ n1_ n2_ n3_; (try clear hb); (try clear hk); (try clear HX0); (try clear HX1); (try clear HXB); (try clear HY0); (try clear HY1); (try clear ca0); (try clear ca1); (try clear cx0); (try clear cx1); have ca0 : wv9.cell? ⟨w.heap.size, 0, none⟩ = some (.slice A0_0 l0_0.length c0_0) := blk_cell HA.out 0; have ca1 : wv9.cell? ⟨w.heap.size, 1, none⟩ = some (.slice A0_1 l0_1.length c0_1) := blk_cell HA.out 1) | (go_at_call 31; (with_reducible refine (laws_eqBoolSS.calls k AG cG g AW cW wf true _ HG.out.reads.2.2 HG.out.reads.2.1 HW.out.reads.2.2 HW.out.reads.2.1 HE1.out).mono ?_); rintro e wv10 ⟨rfl, hd⟩; have hb := drawn_below hd; have n0_ := Aside0.mk (below_step HB.out hb); have n1_ := Aside0.mk (blk_lower' HA.out hb); have n2_ := Aside0.mk (HW.out.below hb); have n3_ := Aside0.mk (HG.out.below hb); (try clear HB); (try clear HA); (try clear HW); (try clear HG); have HB := n0_; have HA := n1_; have HW := n2_; have HG := n3_; clear n0_ n1_ n2_ n3_; (try clear hb); (try clear hd); (try clear ca0); (try clear ca1); (try clear cx0); (try clear cx1); have ca0 : wv10.cell? ⟨w.heap.size, 0, none⟩ = some (.slice A0_0 l0_0.length c0_0) := blk_cell HA.out 0; have ca1 : wv10.cell? ⟨w.heap.size, 1, none⟩ = some (.slice A0_1 l0_1.length c0_1) := blk_cell HA.out 1) | ((with_reducible refine gate_callee (f := 32) rfl ?_); refine goesL_ (some 64) rfl rfl Try.func32 (by kernel_rfl) rfl #[.slice AG g.length cG, .int .i64 1] rfl (by (try simp only [List.map_toArray, List.map_cons, List.map_nil]); first | done | rfl) ?_; (with_reducible refine (laws_markBoolSS.calls k (fun k => loG ≤ k ∧ k < hiG) (.slice AG g.length cG) g 1 kg.1 kg.2 w _ HB.out HG.out.row HM2.out).mono ?_); rintro e wv11 ⟨rfl, hs, hb, hk⟩; refine ⟨_, rfl, ?_⟩; have n0_ := Aside0.mk (hb); have n1_ := Aside0.mk (kept_blk HA.out hk (fun hp_ => by have h1 := EG.out; have h3 : loG ≤ w.heap.size ∧ w.heap.size < hiG := hp_; omega)); have n2_ := Aside0.mk (HW.out.kept hk (fun k_ hk_ hp_ => by have h1 := DWG.out; have h3 : loG ≤ k_ ∧ k_ < hiG := hp_; omega)); have n3_ := Aside0.mk (own_mk hs (Nat.le_trans HG.out.top hk.1)); (try clear HB); (try clear HA); (try clear HW); (try clear HG); have HB := n0_; have HA := n1_; have HW := n2_; have HG := n3_; clear n0_ n1_ n2_ n3_; (try clear hb); (try clear hk); (try clear hs); have LG := Aside0.mk HG.out.reads.1; (try clear ca0); (try clear ca1); (try clear cx0); (try clear cx1); have ca0 : wv11.cell? ⟨w.heap.size, 0, none⟩ = some (.slice A0_0 l0_0.length c0_0) := blk_cell HA.out 0; have ca1 : wv11.cell? ⟨w.heap.size, 1, none⟩ = some (.slice A0_1 l0_1.length c0_1) := blk_cell HA.out 1) | ((with_reducible refine gate_callee (f := 44) rfl ?_); refine goesL_ (some 67) rfl rfl Try.func44 (by kernel_rfl) rfl #[.slice AG kg.2.length cG, .int .i64 1] rfl (by (try simp only [List.map_toArray, List.map_cons, List.map_nil]); first | done | rfl | (rw [← LG.out] <;> rfl)) ?_; (with_reducible refine (laws_heldBoolSS.calls k AG cG kg.2 1 kg.1 _ HG.out.reads.2.2 (by have := HG.out.reads; omega) HQ.out).mono ?_); rintro e wv12 ⟨rfl, hd⟩; refine ⟨_, rfl, ?_⟩; have hb := drawn_below hd; have n0_ := Aside0.mk (below_step HB.out hb); have n1_ := Aside0.mk (blk_lower' HA.out hb); have n2_ := Aside0.mk (HW.out.below hb); have n3_ := Aside0.mk (HG.out.below hb); (try clear HB); (try clear HA); (try clear HW); (try clear HG); have HB := n0_; have HA := n1_; have HW := n2_; have HG := n3_; clear n0_ n1_ n2_ n3_; (try clear hb); (try clear hd); (try clear ca0); (try clear ca1); (try clear cx0); (try clear cx1); have ca0 : wv12.cell? ⟨w.heap.size, 0, none⟩ = some (.slice A0_0 l0_0.length c0_0) := blk_cell HA.out 0; have ca1 : wv12.cell? ⟨w.heap.size, 1, none⟩ = some (.slice A0_1 l0_1.length c0_1) := blk_cell HA.out 1) | ((with_reducible refine gate_callee (f := 23) rfl ?_); refine goesL_ (some 75) rfl rfl Try.func23 (by kernel_rfl) rfl #[.agg #[.slice A0_0 l0_0.length c0_0, .slice A0_1 l0_1.length c0_1]] rfl (by (try simp only [List.map_toArray, List.map_cons, List.map_nil]); first | done | rfl) ?_; (with_reducible refine (laws_toPicture.calls k A0_0 c0_0 l0_0 A0_1 c0_1 l0_1 X0 X1 _ (Kd.C_below HR0.out HB.out) hc0_0 (Kd.C_below HR1.out HB.out) hc0_1 HT.out).mono ?_); rintro e wv13 ⟨v0_, v1_, loZ0, hiZ0, loZ1, hiZ1, rfl, ho0, ho1, hl0, hl1, hl2, hb⟩; refine ⟨_, rfl, ?_⟩; have NS := HB.out.size; have EZ := Aside0.mk (show w.heap.size < loZ0 ∧ w.heap.size < loZ1 from ⟨Nat.lt_of_lt_of_le (lt_of_some HA.out) hl0, Nat.lt_of_lt_of_le (lt_of_some HA.out) hl2⟩); have n0_ := Aside0.mk (below_step HB.out hb); have n1_ := Aside0.mk (blk_lower' HA.out hb); have n2_ := Aside0.mk (HW.out.below hb); have n3_ := Aside0.mk (HG.out.below hb); (try clear HB); (try clear HA); (try clear HW); (try clear HG); have HB := n0_; have HA := n1_; have HW := n2_; have HG := n3_; clear n0_ n1_ n2_ n3_; have HZ0 := Aside0.mk (own_lower ho0 NS); have HZ1 := Aside0.mk (own_lower ho1 NS); have LLZ : Aside0 (hiZ0 ≤ loZ1) := ⟨hl1⟩; clear ho0 ho1 hl0 hl1 hl2 hb NS; (try clear ca0); (try clear ca1); (try clear cx0); (try clear cx1); obtain ⟨AZ0, cZ0, eZ0⟩ := Kd.S_slice HZ0.out.row; subst eZ0; obtain ⟨AZ1, cZ1, eZ1⟩ := Kd.S_slice HZ1.out.row; subst eZ1; have ca0 : wv13.cell? ⟨w.heap.size, 0, none⟩ = some (.slice A0_0 l0_0.length c0_0) := blk_cell HA.out 0; have ca1 : wv13.cell? ⟨w.heap.size, 1, none⟩ = some (.slice A0_1 l0_1.length c0_1) := blk_cell HA.out 1) | ((with_reducible refine gate_callee (f := 20) rfl ?_); refine goesL_ (some 76) rfl rfl Try.func20 (by kernel_rfl) rfl #[.agg #[.slice AZ0 X0.length cZ0, .slice AZ1 X1.length cZ1]] rfl (by (try simp only [List.map_toArray, List.map_cons, List.map_nil]); first | done | rfl) ?_; (with_reducible refine (impl_PictureFirst.calls k AZ0 cZ0 X0 AZ1 cZ1 X1 g ok2 _ HZ0.out.reads.2.2 HZ0.out.reads.2.1 HZ1.out.reads.2.2 HZ1.out.reads.2.1 HG0.out).mono ?_); rintro e wv14 ⟨vH, rfl, ho, hb⟩; refine ⟨_, rfl, ?_⟩; have EH0 := lt_of_some HA.out; obtain ⟨loH, hiH, ho1, hd1⟩ := own_new (b := w.heap.size) ho hb HB.out.size; have EH : Aside0 (w.heap.size < loH) := ⟨Nat.lt_of_lt_of_le EH0 (hd1 _ (Nat.le_refl _))⟩; have n0_ := Aside0.mk (below_step HB.out hb); have n1_ := Aside0.mk (blk_lower' HA.out hb); have n2_ := Aside0.mk (HW.out.below hb); have n3_ := Aside0.mk (HG.out.below hb); (try clear HB); (try clear HA); (try clear HW); (try clear HG); have HB := n0_; have HA := n1_; have HW := n2_; have HG := n3_; clear n0_ n1_ n2_ n3_; have HH := Aside0.mk ho1; clear ho hb ho1 hd1 EH0; (try clear ca0); (try clear ca1); (try clear cx0); (try clear cx1); obtain ⟨AH, cH, eH⟩ := Kd.S_slice HH.out.row; subst eH; have ca0 : wv14.cell? ⟨w.heap.size, 0, none⟩ = some (.slice A0_0 l0_0.length c0_0) := blk_cell HA.out 0; have ca1 : wv14.cell? ⟨w.heap.size, 1, none⟩ = some (.slice A0_1 l0_1.length c0_1) := blk_cell HA.out 1) | ((with_reducible refine gate_callee (f := 31) rfl ?_); refine goesL_ (some 81) rfl rfl Try.func31 (by kernel_rfl) rfl #[.slice AH g.length cH, .slice AW wf.length cW] rfl (by (try simp only [List.map_toArray, List.map_cons, List.map_nil]); first | done | rfl) ?_; (with_reducible refine (laws_eqBoolSS.calls k AH cH g AW cW wf true _ HH.out.reads.2.2 HH.out.reads.2.1 HW.out.reads.2.2 HW.out.reads.2.1 HE1.out).mono ?_); rintro e wv15 ⟨rfl, hd⟩; refine ⟨_, rfl, ?_⟩; have hb := drawn_below hd; have n0_ := Aside0.mk (below_step HB.out hb); have n1_ := Aside0.mk (blk_lower' HA.out hb); have n2_ := Aside0.mk (HW.out.below hb); have n3_ := Aside0.mk (HG.out.below hb); have n4_ := Aside0.mk (HH.out.below hb); (try clear HB); (try clear HA); (try clear HW); (try clear HG); (try clear HH); have HB := n0_; have HA := n1_; have HW := n2_; have HG := n3_; have HH := n4_; clear n0_ n1_ n2_ n3_ n4_; (try clear hb); (try clear hd); (try clear ca0); (try clear ca1); (try clear cx0); (try clear cx1); have ca0 : wv15.cell? ⟨w.heap.size, 0, none⟩ = some (.slice A0_0 l0_0.length c0_0) := blk_cell HA.out 0; have ca1 : wv15.cell? ⟨w.heap.size, 1, none⟩ = some (.slice A0_1 l0_1.length c0_1) := blk_cell HA.out 1) | ((with_reducible refine gate_callee (f := 44) rfl ?_); refine goesL_ (some 90) rfl rfl Try.func44 (by kernel_rfl) rfl #[.slice AG kg.2.length cG, .int .i64 1] rfl (by (try simp only [List.map_toArray, List.map_cons, List.map_nil]); first | done | rfl | (rw [← LG.out] <;> rfl)) ?_; (with_reducible refine (laws_heldBoolSS.calls k AG cG kg.2 1 kg.1 _ HG.out.reads.2.2 (by have := HG.out.reads; omega) HQ.out).mono ?_); rintro e wv16 ⟨rfl, hd⟩; refine ⟨_, rfl, ?_⟩; have hb := drawn_below hd; have n0_ := Aside0.mk (below_step HB.out hb); have n1_ := Aside0.mk (blk_lower' HA.out hb); have n2_ := Aside0.mk (HW.out.below hb); have n3_ := Aside0.mk (HG.out.below hb); have n4_ := Aside0.mk (HH.out.below hb); (try clear HB); (try clear HA); (try clear HW); (try clear HG); (try clear HH); have HB := n0_; have HA := n1_; have HW := n2_; have HG := n3_; have HH := n4_; clear n0_ n1_ n2_ n3_ n4_; (try clear hb); (try clear hd); (try clear ca0); (try clear ca1); (try clear cx0); (try clear cx1); have ca0 : wv16.cell? ⟨w.heap.size, 0, none⟩ = some (.slice A0_0 l0_0.length c0_0) := blk_cell HA.out 0; have ca1 : wv16.cell? ⟨w.heap.size, 1, none⟩ = some (.slice A0_1 l0_1.length c0_1) := blk_cell HA.out 1))
    go_ret
    exact ⟨rfl, HB.out⟩

end Go.Proofs.Ytapnohcfnclleaa.PFnExactPictureFirst
