-- Made by a program of this session (a changed copy of the kit print): the kit print itself does not give this text
import Derived.Test.YtcghheaelgjnfaaPFnStarsCountx0
import Derived.Test.YtcghheaelgjnfaaPFnStarsCountx5
namespace Go.Proofs.Ytcghheaelgjnfaa.PFnStarsCount
open Go.RowKit Go.Proofs.YtcghheaelgjnfaaW.PrintWords Go.Proofs.YtcghheaelgjnfaaW.PrintLast Go.Proofs.YtcghheaelgjnfaaW.PrintMore
attribute [local go_sem] max2_int min2_int max_two min_two max_three min_three max_four min_four   -- for this text's walks alone
set_option linter.unusedVariables false
set_option linter.unusedSimpArgs false

/-! ### spec_l20Areas: function 31 -/
mutual
def spec_l20Areas.l0 : Nat → Int → Int → List Int → Int → List Int → Int → Option (List Int × Int × Int)
  | 0, _, _, _, _, _, _ => none
  | k + 1, x1, x6, x7, x8, x1000, x1001 => if x8 < (wrap64 (x6 * x6)) then (if x6 = 0 then (none) else (if x8 > 0 then ((spec_l20Rd_pick.f k x1000 x1001 3).bind fun bt161 => (spec_l20Areas.j1 k x1 x6 x7 x8 (wrap64 (Int.tdiv x8 x6)) (bt161.1 == 0) x1000 bt161.2)) else (spec_l20Areas.j1 k x1 x6 x7 x8 (wrap64 (Int.tdiv x8 x6)) false x1000 x1001))) else ((spec_l20Rd_odd.f k x1000 x1001 x1).bind fun bt177 => (if bt177.1 = true then ((spec_l20Rd_pick.f k x1000 bt177.2 3).bind fun bt179 => (if bt179.1 = 0 then ((spec_l20Rd_pick.f k x1000 bt179.2 (x7.length : Int)).bind fun bt181 => ((some (([(-1), x6] : List Int) : List Int)).bind fun y183 => ((spec_l20Rd_pick.f k x1000 bt181.2 2).bind fun bt186 => (if 0 ≤ bt186.1 then (if bt186.1 < (y183.length : Int) then (if 0 ≤ bt181.1 then (if bt181.1 < (x7.length : Int) then (some ((x7.set (bt181.1 : Int).toNat (rd y183 bt186.1)), x6, bt186.2)) else (none)) else (none)) else (none)) else (none))))) else (if bt179.1 = 1 then (if 1 ≤ (x7.length : Int) then (some ((x7.drop (1 : Int).toNat), x6, bt179.2)) else (none)) else ((some (([0, 7] : List Int) : List Int)).bind fun y193 => ((spec_l20Rd_pick.f k x1000 bt179.2 2).bind fun bt196 => (if 0 ≤ bt196.1 then (if bt196.1 < (y193.length : Int) then (some (x7, rd y193 bt196.1, bt196.2)) else (none)) else (none))))))) else (some (x7, x6, bt177.2))))
def spec_l20Areas.j1 : Nat → Int → Int → List Int → Int → Int → Bool → List Int → Int → Option (List Int × Int × Int)
  | 0, _, _, _, _, _, _, _, _ => none
  | k + 1, x1, x6, x7, x8, x9, x32, x1000, x1001 => if x32 = true then (if 0 ≤ (wrap64 (x8 - 1)) then (if (wrap64 (x8 - 1)) < (x7.length : Int) then (spec_l20Areas.j2 k x1 x6 x7 x8 (rd x7 (wrap64 (x8 - 1))) x1000 x1001) else (none)) else (none)) else (spec_l20Areas.j2 k x1 x6 x7 x8 x9 x1000 x1001)
def spec_l20Areas.j2 : Nat → Int → Int → List Int → Int → Int → List Int → Int → Option (List Int × Int × Int)
  | 0, _, _, _, _, _, _, _ => none
  | k + 1, x1, x6, x7, x8, x9, x1000, x1001 => if x8 ≥ x6 then ((spec_l20Rd_pick.f k x1000 x1001 4).bind fun bt164 => (spec_l20Areas.j3 k x1 x6 x7 x8 x9 (bt164.1 == 0) x1000 bt164.2)) else (spec_l20Areas.j3 k x1 x6 x7 x8 x9 false x1000 x1001)
def spec_l20Areas.j3 : Nat → Int → Int → List Int → Int → Int → Bool → List Int → Int → Option (List Int × Int × Int)
  | 0, _, _, _, _, _, _, _, _ => none
  | k + 1, x1, x6, x7, x8, x9, x45, x1000, x1001 => if x45 = true then (if 0 ≤ (wrap64 (x8 - x6)) then (if (wrap64 (x8 - x6)) < (x7.length : Int) then (spec_l20Areas.j4 k x1 x6 x7 x8 (rd x7 (wrap64 (x8 - x6))) x1000 x1001) else (none)) else (none)) else (spec_l20Areas.j4 k x1 x6 x7 x8 x9 x1000 x1001)
def spec_l20Areas.j4 : Nat → Int → Int → List Int → Int → Int → List Int → Int → Option (List Int × Int × Int)
  | 0, _, _, _, _, _, _, _ => none
  | k + 1, x1, x6, x7, x8, x9, x1000, x1001 => (spec_l20Rd_pick.f k x1000 x1001 9).bind fun bt167 => (if bt167.1 = 0 then ((spec_l20Rd_pick.f k x1000 bt167.2 x6).bind fun bt169 => (if x7.length < 17592186044416 then (spec_l20Areas.l0 k x1 x6 (x7 ++ [bt169.1]) (wrap64 (x8 + 1)) x1000 bt169.2) else (none))) else (if x7.length < 17592186044416 then (spec_l20Areas.l0 k x1 x6 (x7 ++ [x9]) (wrap64 (x8 + 1)) x1000 bt167.2) else (none)))
end
def spec_l20Areas.f (k : Nat) (s0_0 : List Int) (s0_1 : Int) (a1 : Int) : Option (List Int × Int × Int) := (some (([1, 2, 3, 4, 4, 5, 5, 6] : List Int) : List Int)).bind fun y152 => ((spec_l20Rd_pick.f k s0_0 s0_1 8).bind fun bt155 => (if 0 ≤ bt155.1 then (if bt155.1 < (y152.length : Int) then (spec_l20Areas.l0 k a1 (rd y152 bt155.1) (([] : List Int)) 0 s0_0 bt155.2) else (none)) else (none)))
theorem spec_l20Areas.mono_l : ∀ k, (∀ y0 y1 y2 y3 y4 y5, LeO (spec_l20Areas.l0 k y0 y1 y2 y3 y4 y5) (spec_l20Areas.l0 (k + 1) y0 y1 y2 y3 y4 y5)) ∧ (∀ y0 y1 y2 y3 y4 y5 y6 y7, LeO (spec_l20Areas.j1 k y0 y1 y2 y3 y4 y5 y6 y7) (spec_l20Areas.j1 (k + 1) y0 y1 y2 y3 y4 y5 y6 y7)) ∧ (∀ y0 y1 y2 y3 y4 y5 y6, LeO (spec_l20Areas.j2 k y0 y1 y2 y3 y4 y5 y6) (spec_l20Areas.j2 (k + 1) y0 y1 y2 y3 y4 y5 y6)) ∧ (∀ y0 y1 y2 y3 y4 y5 y6 y7, LeO (spec_l20Areas.j3 k y0 y1 y2 y3 y4 y5 y6 y7) (spec_l20Areas.j3 (k + 1) y0 y1 y2 y3 y4 y5 y6 y7)) ∧ (∀ y0 y1 y2 y3 y4 y5 y6, LeO (spec_l20Areas.j4 k y0 y1 y2 y3 y4 y5 y6) (spec_l20Areas.j4 (k + 1) y0 y1 y2 y3 y4 y5 y6))
  | 0 => ⟨fun _ _ _ _ _ _ r h => by simp [spec_l20Areas.l0] at h, fun _ _ _ _ _ _ _ _ r h => by simp [spec_l20Areas.j1] at h, fun _ _ _ _ _ _ _ r h => by simp [spec_l20Areas.j2] at h, fun _ _ _ _ _ _ _ _ r h => by simp [spec_l20Areas.j3] at h, fun _ _ _ _ _ _ _ r h => by simp [spec_l20Areas.j4] at h⟩
  | k + 1 => by
    obtain ⟨ih0, ih1, ih2, ih3, ih4⟩ := spec_l20Areas.mono_l k
    refine ⟨?_, ?_, ?_, ?_, ?_⟩
    · intro y0 y1 y2 y3 y4 y5
      unfold spec_l20Areas.l0
      repeat' first
      | (with_reducible exact ih0 _ _ _ _ _ _)
      | (with_reducible exact ih1 _ _ _ _ _ _ _ _)
      | (with_reducible exact ih2 _ _ _ _ _ _ _)
      | (with_reducible exact ih3 _ _ _ _ _ _ _ _)
      | (with_reducible exact ih4 _ _ _ _ _ _ _)
      | (with_reducible exact spec_l20Rd_odd.mono _ _ _ _)
      | (with_reducible exact spec_l20Rd_pick.mono _ _ _ _)
      | (with_reducible exact LeO.refl _)
      | (with_reducible exact LeO.none _)
      | (with_reducible refine LeO.ite ?_ ?_)
      | (with_reducible refine LeO.bind ?_ (fun _ => ?_))
      | exact ih0 _ _ _ _ _ _
      | exact ih1 _ _ _ _ _ _ _ _
      | exact ih2 _ _ _ _ _ _ _
      | exact ih3 _ _ _ _ _ _ _ _
      | exact ih4 _ _ _ _ _ _ _
      | exact spec_l20Rd_odd.mono _ _ _ _
      | exact spec_l20Rd_pick.mono _ _ _ _
      | exact LeO.none _
      | refine LeO.ite ?_ ?_
      | refine LeO.bind ?_ (fun _ => ?_)
    · intro y0 y1 y2 y3 y4 y5 y6 y7
      unfold spec_l20Areas.j1
      repeat' first
      | (with_reducible exact ih0 _ _ _ _ _ _)
      | (with_reducible exact ih1 _ _ _ _ _ _ _ _)
      | (with_reducible exact ih2 _ _ _ _ _ _ _)
      | (with_reducible exact ih3 _ _ _ _ _ _ _ _)
      | (with_reducible exact ih4 _ _ _ _ _ _ _)
      | (with_reducible exact spec_l20Rd_odd.mono _ _ _ _)
      | (with_reducible exact spec_l20Rd_pick.mono _ _ _ _)
      | (with_reducible exact LeO.refl _)
      | (with_reducible exact LeO.none _)
      | (with_reducible refine LeO.ite ?_ ?_)
      | (with_reducible refine LeO.bind ?_ (fun _ => ?_))
      | exact ih0 _ _ _ _ _ _
      | exact ih1 _ _ _ _ _ _ _ _
      | exact ih2 _ _ _ _ _ _ _
      | exact ih3 _ _ _ _ _ _ _ _
      | exact ih4 _ _ _ _ _ _ _
      | exact spec_l20Rd_odd.mono _ _ _ _
      | exact spec_l20Rd_pick.mono _ _ _ _
      | exact LeO.none _
      | refine LeO.ite ?_ ?_
      | refine LeO.bind ?_ (fun _ => ?_)
    · intro y0 y1 y2 y3 y4 y5 y6
      unfold spec_l20Areas.j2
      repeat' first
      | (with_reducible exact ih0 _ _ _ _ _ _)
      | (with_reducible exact ih1 _ _ _ _ _ _ _ _)
      | (with_reducible exact ih2 _ _ _ _ _ _ _)
      | (with_reducible exact ih3 _ _ _ _ _ _ _ _)
      | (with_reducible exact ih4 _ _ _ _ _ _ _)
      | (with_reducible exact spec_l20Rd_odd.mono _ _ _ _)
      | (with_reducible exact spec_l20Rd_pick.mono _ _ _ _)
      | (with_reducible exact LeO.refl _)
      | (with_reducible exact LeO.none _)
      | (with_reducible refine LeO.ite ?_ ?_)
      | (with_reducible refine LeO.bind ?_ (fun _ => ?_))
      | exact ih0 _ _ _ _ _ _
      | exact ih1 _ _ _ _ _ _ _ _
      | exact ih2 _ _ _ _ _ _ _
      | exact ih3 _ _ _ _ _ _ _ _
      | exact ih4 _ _ _ _ _ _ _
      | exact spec_l20Rd_odd.mono _ _ _ _
      | exact spec_l20Rd_pick.mono _ _ _ _
      | exact LeO.none _
      | refine LeO.ite ?_ ?_
      | refine LeO.bind ?_ (fun _ => ?_)
    · intro y0 y1 y2 y3 y4 y5 y6 y7
      unfold spec_l20Areas.j3
      repeat' first
      | (with_reducible exact ih0 _ _ _ _ _ _)
      | (with_reducible exact ih1 _ _ _ _ _ _ _ _)
      | (with_reducible exact ih2 _ _ _ _ _ _ _)
      | (with_reducible exact ih3 _ _ _ _ _ _ _ _)
      | (with_reducible exact ih4 _ _ _ _ _ _ _)
      | (with_reducible exact spec_l20Rd_odd.mono _ _ _ _)
      | (with_reducible exact spec_l20Rd_pick.mono _ _ _ _)
      | (with_reducible exact LeO.refl _)
      | (with_reducible exact LeO.none _)
      | (with_reducible refine LeO.ite ?_ ?_)
      | (with_reducible refine LeO.bind ?_ (fun _ => ?_))
      | exact ih0 _ _ _ _ _ _
      | exact ih1 _ _ _ _ _ _ _ _
      | exact ih2 _ _ _ _ _ _ _
      | exact ih3 _ _ _ _ _ _ _ _
      | exact ih4 _ _ _ _ _ _ _
      | exact spec_l20Rd_odd.mono _ _ _ _
      | exact spec_l20Rd_pick.mono _ _ _ _
      | exact LeO.none _
      | refine LeO.ite ?_ ?_
      | refine LeO.bind ?_ (fun _ => ?_)
    · intro y0 y1 y2 y3 y4 y5 y6
      unfold spec_l20Areas.j4
      repeat' first
      | (with_reducible exact ih0 _ _ _ _ _ _)
      | (with_reducible exact ih1 _ _ _ _ _ _ _ _)
      | (with_reducible exact ih2 _ _ _ _ _ _ _)
      | (with_reducible exact ih3 _ _ _ _ _ _ _ _)
      | (with_reducible exact ih4 _ _ _ _ _ _ _)
      | (with_reducible exact spec_l20Rd_odd.mono _ _ _ _)
      | (with_reducible exact spec_l20Rd_pick.mono _ _ _ _)
      | (with_reducible exact LeO.refl _)
      | (with_reducible exact LeO.none _)
      | (with_reducible refine LeO.ite ?_ ?_)
      | (with_reducible refine LeO.bind ?_ (fun _ => ?_))
      | exact ih0 _ _ _ _ _ _
      | exact ih1 _ _ _ _ _ _ _ _
      | exact ih2 _ _ _ _ _ _ _
      | exact ih3 _ _ _ _ _ _ _ _
      | exact ih4 _ _ _ _ _ _ _
      | exact spec_l20Rd_odd.mono _ _ _ _
      | exact spec_l20Rd_pick.mono _ _ _ _
      | exact LeO.none _
      | refine LeO.ite ?_ ?_
      | refine LeO.bind ?_ (fun _ => ?_)
theorem spec_l20Areas.mono : ∀ a0 a1 a2 k, LeO (spec_l20Areas.f k a0 a1 a2) (spec_l20Areas.f (k + 1) a0 a1 a2) := by
  intro a0 a1 a2 k
  obtain ⟨ih0, ih1, ih2, ih3, ih4⟩ := spec_l20Areas.mono_l k
  unfold spec_l20Areas.f
  repeat' first
      | (with_reducible exact ih0 _ _ _ _ _ _)
      | (with_reducible exact ih1 _ _ _ _ _ _ _ _)
      | (with_reducible exact ih2 _ _ _ _ _ _ _)
      | (with_reducible exact ih3 _ _ _ _ _ _ _ _)
      | (with_reducible exact ih4 _ _ _ _ _ _ _)
      | (with_reducible exact spec_l20Rd_odd.mono _ _ _ _)
      | (with_reducible exact spec_l20Rd_pick.mono _ _ _ _)
      | (with_reducible exact LeO.refl _)
      | (with_reducible exact LeO.none _)
      | (with_reducible refine LeO.ite ?_ ?_)
      | (with_reducible refine LeO.bind ?_ (fun _ => ?_))
      | exact ih0 _ _ _ _ _ _
      | exact ih1 _ _ _ _ _ _ _ _
      | exact ih2 _ _ _ _ _ _ _
      | exact ih3 _ _ _ _ _ _ _ _
      | exact ih4 _ _ _ _ _ _ _
      | exact spec_l20Rd_odd.mono _ _ _ _
      | exact spec_l20Rd_pick.mono _ _ _ _
      | exact LeO.none _
      | refine LeO.ite ?_ ?_
      | refine LeO.bind ?_ (fun _ => ?_)
set_option maxHeartbeats 8000000 in
set_option maxRecDepth 100000 in
theorem spec_l20Areas.calls (k : Nat) (g : Nat) (s0_0 : List Int) (s0_1 : Int) (a1 : Int) (r1 : List Int) (r2 : Int) (r3 : Int) (w0 w : World) (hI : IsS50 w0 w g s0_0 s0_1) (hB : Below w0.heap.size w0 w) (h : spec_l20Areas.f k s0_0 s0_1 a1 = some (r1, r2, r3)) :
    Calls Try.prog 31 #[.pointer (some ⟨g, 0, none⟩), .int .i64 a1] w fun e w' => ∃ v0_ : Value, e = .returned (.tuple #[v0_, .int .i64 r2]) ∧ Kd.Q (Kd.int .i64) 3 w' w.heap.size (fun _ => True) v0_ r1 ∧ IsS50 w0 w' g s0_0 r3 ∧ Below w0.heap.size w0 w' ∧ KeepBut w w' g none := by
  have HI0 := Aside0.mk hI
  have HK := Aside0.mk (KeepBut.refl w g none)
  have HL := Aside0.mk hB.size
  clear hI
  have HW0 := Aside0.mk hB.size
  have HB := Aside0.mk hB
  clear hB
  have H : ((some (([1, 2, 3, 4, 4, 5, 5, 6] : List Int) : List Int)).bind fun y152 => ((spec_l20Rd_pick.f k s0_0 s0_1 8).bind fun bt155 => (if 0 ≤ bt155.1 then (if bt155.1 < (y152.length : Int) then (spec_l20Areas.l0 k a1 (rd y152 bt155.1) (([] : List Int)) 0 s0_0 bt155.2) else (none)) else (none)))) = some (r1, r2, r3) := h
  clear h
  obtain ⟨y152, hy152⟩ : ∃ y_ : List Int, y_ = (([1, 2, 3, 4, 4, 5, 5, 6] : List Int)) := ⟨_, rfl⟩
  replace H : ((spec_l20Rd_pick.f k s0_0 s0_1 8).bind fun bt155 => (if 0 ≤ bt155.1 then (if bt155.1 < (y152.length : Int) then (spec_l20Areas.l0 k a1 (rd y152 bt155.1) (([] : List Int)) 0 s0_0 bt155.2) else (none)) else (none))) = some (r1, r2, r3) := by first | (rw [hy152]; with_reducible exact H) | (have H2_ := (Option.bind_some _ _).symm.trans H; rw [hy152]; with_reducible exact H2_) | (have H2_ := (Option.bind_some _ _).symm.trans H; with_reducible exact H2_) | with_reducible exact H | (rw [hy152]; exact H) | exact H
  have Ny152 := Aside0.mk hy152
  clear hy152
  replace H := Option.bind_eq_some_iff.mp H
  obtain ⟨⟨t155, t156⟩, A30, H⟩ := H
  replace H : (if 0 ≤ t155 then (if t155 < (y152.length : Int) then (spec_l20Areas.l0 k a1 (rd y152 t155) (([] : List Int)) 0 s0_0 t156) else (none)) else (none)) = some (r1, r2, r3) := H
  have A3 := Aside0.mk A30
  clear A30
  by_cases c4 : 0 ≤ t155
  · rw [if_pos c4] at H
    have c4b0 : decide (0 ≤ t155) = true := decide_eq_true c4
    clear c4
    by_cases c5 : t155 < (y152.length : Int)
    · rw [if_pos c5] at H
      have c5b0 : decide (t155 < (y152.length : Int)) = true := decide_eq_true c5
      clear c5
      obtain ⟨y158, hy158⟩ : ∃ y_ : List Int, y_ = (([] : List Int)) := ⟨_, rfl⟩
      replace H : (spec_l20Areas.l0 k a1 (rd y152 t155) y158 0 s0_0 t156) = some (r1, r2, r3) := by first | (rw [hy158]; with_reducible exact H) | (have H2_ := (Option.bind_some _ _).symm.trans H; rw [hy158]; with_reducible exact H2_) | (have H2_ := (Option.bind_some _ _).symm.trans H; with_reducible exact H2_) | with_reducible exact H | (rw [hy158]; exact H) | exact H
      have Ny158 := Aside0.mk hy158
      clear hy158
      have H' := Aside0.mk H
      clear H
      go_enter Try.func31, Try.ntmps31
      go_wp2_with (first | ((with_reducible refine gate_dst (N := 10) rfl ?_); refine Kd.R_lit (Kd.int .i64) _ 3 ?hg (N := 10) ?hd (xs := ([1, 2, 3, 4, 4, 5, 5, 6] : List Int)) (inner := [.int .i64 1, .int .i64 2, .int .i64 3, .int .i64 4, .int .i64 4, .int .i64 5, .int .i64 5, .int .i64 6]) (ok := fun _ => True) (okp := fun _ => True) ?hr ?hp (fun _ hk => hk) trivial (Below.refl _ _) (Nat.le_refl _) (by simp) ?_; (case hd => rfl); (case hg => rfl); (case hr => first | (go_simp; done) | (go_simp; rfl)); (case hp => exact (Reps.one (show Kd.M (Kd.int .i64) _ _ _ 1 [.int .i64 1] from rfl) (Reps.one (show Kd.M (Kd.int .i64) _ _ _ 2 [.int .i64 2] from rfl) (Reps.one (show Kd.M (Kd.int .i64) _ _ _ 3 [.int .i64 3] from rfl) (Reps.one (show Kd.M (Kd.int .i64) _ _ _ 4 [.int .i64 4] from rfl) (Reps.one (show Kd.M (Kd.int .i64) _ _ _ 4 [.int .i64 4] from rfl) (Reps.one (show Kd.M (Kd.int .i64) _ _ _ 5 [.int .i64 5] from rfl) (Reps.one (show Kd.M (Kd.int .i64) _ _ _ 5 [.int .i64 5] from rfl) (Reps.one (show Kd.M (Kd.int .i64) _ _ _ 6 [.int .i64 6] from rfl) (Reps.none _ _)))))))))); intro v153 w6 ho7 hb hg_ hnew_; clear hg_ hnew_; (first | rw [← Ny152.out] at ho7 | (simp only [Int.reduceToNat] at ho7; rw [← Ny152.out] at ho7)); have n0_ := Aside0.mk (Kd.R_lower ho7 (keep_size (w := w) (g := g) (row := none) (by repeat (first | (with_reducible first | exact HK.out | apply KeepBut.set_ | apply keep_drewN | apply keep_drew | apply keep_alloc) | exact HK.out)))); have n1_ := Aside0.mk (IsS50.below (by repeat (first | (with_reducible first | exact HI0.out | apply IsS50.alloc | apply IsS50.drewN | apply IsS50.drew | apply IsS50.set_1) | exact HI0.out)) hb); have n2_ := Aside0.mk (KeepBut.trans (by repeat (first | (with_reducible first | exact HK.out | apply KeepBut.set_ | apply keep_drewN | apply keep_drew | apply keep_alloc) | exact HK.out)) (KeepBut.of_below hb g none) (.inl rfl)); have n3_ := Aside0.mk (below_step (by repeat (first | (with_reducible first | exact HB.out | apply below_alloc | apply pw_below_drewN | apply below_drew1 | refine below_set ?_ (IsS50.ge HI0.out)) | exact HB.out)) hb); clear HI0; clear HK; clear HB; have HO154 := n0_; have HI0 := n1_; have HK := n2_; have HB := n3_; clear n0_ n1_ n2_ n3_; clear hb ho7) | ((with_reducible refine gate_callee (f := 32) rfl ?_); refine goesL_ (some 12) rfl rfl Try.func32 (by kernel_rfl) rfl #[.pointer (some ⟨g, 0, none⟩), .int .i64 8] rfl (by (try simp only [List.map_toArray, List.map_cons, List.map_nil]); first | done | rfl | (simp only [List.length_drop, List.length_take]; rfl)) ?_; (with_reducible refine (spec_l20Rd_pick.calls k g s0_0 s0_1 8 t155 t156 w0 _ ?side1 ?side2 A3.out).mono ?_); (case side1 => repeat (first | (with_reducible first | exact HI0.out | apply IsS50.alloc | apply IsS50.drewN | apply IsS50.drew | apply IsS50.set_1) | exact HI0.out)); (case side2 => repeat (first | (with_reducible first | exact HB.out | apply below_alloc | apply pw_below_drewN | apply below_drew1 | refine below_set ?_ (IsS50.ge HI0.out)) | exact HB.out)); rintro e w8 ⟨rfl, hi, hb, hk⟩; refine ⟨_, rfl, ?_⟩; have n0_ := Aside0.mk (Kd.R_mono (Kd.R_keep (IsS50.apart (show IsS50 w0 _ g s0_0 s0_1 from by repeat (first | (with_reducible first | exact HI0.out | apply IsS50.alloc | apply IsS50.drewN | apply IsS50.drew | apply IsS50.set_1) | exact HI0.out)) (by (with_reducible repeat (first | apply Kd.R_alloc | apply Kd.R_drewN | apply Kd.R_drew)); exact HO154.out) (by decide)) hk (fun _ h => h.2)) (fun _ h => h.1)); have n1_ := Aside0.mk (KeepBut.trans (by repeat (first | (with_reducible first | exact HK.out | apply KeepBut.set_ | apply keep_drewN | apply keep_drew | apply keep_alloc) | exact HK.out)) hk (.inl rfl)); have n2_ := Aside0.mk (hb); have n3_ := Aside0.mk (hi); clear HO154; clear HK; clear HB; clear HI0; have HO154 := n0_; have HK := n1_; have HB := n2_; have HI0 := n3_; clear n0_ n1_ n2_ n3_; (try clear hb); (try clear hb2); (try clear hk); (try clear hi); obtain ⟨Ao9, co9, eo9⟩ := Kd.R_slice HO154.out; subst eo9; have p157 : 0 ≤ (t155 : Int) := of_decide_eq_true (by first | (with_reducible assumption) | assumption); have q157 : t155 < (y152.length : Int) := of_decide_eq_true (by first | (with_reducible assumption) | assumption); obtain ⟨ad157, e157, hx157_0⟩ := Kd.at_int (Kd.R_reads' HO154.out).2.2 t155 p157 q157; cases e157; replace p157 := eq_true p157; replace q157 := eq_true q157) | ((with_reducible refine gate_dst (N := 15) rfl ?_); refine Kd.R_lit (Kd.int .i64) _ 3 ?hg (N := 15) ?hd (xs := ([] : List Int)) (inner := []) (ok := fun _ => True) (okp := fun _ => True) ?hr ?hp (fun _ hk => hk) trivial (Below.refl _ _) (Nat.le_refl _) (by simp) ?_; (case hd => rfl); (case hg => rfl); (case hr => first | (go_simp; done) | (go_simp; rfl)); (case hp => exact (Reps.none _ _)); intro v159 w10 ho11 hb hg_ hnew_; clear hg_ hnew_; (first | rw [← Ny158.out] at ho11 | (simp only [Int.reduceToNat] at ho11; rw [← Ny158.out] at ho11)); have n0_ := Aside0.mk (Kd.R_elder' (by (with_reducible repeat (first | apply Kd.R_alloc | apply Kd.R_drewN | apply Kd.R_drew)); exact HO154.out) (Kd.R_base ho11) hb); have n1_ := Aside0.mk (Kd.R_lower (Kd.R_new' ho11 (Kd.R_lt (by (with_reducible repeat (first | apply Kd.R_alloc | apply Kd.R_drewN | apply Kd.R_drew)); exact HO154.out))) (keep_size (w := w) (g := g) (row := none) (by repeat (first | (with_reducible first | exact HK.out | apply KeepBut.set_ | apply keep_drewN | apply keep_drew | apply keep_alloc) | exact HK.out)))); have n2_ := Aside0.mk (IsS50.below (by repeat (first | (with_reducible first | exact HI0.out | apply IsS50.alloc | apply IsS50.drewN | apply IsS50.drew | apply IsS50.set_1) | exact HI0.out)) hb); have n3_ := Aside0.mk (KeepBut.trans (by repeat (first | (with_reducible first | exact HK.out | apply KeepBut.set_ | apply keep_drewN | apply keep_drew | apply keep_alloc) | exact HK.out)) (KeepBut.of_below hb g none) (.inl rfl)); have n4_ := Aside0.mk (below_step (by repeat (first | (with_reducible first | exact HB.out | apply below_alloc | apply pw_below_drewN | apply below_drew1 | refine below_set ?_ (IsS50.ge HI0.out)) | exact HB.out)) hb); clear HO154; clear HI0; clear HK; clear HB; have HO154 := n0_; have HO160 := n1_; have HI0 := n2_; have HK := n3_; have HB := n4_; clear n0_ n1_ n2_ n3_ n4_; clear hb ho11))
      go_loopg [7, 8] k (fun kq v7 v8 w' => ∃ (x7_1 : List Int) (x8_1 : Int) (x1001_1 : Int), v8 = .int .i64 x8_1 ∧ Aside0 (spec_l20Areas.l0 kq a1 (rd y152 t155) x7_1 x8_1 s0_0 x1001_1 = some (r1, r2, r3)) ∧ Aside0 (kq ≤ k) ∧ Aside0 (Kd.Q (Kd.int .i64) 3 w' w.heap.size (fun _ => True) v7 x7_1) ∧ Aside0 (IsS50 w0 w' g s0_0 x1001_1) ∧ Aside0 (KeepBut w w' g none) ∧ Aside0 (Below w0.heap.size w0 w'))
      case atStart => exact ⟨(y158), (0), (t156), (by first | rfl | (simp; done) | (simp [*]; done)), H', ⟨Nat.le_refl _⟩, ⟨Kd.Q_of_R (by (with_reducible repeat (first | apply Kd.R_alloc | apply Kd.R_drewN | apply Kd.R_drew)); exact Kd.R_mono HO160.out (fun _ hk => trivial))⟩, ⟨by repeat (first | (with_reducible first | exact HI0.out | apply IsS50.alloc | apply IsS50.drewN | apply IsS50.drew | apply IsS50.set_1) | exact HI0.out)⟩, ⟨by repeat (first | (with_reducible first | exact HK.out | apply KeepBut.set_ | apply keep_drewN | apply keep_drew | apply keep_alloc) | exact HK.out)⟩, ⟨by repeat (first | (with_reducible first | exact HB.out | apply below_alloc | apply pw_below_drewN | apply below_drew1 | refine below_set ?_ (IsS50.ge HI0.out)) | exact HB.out)⟩⟩
      case round =>
        clear H'
        try clear p1
        try clear q1
        try clear hx1
        try clear p2
        try clear c3
        try clear c4
        try clear c4b0
        try clear c5
        try clear c5b0
        try clear hx157_0
        try clear p157
        try clear q157
        obtain ⟨x7_1, x8_1, x1001_1, rfl, HA, HK1, HO_7, HI0, HK, HB⟩ := hrel
        cases gk with
        | zero => exact absurd HA.out (by simp [spec_l20Areas.l0])
        | succ k1 =>
          have H := HA.out
          clear HA
          simp only [spec_l20Areas.l0] at H
          by_cases c12 : x8_1 < (wrap64 ((rd y152 t155) * (rd y152 t155)))
          · rw [if_pos c12] at H
            have c12b0 : decide (x8_1 < (wrap64 ((rd y152 t155) * (rd y152 t155)))) = true := decide_eq_true c12
            clear c12
            by_cases c13 : (rd y152 t155) = 0
            · rw [if_pos c13] at H
              exact absurd H (by simp)
            · rw [if_neg c13] at H
              have c13b0 : ((rd y152 t155) == 0) = false := beq_eq_false_iff_ne.mpr c13
              have c13b1 : ((rd y152 t155) != 0) = true := bne_iff_ne.mpr c13
              have HC14 := Aside0.mk H
              clear H
              go_upto_region 7 with (fail)
              go_cut [32] (fun v32 wc => ∃ (kq : Nat) (x32_13 : Bool) (x1001_13 : Int), v32 = .bool x32_13 ∧ Aside0 (spec_l20Areas.j1 kq a1 (rd y152 t155) x7_1 x8_1 (wrap64 (Int.tdiv x8_1 (rd y152 t155))) x32_13 s0_0 x1001_13 = some (r1, r2, r3)) ∧ Aside0 (kq ≤ k1) ∧ Aside0 (Kd.Q (Kd.int .i64) 3 wc w.heap.size (fun _ => True) u7 x7_1) ∧ Aside0 (IsS50 w0 wc g s0_0 x1001_13) ∧ Aside0 (KeepBut w wc g none) ∧ Aside0 (Below w0.heap.size w0 wc))
              case first =>
                have H := HC14.out
                clear HC14
                by_cases c15 : x8_1 > 0
                · rw [if_pos c15] at H
                  have c15b0 : decide (0 < x8_1) = true := decide_eq_true c15
                  clear c15
                  (first | rw [c15b0] | (simp only [i64_w, i32_w]; rw [c15b0]) | skip)
                  replace H := Option.bind_eq_some_iff.mp H
                  obtain ⟨⟨t161, t162⟩, A160, H⟩ := H
                  replace H : (spec_l20Areas.j1 k1 a1 (rd y152 t155) x7_1 x8_1 (wrap64 (Int.tdiv x8_1 (rd y152 t155))) (t161 == 0) s0_0 t162) = some (r1, r2, r3) := H
                  have A16 := Aside0.mk A160
                  clear A160
                  have H' := Aside0.mk H
                  clear H
                  go_wp2_with (first | (go_at_call 32; (with_reducible refine (spec_l20Rd_pick.calls k1 g s0_0 x1001_1 3 t161 t162 w0 _ ?side1 ?side2 A16.out).mono ?_); (case side1 => repeat (first | (with_reducible first | exact HI0.out | apply IsS50.alloc | apply IsS50.drewN | apply IsS50.drew | apply IsS50.set_1) | exact HI0.out)); (case side2 => repeat (first | (with_reducible first | exact HB.out | apply below_alloc | apply pw_below_drewN | apply below_drew1 | refine below_set ?_ (IsS50.ge HI0.out)) | exact HB.out)); rintro e w17 ⟨rfl, hi, hb, hk⟩; have n0_ := Aside0.mk (Kd.Q_mono (Kd.Q_keep (IsS50.apartQ (show IsS50 w0 _ g s0_0 x1001_1 from by repeat (first | (with_reducible first | exact HI0.out | apply IsS50.alloc | apply IsS50.drewN | apply IsS50.drew | apply IsS50.set_1) | exact HI0.out)) (by (with_reducible repeat (first | apply Kd.Q_alloc | apply Kd.Q_drewN | apply Kd.Q_drew)); exact HO_7.out) (by decide)) hk (fun _ h => h.2)) (fun _ h => h.1)); have n1_ := Aside0.mk (KeepBut.trans (by repeat (first | (with_reducible first | exact HK.out | apply KeepBut.set_ | apply keep_drewN | apply keep_drew | apply keep_alloc) | exact HK.out)) hk (.inl rfl)); have n2_ := Aside0.mk (hb); have n3_ := Aside0.mk (hi); clear HO_7; clear HK; clear HB; clear HI0; have HO_7 := n0_; have HK := n1_; have HB := n2_; have HI0 := n3_; clear n0_ n1_ n2_ n3_; (try clear hb); (try clear hb2); (try clear hk); (try clear hi)))
                  go_meet
                  case rel => exact ⟨_, ((t161 == 0)), (t162), (by first | rfl | (simp; done) | (simp [*]; done)), H', ⟨by have := HK1.out; first | omega | exact Nat.le_refl _⟩, ⟨by (with_reducible repeat (first | apply Kd.Q_alloc | apply Kd.Q_drewN | apply Kd.Q_drew)); exact HO_7.out⟩, ⟨by repeat (first | (with_reducible first | exact HI0.out | apply IsS50.alloc | apply IsS50.drewN | apply IsS50.drew | apply IsS50.set_1) | exact HI0.out)⟩, ⟨by repeat (first | (with_reducible first | exact HK.out | apply KeepBut.set_ | apply keep_drewN | apply keep_drew | apply keep_alloc) | exact HK.out)⟩, ⟨by repeat (first | (with_reducible first | exact HB.out | apply below_alloc | apply pw_below_drewN | apply below_drew1 | refine below_set ?_ (IsS50.ge HI0.out)) | exact HB.out)⟩⟩
                · rw [if_neg c15] at H
                  have c15b0 : decide (0 < x8_1) = false := decide_eq_false c15
                  clear c15
                  (first | rw [c15b0] | (simp only [i64_w, i32_w]; rw [c15b0]) | skip)
                  have H' := Aside0.mk H
                  clear H
                  go_wp2
                  go_meet
                  case rel => exact ⟨_, (false), (x1001_1), (by first | rfl | (simp; done) | (simp [*]; done)), H', ⟨by have := HK1.out; first | omega | exact Nat.le_refl _⟩, ⟨by (with_reducible repeat (first | apply Kd.Q_alloc | apply Kd.Q_drewN | apply Kd.Q_drew)); exact HO_7.out⟩, ⟨by repeat (first | (with_reducible first | exact HI0.out | apply IsS50.alloc | apply IsS50.drewN | apply IsS50.drew | apply IsS50.set_1) | exact HI0.out)⟩, ⟨by repeat (first | (with_reducible first | exact HK.out | apply KeepBut.set_ | apply keep_drewN | apply keep_drew | apply keep_alloc) | exact HK.out)⟩, ⟨by repeat (first | (with_reducible first | exact HB.out | apply below_alloc | apply pw_below_drewN | apply below_drew1 | refine below_set ?_ (IsS50.ge HI0.out)) | exact HB.out)⟩⟩
              case rest =>
                clear HC14
                try clear c1
                try clear p1
                try clear q1
                try clear hx1
                try clear p2
                try clear c3
                try clear c4
                try clear c4b0
                try clear c5
                try clear c5b0
                try clear p6
                try clear c12
                try clear c12b0
                try clear c13
                try clear c13b0
                try clear c13b1
                try clear c15
                try clear c15b0
                try clear p15
                try clear q15
                try clear hx15
                try clear hx157_0
                try clear p1
                try clear p157
                try clear p2
                try clear q1
                try clear q157
                obtain ⟨kq, x32_13, x1001_13, rfl, HA, HJ13, HO_7, HI0, HK, HB⟩ := hcut
                cases kq with
                | zero => exact absurd HA.out (by simp [spec_l20Areas.j1])
                | succ kj13 =>
                  have H := HA.out
                  clear HA
                  simp only [spec_l20Areas.j1] at H
                  have HC18 := Aside0.mk H
                  clear H
                  go_upto_if 32 with (fail)
                  go_cut [9] (fun v9 wc => ∃ (kq : Nat) (x9_17 : Int), v9 = .int .i64 x9_17 ∧ Aside0 (spec_l20Areas.j2 kq a1 (rd y152 t155) x7_1 x8_1 x9_17 s0_0 x1001_13 = some (r1, r2, r3)) ∧ Aside0 (kq ≤ kj13) ∧ Aside0 (Kd.Q (Kd.int .i64) 3 wc w.heap.size (fun _ => True) u7 x7_1) ∧ Aside0 (IsS50 w0 wc g s0_0 x1001_13) ∧ Aside0 (KeepBut w wc g none) ∧ Aside0 (Below w0.heap.size w0 wc))
                  case first =>
                    have H := HC18.out
                    clear HC18
                    by_cases c19 : x32_13 = true
                    · subst c19
                      have H1 : (if 0 ≤ (wrap64 (x8_1 - 1)) then (if (wrap64 (x8_1 - 1)) < (x7_1.length : Int) then (spec_l20Areas.j2 kj13 a1 (rd y152 t155) x7_1 x8_1 (rd x7_1 (wrap64 (x8_1 - 1))) s0_0 x1001_13) else (none)) else (none)) = some (r1, r2, r3) := by rw [if_pos rfl] at H; exact H
                      clear H
                      have H := H1
                      clear H1
                      obtain ⟨ji20, hji20⟩ : ∃ j_ : Int, (wrap64 (x8_1 - 1)) = j_ := ⟨_, rfl⟩
                      replace H : (if 0 ≤ (ji20) then (if (ji20) < (x7_1.length : Int) then (spec_l20Areas.j2 kj13 a1 (rd y152 t155) x7_1 x8_1 (rd x7_1 (ji20)) s0_0 x1001_13) else (none)) else (none)) = some (r1, r2, r3) := by first | (rw [hji20] at H; exact H) | (simp only [hji20] at H ⊢; exact H)
                      have hji20w : (IntKind.i64.wrap (x8_1 - 1)) = ji20 := (i64_w _).trans hji20
                      by_cases c21 : 0 ≤ (ji20)
                      · rw [if_pos c21] at H
                        have c21b0 : decide (0 ≤ (ji20)) = true := decide_eq_true c21
                        clear c21
                        (first | rw [c21b0] | (simp only [i64_w, i32_w]; rw [c21b0]) | skip)
                        by_cases c22 : (ji20) < (x7_1.length : Int)
                        · rw [if_pos c22] at H
                          have c22b0 : decide ((ji20) < (x7_1.length : Int)) = true := decide_eq_true c22
                          clear c22
                          have H' := Aside0.mk H
                          clear H
                          obtain ⟨Ao23, co23, eo23, _⟩ := Kd.Q_slice HO_7.out
                          subst eo23
                          have p163 : 0 ≤ ((ji20) : Int) := of_decide_eq_true (by first | (with_reducible assumption) | assumption)
                          have q163 : (ji20) < (x7_1.length : Int) := of_decide_eq_true (by first | (with_reducible assumption) | assumption)
                          obtain ⟨ad163, e163, hx163_0⟩ := Kd.at_int (Kd.Q_reads' HO_7.out).2.2 (ji20) p163 q163
                          cases e163
                          replace p163 := eq_true p163
                          replace q163 := eq_true q163
                          go_wp2
                          go_meet
                          case rel => exact ⟨_, (rd x7_1 (ji20)), (by first | rfl | (simp; done) | (simp only [← hji20] <;> (first | rfl | simp)) | (simp [*]; done)), H', ⟨by have := HK1.out; have := HJ13.out; first | omega | exact Nat.le_refl _⟩, ⟨by (with_reducible repeat (first | apply Kd.Q_alloc | apply Kd.Q_drewN | apply Kd.Q_drew)); exact HO_7.out⟩, ⟨by repeat (first | (with_reducible first | exact HI0.out | apply IsS50.alloc | apply IsS50.drewN | apply IsS50.drew | apply IsS50.set_1) | exact HI0.out)⟩, ⟨by repeat (first | (with_reducible first | exact HK.out | apply KeepBut.set_ | apply keep_drewN | apply keep_drew | apply keep_alloc) | exact HK.out)⟩, ⟨by repeat (first | (with_reducible first | exact HB.out | apply below_alloc | apply pw_below_drewN | apply below_drew1 | refine below_set ?_ (IsS50.ge HI0.out)) | exact HB.out)⟩⟩
                        · rw [if_neg c22] at H
                          exact absurd H (by simp)
                      · rw [if_neg c21] at H
                        exact absurd H (by simp)
                    · replace c19 := Bool.eq_false_iff.mpr c19
                      subst c19
                      have H1 : (spec_l20Areas.j2 kj13 a1 (rd y152 t155) x7_1 x8_1 (wrap64 (Int.tdiv x8_1 (rd y152 t155))) s0_0 x1001_13) = some (r1, r2, r3) := by rw [if_neg (show ¬ (false = true) by decide)] at H; exact H
                      clear H
                      have H := H1
                      clear H1
                      have H' := Aside0.mk H
                      clear H
                      go_wp2
                      go_meet
                      case rel => exact ⟨_, ((wrap64 (Int.tdiv x8_1 (rd y152 t155)))), (by first | rfl | (simp; done) | (simp [*]; done)), H', ⟨by have := HK1.out; have := HJ13.out; first | omega | exact Nat.le_refl _⟩, ⟨by (with_reducible repeat (first | apply Kd.Q_alloc | apply Kd.Q_drewN | apply Kd.Q_drew)); exact HO_7.out⟩, ⟨by repeat (first | (with_reducible first | exact HI0.out | apply IsS50.alloc | apply IsS50.drewN | apply IsS50.drew | apply IsS50.set_1) | exact HI0.out)⟩, ⟨by repeat (first | (with_reducible first | exact HK.out | apply KeepBut.set_ | apply keep_drewN | apply keep_drew | apply keep_alloc) | exact HK.out)⟩, ⟨by repeat (first | (with_reducible first | exact HB.out | apply below_alloc | apply pw_below_drewN | apply below_drew1 | refine below_set ?_ (IsS50.ge HI0.out)) | exact HB.out)⟩⟩
                  case rest =>
                    clear HC18
                    try clear c1
                    try clear p1
                    try clear q1
                    try clear hx1
                    try clear c2
                    try clear p2
                    try clear c3
                    try clear c4
                    try clear c4b0
                    try clear c5
                    try clear c5b0
                    try clear p6
                    try clear c12
                    try clear c12b0
                    try clear c13
                    try clear c13b0
                    try clear c13b1
                    try clear c15
                    try clear c15b0
                    try clear p15
                    try clear q15
                    try clear hx15
                    try clear p16
                    try clear q16
                    try clear hx16
                    try clear c19
                    try clear c21
                    try clear c21b0
                    try clear c22
                    try clear c22b0
                    try clear hx157_0
                    try clear hx163_0
                    try clear p1
                    try clear p15
                    try clear p157
                    try clear p163
                    try clear p2
                    try clear p6
                    try clear q1
                    try clear q15
                    try clear q157
                    try clear q163
                    obtain ⟨kq, x9_17, rfl, HA, HJ17, HO_7, HI0, HK, HB⟩ := hcut
                    cases kq with
                    | zero => exact absurd HA.out (by simp [spec_l20Areas.j2])
                    | succ kj17 =>
                      have H := HA.out
                      clear HA
                      simp only [spec_l20Areas.j2] at H
                      have HC24 := Aside0.mk H
                      clear H
                      go_upto_region 9 with (fail)
                      go_cut [45] (fun v45 wc => ∃ (kq : Nat) (x45_23 : Bool) (x1001_23 : Int), v45 = .bool x45_23 ∧ Aside0 (spec_l20Areas.j3 kq a1 (rd y152 t155) x7_1 x8_1 x9_17 x45_23 s0_0 x1001_23 = some (r1, r2, r3)) ∧ Aside0 (kq ≤ kj17) ∧ Aside0 (Kd.Q (Kd.int .i64) 3 wc w.heap.size (fun _ => True) u7 x7_1) ∧ Aside0 (IsS50 w0 wc g s0_0 x1001_23) ∧ Aside0 (KeepBut w wc g none) ∧ Aside0 (Below w0.heap.size w0 wc))
                      case first =>
                        have H := HC24.out
                        clear HC24
                        by_cases c25 : x8_1 ≥ (rd y152 t155)
                        · rw [if_pos c25] at H
                          have c25b0 : decide ((rd y152 t155) ≤ x8_1) = true := decide_eq_true c25
                          clear c25
                          (first | rw [c25b0] | (simp only [i64_w, i32_w]; rw [c25b0]) | skip)
                          replace H := Option.bind_eq_some_iff.mp H
                          obtain ⟨⟨t164, t165⟩, A260, H⟩ := H
                          replace H : (spec_l20Areas.j3 kj17 a1 (rd y152 t155) x7_1 x8_1 x9_17 (t164 == 0) s0_0 t165) = some (r1, r2, r3) := H
                          have A26 := Aside0.mk A260
                          clear A260
                          have H' := Aside0.mk H
                          clear H
                          go_wp2_with (first | (go_at_call 32; (with_reducible refine (spec_l20Rd_pick.calls kj17 g s0_0 x1001_13 4 t164 t165 w0 _ ?side1 ?side2 A26.out).mono ?_); (case side1 => repeat (first | (with_reducible first | exact HI0.out | apply IsS50.alloc | apply IsS50.drewN | apply IsS50.drew | apply IsS50.set_1) | exact HI0.out)); (case side2 => repeat (first | (with_reducible first | exact HB.out | apply below_alloc | apply pw_below_drewN | apply below_drew1 | refine below_set ?_ (IsS50.ge HI0.out)) | exact HB.out)); rintro e w27 ⟨rfl, hi, hb, hk⟩; have n0_ := Aside0.mk (Kd.Q_mono (Kd.Q_keep (IsS50.apartQ (show IsS50 w0 _ g s0_0 x1001_13 from by repeat (first | (with_reducible first | exact HI0.out | apply IsS50.alloc | apply IsS50.drewN | apply IsS50.drew | apply IsS50.set_1) | exact HI0.out)) (by (with_reducible repeat (first | apply Kd.Q_alloc | apply Kd.Q_drewN | apply Kd.Q_drew)); exact HO_7.out) (by decide)) hk (fun _ h => h.2)) (fun _ h => h.1)); have n1_ := Aside0.mk (KeepBut.trans (by repeat (first | (with_reducible first | exact HK.out | apply KeepBut.set_ | apply keep_drewN | apply keep_drew | apply keep_alloc) | exact HK.out)) hk (.inl rfl)); have n2_ := Aside0.mk (hb); have n3_ := Aside0.mk (hi); clear HO_7; clear HK; clear HB; clear HI0; have HO_7 := n0_; have HK := n1_; have HB := n2_; have HI0 := n3_; clear n0_ n1_ n2_ n3_; (try clear hb); (try clear hb2); (try clear hk); (try clear hi)))
                          go_meet
                          case rel => exact ⟨_, ((t164 == 0)), (t165), (by first | rfl | (simp; done) | (simp [*]; done)), H', ⟨by have := HK1.out; have := HJ13.out; have := HJ17.out; first | omega | exact Nat.le_refl _⟩, ⟨by (with_reducible repeat (first | apply Kd.Q_alloc | apply Kd.Q_drewN | apply Kd.Q_drew)); exact HO_7.out⟩, ⟨by repeat (first | (with_reducible first | exact HI0.out | apply IsS50.alloc | apply IsS50.drewN | apply IsS50.drew | apply IsS50.set_1) | exact HI0.out)⟩, ⟨by repeat (first | (with_reducible first | exact HK.out | apply KeepBut.set_ | apply keep_drewN | apply keep_drew | apply keep_alloc) | exact HK.out)⟩, ⟨by repeat (first | (with_reducible first | exact HB.out | apply below_alloc | apply pw_below_drewN | apply below_drew1 | refine below_set ?_ (IsS50.ge HI0.out)) | exact HB.out)⟩⟩
                        · rw [if_neg c25] at H
                          have c25b0 : decide ((rd y152 t155) ≤ x8_1) = false := decide_eq_false c25
                          clear c25
                          (first | rw [c25b0] | (simp only [i64_w, i32_w]; rw [c25b0]) | skip)
                          have H' := Aside0.mk H
                          clear H
                          go_wp2
                          go_meet
                          case rel => exact ⟨_, (false), (x1001_13), (by first | rfl | (simp; done) | (simp [*]; done)), H', ⟨by have := HK1.out; have := HJ13.out; have := HJ17.out; first | omega | exact Nat.le_refl _⟩, ⟨by (with_reducible repeat (first | apply Kd.Q_alloc | apply Kd.Q_drewN | apply Kd.Q_drew)); exact HO_7.out⟩, ⟨by repeat (first | (with_reducible first | exact HI0.out | apply IsS50.alloc | apply IsS50.drewN | apply IsS50.drew | apply IsS50.set_1) | exact HI0.out)⟩, ⟨by repeat (first | (with_reducible first | exact HK.out | apply KeepBut.set_ | apply keep_drewN | apply keep_drew | apply keep_alloc) | exact HK.out)⟩, ⟨by repeat (first | (with_reducible first | exact HB.out | apply below_alloc | apply pw_below_drewN | apply below_drew1 | refine below_set ?_ (IsS50.ge HI0.out)) | exact HB.out)⟩⟩
                      case rest =>
                        clear HC24
                        try clear c1
                        try clear p1
                        try clear q1
                        try clear hx1
                        try clear c2
                        try clear p2
                        try clear c3
                        try clear c4
                        try clear c4b0
                        try clear c5
                        try clear c5b0
                        try clear p6
                        try clear c12
                        try clear c12b0
                        try clear c13
                        try clear c13b0
                        try clear c13b1
                        try clear c15
                        try clear c15b0
                        try clear p15
                        try clear q15
                        try clear hx15
                        try clear p16
                        try clear q16
                        try clear hx16
                        try clear c19
                        try clear c21
                        try clear c21b0
                        try clear c22
                        try clear c22b0
                        try clear c25
                        try clear c25b0
                        try clear hx157_0
                        try clear hx163_0
                        try clear p1
                        try clear p15
                        try clear p157
                        try clear p16
                        try clear p163
                        try clear p2
                        try clear p6
                        try clear q1
                        try clear q15
                        try clear q157
                        try clear q16
                        try clear q163
                        obtain ⟨kq, x45_23, x1001_23, rfl, HA, HJ23, HO_7, HI0, HK, HB⟩ := hcut
                        cases kq with
                        | zero => exact absurd HA.out (by simp [spec_l20Areas.j3])
                        | succ kj23 =>
                          have H := HA.out
                          clear HA
                          simp only [spec_l20Areas.j3] at H
                          have HC28 := Aside0.mk H
                          clear H
                          go_upto_if 45 with (fail)
                          go_cut [9] (fun v9 wc => ∃ (kq : Nat) (x9_27 : Int), v9 = .int .i64 x9_27 ∧ Aside0 (spec_l20Areas.j4 kq a1 (rd y152 t155) x7_1 x8_1 x9_27 s0_0 x1001_23 = some (r1, r2, r3)) ∧ Aside0 (kq ≤ kj23) ∧ Aside0 (Kd.Q (Kd.int .i64) 3 wc w.heap.size (fun _ => True) u7 x7_1) ∧ Aside0 (IsS50 w0 wc g s0_0 x1001_23) ∧ Aside0 (KeepBut w wc g none) ∧ Aside0 (Below w0.heap.size w0 wc))
                          case first =>
                            have H := HC28.out
                            clear HC28
                            by_cases c29 : x45_23 = true
                            · subst c29
                              have H1 : (if 0 ≤ (wrap64 (x8_1 - (rd y152 t155))) then (if (wrap64 (x8_1 - (rd y152 t155))) < (x7_1.length : Int) then (spec_l20Areas.j4 kj23 a1 (rd y152 t155) x7_1 x8_1 (rd x7_1 (wrap64 (x8_1 - (rd y152 t155)))) s0_0 x1001_23) else (none)) else (none)) = some (r1, r2, r3) := by rw [if_pos rfl] at H; exact H
                              clear H
                              have H := H1
                              clear H1
                              obtain ⟨ji30, hji30⟩ : ∃ j_ : Int, (wrap64 (x8_1 - (rd y152 t155))) = j_ := ⟨_, rfl⟩
                              replace H : (if 0 ≤ (ji30) then (if (ji30) < (x7_1.length : Int) then (spec_l20Areas.j4 kj23 a1 (rd y152 t155) x7_1 x8_1 (rd x7_1 (ji30)) s0_0 x1001_23) else (none)) else (none)) = some (r1, r2, r3) := by first | (rw [hji30] at H; exact H) | (simp only [hji30] at H ⊢; exact H)
                              have hji30w : (IntKind.i64.wrap (x8_1 - (rd y152 t155))) = ji30 := (i64_w _).trans hji30
                              by_cases c31 : 0 ≤ (ji30)
                              · rw [if_pos c31] at H
                                have c31b0 : decide (0 ≤ (ji30)) = true := decide_eq_true c31
                                clear c31
                                (first | rw [c31b0] | (simp only [i64_w, i32_w]; rw [c31b0]) | skip)
                                by_cases c32 : (ji30) < (x7_1.length : Int)
                                · rw [if_pos c32] at H
                                  have c32b0 : decide ((ji30) < (x7_1.length : Int)) = true := decide_eq_true c32
                                  clear c32
                                  have H' := Aside0.mk H
                                  clear H
                                  obtain ⟨Ao33, co33, eo33, _⟩ := Kd.Q_slice HO_7.out
                                  subst eo33
                                  have p166 : 0 ≤ ((ji30) : Int) := of_decide_eq_true (by first | (with_reducible assumption) | assumption)
                                  have q166 : (ji30) < (x7_1.length : Int) := of_decide_eq_true (by first | (with_reducible assumption) | assumption)
                                  obtain ⟨ad166, e166, hx166_0⟩ := Kd.at_int (Kd.Q_reads' HO_7.out).2.2 (ji30) p166 q166
                                  cases e166
                                  replace p166 := eq_true p166
                                  replace q166 := eq_true q166
                                  go_wp2
                                  go_meet
                                  case rel => exact ⟨_, (rd x7_1 (ji30)), (by first | rfl | (simp; done) | (simp only [← hji30] <;> (first | rfl | simp)) | (simp [*]; done)), H', ⟨by have := HK1.out; have := HJ13.out; have := HJ17.out; have := HJ23.out; first | omega | exact Nat.le_refl _⟩, ⟨by (with_reducible repeat (first | apply Kd.Q_alloc | apply Kd.Q_drewN | apply Kd.Q_drew)); exact HO_7.out⟩, ⟨by repeat (first | (with_reducible first | exact HI0.out | apply IsS50.alloc | apply IsS50.drewN | apply IsS50.drew | apply IsS50.set_1) | exact HI0.out)⟩, ⟨by repeat (first | (with_reducible first | exact HK.out | apply KeepBut.set_ | apply keep_drewN | apply keep_drew | apply keep_alloc) | exact HK.out)⟩, ⟨by repeat (first | (with_reducible first | exact HB.out | apply below_alloc | apply pw_below_drewN | apply below_drew1 | refine below_set ?_ (IsS50.ge HI0.out)) | exact HB.out)⟩⟩
                                · rw [if_neg c32] at H
                                  exact absurd H (by simp)
                              · rw [if_neg c31] at H
                                exact absurd H (by simp)
                            · replace c29 := Bool.eq_false_iff.mpr c29
                              subst c29
                              have H1 : (spec_l20Areas.j4 kj23 a1 (rd y152 t155) x7_1 x8_1 x9_17 s0_0 x1001_23) = some (r1, r2, r3) := by rw [if_neg (show ¬ (false = true) by decide)] at H; exact H
                              clear H
                              have H := H1
                              clear H1
                              have H' := Aside0.mk H
                              clear H
                              go_wp2
                              go_meet
                              case rel => exact ⟨_, (x9_17), (by first | rfl | (simp; done) | (simp [*]; done)), H', ⟨by have := HK1.out; have := HJ13.out; have := HJ17.out; have := HJ23.out; first | omega | exact Nat.le_refl _⟩, ⟨by (with_reducible repeat (first | apply Kd.Q_alloc | apply Kd.Q_drewN | apply Kd.Q_drew)); exact HO_7.out⟩, ⟨by repeat (first | (with_reducible first | exact HI0.out | apply IsS50.alloc | apply IsS50.drewN | apply IsS50.drew | apply IsS50.set_1) | exact HI0.out)⟩, ⟨by repeat (first | (with_reducible first | exact HK.out | apply KeepBut.set_ | apply keep_drewN | apply keep_drew | apply keep_alloc) | exact HK.out)⟩, ⟨by repeat (first | (with_reducible first | exact HB.out | apply below_alloc | apply pw_below_drewN | apply below_drew1 | refine below_set ?_ (IsS50.ge HI0.out)) | exact HB.out)⟩⟩
                          case rest =>
                            clear HC28
                            try clear c1
                            try clear p1
                            try clear q1
                            try clear hx1
                            try clear c2
                            try clear p2
                            try clear c3
                            try clear c4
                            try clear c4b0
                            try clear c5
                            try clear c5b0
                            try clear p6
                            try clear c12
                            try clear c12b0
                            try clear c13
                            try clear c13b0
                            try clear c13b1
                            try clear c15
                            try clear c15b0
                            try clear p15
                            try clear q15
                            try clear hx15
                            try clear p16
                            try clear q16
                            try clear hx16
                            try clear c19
                            try clear c21
                            try clear c21b0
                            try clear c22
                            try clear c22b0
                            try clear c25
                            try clear c25b0
                            try clear c29
                            try clear c31
                            try clear c31b0
                            try clear c32
                            try clear c32b0
                            try clear hx157_0
                            try clear hx163_0
                            try clear hx166_0
                            try clear p1
                            try clear p15
                            try clear p157
                            try clear p16
                            try clear p163
                            try clear p166
                            try clear p2
                            try clear p6
                            try clear q1
                            try clear q15
                            try clear q157
                            try clear q16
                            try clear q163
                            try clear q166
                            obtain ⟨kq, x9_27, rfl, HA, HJ27, HO_7, HI0, HK, HB⟩ := hcut
                            cases kq with
                            | zero => exact absurd HA.out (by simp [spec_l20Areas.j4])
                            | succ kj27 =>
                              have H := HA.out
                              clear HA
                              simp only [spec_l20Areas.j4] at H
                              replace H := Option.bind_eq_some_iff.mp H
                              obtain ⟨⟨t167, t168⟩, A340, H⟩ := H
                              replace H : (if t167 = 0 then ((spec_l20Rd_pick.f kj27 s0_0 t168 (rd y152 t155)).bind fun bt169 => (if x7_1.length < 17592186044416 then (spec_l20Areas.l0 kj27 a1 (rd y152 t155) (x7_1 ++ [bt169.1]) (wrap64 (x8_1 + 1)) s0_0 bt169.2) else (none))) else (if x7_1.length < 17592186044416 then (spec_l20Areas.l0 kj27 a1 (rd y152 t155) (x7_1 ++ [x9_27]) (wrap64 (x8_1 + 1)) s0_0 t168) else (none))) = some (r1, r2, r3) := H
                              have A34 := Aside0.mk A340
                              clear A340
                              by_cases c35 : t167 = 0
                              · rw [if_pos c35] at H
                                have c35b0 : (t167 == 0) = true := beq_iff_eq.mpr c35
                                have c35b1 : (t167 != 0) = false := bne_eq_false_iff_eq.mpr c35
                                clear c35
                                replace H := Option.bind_eq_some_iff.mp H
                                obtain ⟨⟨t169, t170⟩, A360, H⟩ := H
                                replace H : (if x7_1.length < 17592186044416 then (spec_l20Areas.l0 kj27 a1 (rd y152 t155) (x7_1 ++ [t169]) (wrap64 (x8_1 + 1)) s0_0 t170) else (none)) = some (r1, r2, r3) := H
                                have A36 := Aside0.mk A360
                                clear A360
                                by_cases c37 : x7_1.length < 17592186044416
                                · rw [if_pos c37] at H
                                  have LMc37 := Aside0.mk c37
                                  clear c37
                                  obtain ⟨y171, hy171⟩ : ∃ y_ : List Int, y_ = (x7_1 ++ [t169]) := ⟨_, rfl⟩
                                  replace H : (spec_l20Areas.l0 kj27 a1 (rd y152 t155) y171 (wrap64 (x8_1 + 1)) s0_0 t170) = some (r1, r2, r3) := by first | (rw [hy171]; with_reducible exact H) | (have H2_ := (Option.bind_some _ _).symm.trans H; rw [hy171]; with_reducible exact H2_) | (have H2_ := (Option.bind_some _ _).symm.trans H; with_reducible exact H2_) | with_reducible exact H | (rw [hy171]; exact H) | exact H
                                  have Ny171 := Aside0.mk hy171
                                  clear hy171
                                  have H' := Aside0.mk H
                                  clear H
                                  go_wp2_with (first | ((with_reducible refine gate_callee (f := 32) rfl ?_); refine goesL_ (some 53) rfl rfl Try.func32 (by kernel_rfl) rfl #[.pointer (some ⟨g, 0, none⟩), .int .i64 9] rfl (by (try simp only [List.map_toArray, List.map_cons, List.map_nil]); first | done | rfl | (simp only [List.length_drop, List.length_take]; rfl)) ?_; (with_reducible refine (spec_l20Rd_pick.calls kj27 g s0_0 x1001_23 9 t167 t168 w0 _ ?side1 ?side2 A34.out).mono ?_); (case side1 => repeat (first | (with_reducible first | exact HI0.out | apply IsS50.alloc | apply IsS50.drewN | apply IsS50.drew | apply IsS50.set_1) | exact HI0.out)); (case side2 => repeat (first | (with_reducible first | exact HB.out | apply below_alloc | apply pw_below_drewN | apply below_drew1 | refine below_set ?_ (IsS50.ge HI0.out)) | exact HB.out)); rintro e w38 ⟨rfl, hi, hb, hk⟩; refine ⟨_, rfl, ?_⟩; have n0_ := Aside0.mk (Kd.Q_mono (Kd.Q_keep (IsS50.apartQ (show IsS50 w0 _ g s0_0 x1001_23 from by repeat (first | (with_reducible first | exact HI0.out | apply IsS50.alloc | apply IsS50.drewN | apply IsS50.drew | apply IsS50.set_1) | exact HI0.out)) (by (with_reducible repeat (first | apply Kd.Q_alloc | apply Kd.Q_drewN | apply Kd.Q_drew)); exact HO_7.out) (by decide)) hk (fun _ h => h.2)) (fun _ h => h.1)); have n1_ := Aside0.mk (KeepBut.trans (by repeat (first | (with_reducible first | exact HK.out | apply KeepBut.set_ | apply keep_drewN | apply keep_drew | apply keep_alloc) | exact HK.out)) hk (.inl rfl)); have n2_ := Aside0.mk (hb); have n3_ := Aside0.mk (hi); clear HO_7; clear HK; clear HB; clear HI0; have HO_7 := n0_; have HK := n1_; have HB := n2_; have HI0 := n3_; clear n0_ n1_ n2_ n3_; (try clear hb); (try clear hb2); (try clear hk); (try clear hi)) | ((with_reducible refine gate_callee (f := 32) rfl ?_); refine goesL_ (some 57) rfl rfl Try.func32 (by kernel_rfl) rfl #[.pointer (some ⟨g, 0, none⟩), .int .i64 (rd y152 t155)] rfl (by (try simp only [List.map_toArray, List.map_cons, List.map_nil]); first | done | rfl | (simp only [List.length_drop, List.length_take]; rfl)) ?_; (with_reducible refine (spec_l20Rd_pick.calls kj27 g s0_0 t168 (rd y152 t155) t169 t170 w0 _ ?side1 ?side2 A36.out).mono ?_); (case side1 => repeat (first | (with_reducible first | exact HI0.out | apply IsS50.alloc | apply IsS50.drewN | apply IsS50.drew | apply IsS50.set_1) | exact HI0.out)); (case side2 => repeat (first | (with_reducible first | exact HB.out | apply below_alloc | apply pw_below_drewN | apply below_drew1 | refine below_set ?_ (IsS50.ge HI0.out)) | exact HB.out)); rintro e w39 ⟨rfl, hi, hb, hk⟩; refine ⟨_, rfl, ?_⟩; have n0_ := Aside0.mk (Kd.Q_mono (Kd.Q_keep (IsS50.apartQ (show IsS50 w0 _ g s0_0 t168 from by repeat (first | (with_reducible first | exact HI0.out | apply IsS50.alloc | apply IsS50.drewN | apply IsS50.drew | apply IsS50.set_1) | exact HI0.out)) (by (with_reducible repeat (first | apply Kd.Q_alloc | apply Kd.Q_drewN | apply Kd.Q_drew)); exact HO_7.out) (by decide)) hk (fun _ h => h.2)) (fun _ h => h.1)); have n1_ := Aside0.mk (KeepBut.trans (by repeat (first | (with_reducible first | exact HK.out | apply KeepBut.set_ | apply keep_drewN | apply keep_drew | apply keep_alloc) | exact HK.out)) hk (.inl rfl)); have n2_ := Aside0.mk (hb); have n3_ := Aside0.mk (hi); clear HO_7; clear HK; clear HB; clear HI0; have HO_7 := n0_; have HK := n1_; have HB := n2_; have HI0 := n3_; clear n0_ n1_ n2_ n3_; (try clear hb); (try clear hb2); (try clear hk); (try clear hi)) | ((with_reducible refine gate_builtin (b := .append) (xs := #[.tmp 58, .tmp 60]) rfl ?_); at_builtin; refine Kd.Q_append (Kd.int .i64) w.heap.size rfl (.tmp 58) (.tmp 60) 22 3 (.int .i64 0) 8 rfl Try.underlying22 info3 rfl (by decide) (by omega) u7 x7_1 t169 [.int .i64 t169] (fun _ => True) (fun _ => False) rfl rfl ?aP (fun _ hk => hk.elim) ?aF ?aO (Below.refl _ _) ?aS ?aL ?_; (case aP => exact rfl); (case aF => exact (fun _ _ => trivial)); (case aO => exact (by (with_reducible repeat (first | apply Kd.Q_alloc | apply Kd.Q_drewN | apply Kd.Q_drew)); exact HO_7.out)); (case aS => exact (keep_size (w := w) (g := g) (row := none) (by repeat (first | (with_reducible first | exact HK.out | apply KeepBut.set_ | apply keep_drewN | apply keep_drew | apply keep_alloc) | exact HK.out)))); (case aL => have := LMc37.out; omega); intro v172 w40 ho hb hg hat; rw [← Ny171.out] at ho; have n0_ := Aside0.mk (IsS50.grown (by repeat (first | (with_reducible first | exact HI0.out | apply IsS50.alloc | apply IsS50.drewN | apply IsS50.drew | apply IsS50.set_1) | exact HI0.out)) hg (IsS50.own_neQ HI0.out HO_7.out (by decide))); have n1_ := Aside0.mk (below_weaken (by repeat (first | (with_reducible first | exact HB.out | apply below_alloc | apply pw_below_drewN | apply below_drew1 | refine below_set ?_ (IsS50.ge HI0.out)) | exact HB.out)) HL.out hb); have n2_ := Aside0.mk (KeepBut.trans (by repeat (first | (with_reducible first | exact HK.out | apply KeepBut.set_ | apply keep_drewN | apply keep_drew | apply keep_alloc) | exact HK.out)) (KeepBut.of_grown hg g) (Kd.Q_base2 HO_7.out)); have n3_ := Aside0.mk (ho); clear HI0; clear HB; clear HK; clear HO_7; have HI0 := n0_; have HB := n1_; have HK := n2_; have HO173 := n3_; clear n0_ n1_ n2_ n3_; clear ho hb hg hat))
                                  go_roundg kj27
                                  case measure => have := HK1.out; have := HJ13.out; have := HJ17.out; have := HJ23.out; have := HJ27.out; omega
                                  case rel => exact ⟨(y171), (wrap64 (x8_1 + 1)), (t170), (by first | rfl | (simp; done) | (simp [*]; done)), H', ⟨by have := HK1.out; have := HJ13.out; have := HJ17.out; have := HJ23.out; have := HJ27.out; omega⟩, ⟨by (with_reducible repeat (first | apply Kd.Q_alloc | apply Kd.Q_drewN | apply Kd.Q_drew)); exact HO173.out⟩, ⟨by repeat (first | (with_reducible first | exact HI0.out | apply IsS50.alloc | apply IsS50.drewN | apply IsS50.drew | apply IsS50.set_1) | exact HI0.out)⟩, ⟨by repeat (first | (with_reducible first | exact HK.out | apply KeepBut.set_ | apply keep_drewN | apply keep_drew | apply keep_alloc) | exact HK.out)⟩, ⟨by repeat (first | (with_reducible first | exact HB.out | apply below_alloc | apply pw_below_drewN | apply below_drew1 | refine below_set ?_ (IsS50.ge HI0.out)) | exact HB.out)⟩⟩
                                · rw [if_neg c37] at H
                                  exact absurd H (by simp)
                              · rw [if_neg c35] at H
                                have c35b0 : (t167 == 0) = false := beq_eq_false_iff_ne.mpr c35
                                have c35b1 : (t167 != 0) = true := bne_iff_ne.mpr c35
                                by_cases c41 : x7_1.length < 17592186044416
                                · rw [if_pos c41] at H
                                  have LMc41 := Aside0.mk c41
                                  clear c41
                                  obtain ⟨y174, hy174⟩ : ∃ y_ : List Int, y_ = (x7_1 ++ [x9_27]) := ⟨_, rfl⟩
                                  replace H : (spec_l20Areas.l0 kj27 a1 (rd y152 t155) y174 (wrap64 (x8_1 + 1)) s0_0 t168) = some (r1, r2, r3) := by first | (rw [hy174]; with_reducible exact H) | (have H2_ := (Option.bind_some _ _).symm.trans H; rw [hy174]; with_reducible exact H2_) | (have H2_ := (Option.bind_some _ _).symm.trans H; with_reducible exact H2_) | with_reducible exact H | (rw [hy174]; exact H) | exact H
                                  have Ny174 := Aside0.mk hy174
                                  clear hy174
                                  have H' := Aside0.mk H
                                  clear H
                                  go_wp2_with (first | ((with_reducible refine gate_callee (f := 32) rfl ?_); refine goesL_ (some 53) rfl rfl Try.func32 (by kernel_rfl) rfl #[.pointer (some ⟨g, 0, none⟩), .int .i64 9] rfl (by (try simp only [List.map_toArray, List.map_cons, List.map_nil]); first | done | rfl | (simp only [List.length_drop, List.length_take]; rfl)) ?_; (with_reducible refine (spec_l20Rd_pick.calls kj27 g s0_0 x1001_23 9 t167 t168 w0 _ ?side1 ?side2 A34.out).mono ?_); (case side1 => repeat (first | (with_reducible first | exact HI0.out | apply IsS50.alloc | apply IsS50.drewN | apply IsS50.drew | apply IsS50.set_1) | exact HI0.out)); (case side2 => repeat (first | (with_reducible first | exact HB.out | apply below_alloc | apply pw_below_drewN | apply below_drew1 | refine below_set ?_ (IsS50.ge HI0.out)) | exact HB.out)); rintro e w42 ⟨rfl, hi, hb, hk⟩; refine ⟨_, rfl, ?_⟩; have n0_ := Aside0.mk (Kd.Q_mono (Kd.Q_keep (IsS50.apartQ (show IsS50 w0 _ g s0_0 x1001_23 from by repeat (first | (with_reducible first | exact HI0.out | apply IsS50.alloc | apply IsS50.drewN | apply IsS50.drew | apply IsS50.set_1) | exact HI0.out)) (by (with_reducible repeat (first | apply Kd.Q_alloc | apply Kd.Q_drewN | apply Kd.Q_drew)); exact HO_7.out) (by decide)) hk (fun _ h => h.2)) (fun _ h => h.1)); have n1_ := Aside0.mk (KeepBut.trans (by repeat (first | (with_reducible first | exact HK.out | apply KeepBut.set_ | apply keep_drewN | apply keep_drew | apply keep_alloc) | exact HK.out)) hk (.inl rfl)); have n2_ := Aside0.mk (hb); have n3_ := Aside0.mk (hi); clear HO_7; clear HK; clear HB; clear HI0; have HO_7 := n0_; have HK := n1_; have HB := n2_; have HI0 := n3_; clear n0_ n1_ n2_ n3_; (try clear hb); (try clear hb2); (try clear hk); (try clear hi)) | ((with_reducible refine gate_builtin (b := .append) (xs := #[.tmp 58, .tmp 60]) rfl ?_); at_builtin; refine Kd.Q_append (Kd.int .i64) w.heap.size rfl (.tmp 58) (.tmp 60) 22 3 (.int .i64 0) 8 rfl Try.underlying22 info3 rfl (by decide) (by omega) u7 x7_1 x9_27 [.int .i64 x9_27] (fun _ => True) (fun _ => False) rfl rfl ?aP (fun _ hk => hk.elim) ?aF ?aO (Below.refl _ _) ?aS ?aL ?_; (case aP => exact rfl); (case aF => exact (fun _ _ => trivial)); (case aO => exact (by (with_reducible repeat (first | apply Kd.Q_alloc | apply Kd.Q_drewN | apply Kd.Q_drew)); exact HO_7.out)); (case aS => exact (keep_size (w := w) (g := g) (row := none) (by repeat (first | (with_reducible first | exact HK.out | apply KeepBut.set_ | apply keep_drewN | apply keep_drew | apply keep_alloc) | exact HK.out)))); (case aL => have := LMc41.out; omega); intro v175 w43 ho hb hg hat; rw [← Ny174.out] at ho; have n0_ := Aside0.mk (IsS50.grown (by repeat (first | (with_reducible first | exact HI0.out | apply IsS50.alloc | apply IsS50.drewN | apply IsS50.drew | apply IsS50.set_1) | exact HI0.out)) hg (IsS50.own_neQ HI0.out HO_7.out (by decide))); have n1_ := Aside0.mk (below_weaken (by repeat (first | (with_reducible first | exact HB.out | apply below_alloc | apply pw_below_drewN | apply below_drew1 | refine below_set ?_ (IsS50.ge HI0.out)) | exact HB.out)) HL.out hb); have n2_ := Aside0.mk (KeepBut.trans (by repeat (first | (with_reducible first | exact HK.out | apply KeepBut.set_ | apply keep_drewN | apply keep_drew | apply keep_alloc) | exact HK.out)) (KeepBut.of_grown hg g) (Kd.Q_base2 HO_7.out)); have n3_ := Aside0.mk (ho); clear HI0; clear HB; clear HK; clear HO_7; have HI0 := n0_; have HB := n1_; have HK := n2_; have HO176 := n3_; clear n0_ n1_ n2_ n3_; clear ho hb hg hat))
                                  go_roundg kj27
                                  case measure => have := HK1.out; have := HJ13.out; have := HJ17.out; have := HJ23.out; have := HJ27.out; omega
                                  case rel => exact ⟨(y174), (wrap64 (x8_1 + 1)), (t168), (by first | rfl | (simp; done) | (simp [*]; done)), H', ⟨by have := HK1.out; have := HJ13.out; have := HJ17.out; have := HJ23.out; have := HJ27.out; omega⟩, ⟨by (with_reducible repeat (first | apply Kd.Q_alloc | apply Kd.Q_drewN | apply Kd.Q_drew)); exact HO176.out⟩, ⟨by repeat (first | (with_reducible first | exact HI0.out | apply IsS50.alloc | apply IsS50.drewN | apply IsS50.drew | apply IsS50.set_1) | exact HI0.out)⟩, ⟨by repeat (first | (with_reducible first | exact HK.out | apply KeepBut.set_ | apply keep_drewN | apply keep_drew | apply keep_alloc) | exact HK.out)⟩, ⟨by repeat (first | (with_reducible first | exact HB.out | apply below_alloc | apply pw_below_drewN | apply below_drew1 | refine below_set ?_ (IsS50.ge HI0.out)) | exact HB.out)⟩⟩
                                · rw [if_neg c41] at H
                                  exact absurd H (by simp)
          · rw [if_neg c12] at H
            have c12b0 : decide (x8_1 < (wrap64 ((rd y152 t155) * (rd y152 t155)))) = false := decide_eq_false c12
            clear c12
            replace H := Option.bind_eq_some_iff.mp H
            obtain ⟨⟨t177, t178⟩, A440, H⟩ := H
            replace H : (if t177 = true then ((spec_l20Rd_pick.f k1 s0_0 t178 3).bind fun bt179 => (if bt179.1 = 0 then ((spec_l20Rd_pick.f k1 s0_0 bt179.2 (x7_1.length : Int)).bind fun bt181 => ((some (([(-1), (rd y152 t155)] : List Int) : List Int)).bind fun y183 => ((spec_l20Rd_pick.f k1 s0_0 bt181.2 2).bind fun bt186 => (if 0 ≤ bt186.1 then (if bt186.1 < (y183.length : Int) then (if 0 ≤ bt181.1 then (if bt181.1 < (x7_1.length : Int) then (some ((x7_1.set (bt181.1 : Int).toNat (rd y183 bt186.1)), (rd y152 t155), bt186.2)) else (none)) else (none)) else (none)) else (none))))) else (if bt179.1 = 1 then (if 1 ≤ (x7_1.length : Int) then (some ((x7_1.drop (1 : Int).toNat), (rd y152 t155), bt179.2)) else (none)) else ((some (([0, 7] : List Int) : List Int)).bind fun y193 => ((spec_l20Rd_pick.f k1 s0_0 bt179.2 2).bind fun bt196 => (if 0 ≤ bt196.1 then (if bt196.1 < (y193.length : Int) then (some (x7_1, rd y193 bt196.1, bt196.2)) else (none)) else (none))))))) else (some (x7_1, (rd y152 t155), t178))) = some (r1, r2, r3) := H
            have A44 := Aside0.mk A440
            clear A440
            by_cases c45 : t177 = true
            · subst c45
              have H1 : ((spec_l20Rd_pick.f k1 s0_0 t178 3).bind fun bt179 => (if bt179.1 = 0 then ((spec_l20Rd_pick.f k1 s0_0 bt179.2 (x7_1.length : Int)).bind fun bt181 => ((some (([(-1), (rd y152 t155)] : List Int) : List Int)).bind fun y183 => ((spec_l20Rd_pick.f k1 s0_0 bt181.2 2).bind fun bt186 => (if 0 ≤ bt186.1 then (if bt186.1 < (y183.length : Int) then (if 0 ≤ bt181.1 then (if bt181.1 < (x7_1.length : Int) then (some ((x7_1.set (bt181.1 : Int).toNat (rd y183 bt186.1)), (rd y152 t155), bt186.2)) else (none)) else (none)) else (none)) else (none))))) else (if bt179.1 = 1 then (if 1 ≤ (x7_1.length : Int) then (some ((x7_1.drop (1 : Int).toNat), (rd y152 t155), bt179.2)) else (none)) else ((some (([0, 7] : List Int) : List Int)).bind fun y193 => ((spec_l20Rd_pick.f k1 s0_0 bt179.2 2).bind fun bt196 => (if 0 ≤ bt196.1 then (if bt196.1 < (y193.length : Int) then (some (x7_1, rd y193 bt196.1, bt196.2)) else (none)) else (none))))))) = some (r1, r2, r3) := by rw [if_pos rfl] at H; exact H
              clear H
              have H := H1
              clear H1
              replace H := Option.bind_eq_some_iff.mp H
              obtain ⟨⟨t179, t180⟩, A460, H⟩ := H
              replace H : (if t179 = 0 then ((spec_l20Rd_pick.f k1 s0_0 t180 (x7_1.length : Int)).bind fun bt181 => ((some (([(-1), (rd y152 t155)] : List Int) : List Int)).bind fun y183 => ((spec_l20Rd_pick.f k1 s0_0 bt181.2 2).bind fun bt186 => (if 0 ≤ bt186.1 then (if bt186.1 < (y183.length : Int) then (if 0 ≤ bt181.1 then (if bt181.1 < (x7_1.length : Int) then (some ((x7_1.set (bt181.1 : Int).toNat (rd y183 bt186.1)), (rd y152 t155), bt186.2)) else (none)) else (none)) else (none)) else (none))))) else (if t179 = 1 then (if 1 ≤ (x7_1.length : Int) then (some ((x7_1.drop (1 : Int).toNat), (rd y152 t155), t180)) else (none)) else ((some (([0, 7] : List Int) : List Int)).bind fun y193 => ((spec_l20Rd_pick.f k1 s0_0 t180 2).bind fun bt196 => (if 0 ≤ bt196.1 then (if bt196.1 < (y193.length : Int) then (some (x7_1, rd y193 bt196.1, bt196.2)) else (none)) else (none)))))) = some (r1, r2, r3) := H
              have A46 := Aside0.mk A460
              clear A460
              by_cases c47 : t179 = 0
              · rw [if_pos c47] at H
                have c47b0 : (t179 == 0) = true := beq_iff_eq.mpr c47
                have c47b1 : (t179 != 0) = false := bne_eq_false_iff_eq.mpr c47
                clear c47
                replace H := Option.bind_eq_some_iff.mp H
                obtain ⟨⟨t181, t182⟩, A480, H⟩ := H
                replace H : ((some (([(-1), (rd y152 t155)] : List Int) : List Int)).bind fun y183 => ((spec_l20Rd_pick.f k1 s0_0 t182 2).bind fun bt186 => (if 0 ≤ bt186.1 then (if bt186.1 < (y183.length : Int) then (if 0 ≤ t181 then (if t181 < (x7_1.length : Int) then (some ((x7_1.set (t181 : Int).toNat (rd y183 bt186.1)), (rd y152 t155), bt186.2)) else (none)) else (none)) else (none)) else (none)))) = some (r1, r2, r3) := H
                have A48 := Aside0.mk A480
                clear A480
                obtain ⟨y183, hy183⟩ : ∃ y_ : List Int, y_ = (([(-1), (rd y152 t155)] : List Int)) := ⟨_, rfl⟩
                replace H : ((spec_l20Rd_pick.f k1 s0_0 t182 2).bind fun bt186 => (if 0 ≤ bt186.1 then (if bt186.1 < (y183.length : Int) then (if 0 ≤ t181 then (if t181 < (x7_1.length : Int) then (some ((x7_1.set (t181 : Int).toNat (rd y183 bt186.1)), (rd y152 t155), bt186.2)) else (none)) else (none)) else (none)) else (none))) = some (r1, r2, r3) := by first | (rw [hy183]; with_reducible exact H) | (have H2_ := (Option.bind_some _ _).symm.trans H; rw [hy183]; with_reducible exact H2_) | (have H2_ := (Option.bind_some _ _).symm.trans H; with_reducible exact H2_) | with_reducible exact H | (rw [hy183]; exact H) | exact H
                have Ny183 := Aside0.mk hy183
                clear hy183
                replace H := Option.bind_eq_some_iff.mp H
                obtain ⟨⟨t186, t187⟩, A490, H⟩ := H
                replace H : (if 0 ≤ t186 then (if t186 < (y183.length : Int) then (if 0 ≤ t181 then (if t181 < (x7_1.length : Int) then (some ((x7_1.set (t181 : Int).toNat (rd y183 t186)), (rd y152 t155), t187)) else (none)) else (none)) else (none)) else (none)) = some (r1, r2, r3) := H
                have A49 := Aside0.mk A490
                clear A490
                by_cases c50 : 0 ≤ t186
                · rw [if_pos c50] at H
                  have c50b0 : decide (0 ≤ t186) = true := decide_eq_true c50
                  clear c50
                  by_cases c51 : t186 < (y183.length : Int)
                  · rw [if_pos c51] at H
                    have c51b0 : decide (t186 < (y183.length : Int)) = true := decide_eq_true c51
                    clear c51
                    by_cases c52 : 0 ≤ t181
                    · rw [if_pos c52] at H
                      have c52b0 : decide (0 ≤ t181) = true := decide_eq_true c52
                      clear c52
                      by_cases c53 : t181 < (x7_1.length : Int)
                      · rw [if_pos c53] at H
                        have c53b0 : decide (t181 < (x7_1.length : Int)) = true := decide_eq_true c53
                        clear c53
                        obtain ⟨y189, hy189⟩ : ∃ y_ : List Int, y_ = (x7_1.set (t181 : Int).toNat (rd y183 t186)) := ⟨_, rfl⟩
                        replace H : (some (y189, (rd y152 t155), t187)) = some (r1, r2, r3) := by first | (rw [hy189]; with_reducible exact H) | (have H2_ := (Option.bind_some _ _).symm.trans H; rw [hy189]; with_reducible exact H2_) | (have H2_ := (Option.bind_some _ _).symm.trans H; with_reducible exact H2_) | with_reducible exact H | (rw [hy189]; exact H) | exact H
                        have Ny189 := Aside0.mk hy189
                        clear hy189
                        simp only [Option.some.injEq, Prod.mk.injEq] at H
                        obtain ⟨rfl, rfl, rfl⟩ := H
                        go_wp2_with (first | ((with_reducible refine gate_callee (f := 37) rfl ?_); refine goesL_ (some 64) rfl rfl Try.func37 (by kernel_rfl) rfl #[.pointer (some ⟨g, 0, none⟩), .int .i64 a1] rfl (by (try simp only [List.map_toArray, List.map_cons, List.map_nil]); first | done | rfl | (simp only [List.length_drop, List.length_take]; rfl)) ?_; (with_reducible refine (spec_l20Rd_odd.calls k1 g s0_0 x1001_1 a1 true t178 w0 _ ?side1 ?side2 A44.out).mono ?_); (case side1 => repeat (first | (with_reducible first | exact HI0.out | apply IsS50.alloc | apply IsS50.drewN | apply IsS50.drew | apply IsS50.set_1) | exact HI0.out)); (case side2 => repeat (first | (with_reducible first | exact HB.out | apply below_alloc | apply pw_below_drewN | apply below_drew1 | refine below_set ?_ (IsS50.ge HI0.out)) | exact HB.out)); rintro e w55 ⟨rfl, hi, hb, hk⟩; refine ⟨_, rfl, ?_⟩; have n0_ := Aside0.mk (Kd.Q_mono (Kd.Q_keep (IsS50.apartQ (show IsS50 w0 _ g s0_0 x1001_1 from by repeat (first | (with_reducible first | exact HI0.out | apply IsS50.alloc | apply IsS50.drewN | apply IsS50.drew | apply IsS50.set_1) | exact HI0.out)) (by (with_reducible repeat (first | apply Kd.Q_alloc | apply Kd.Q_drewN | apply Kd.Q_drew)); exact HO_7.out) (by decide)) hk (fun _ h => h.2)) (fun _ h => h.1)); have n1_ := Aside0.mk (KeepBut.trans (by repeat (first | (with_reducible first | exact HK.out | apply KeepBut.set_ | apply keep_drewN | apply keep_drew | apply keep_alloc) | exact HK.out)) hk (.inl rfl)); have n2_ := Aside0.mk (hb); have n3_ := Aside0.mk (hi); clear HO_7; clear HK; clear HB; clear HI0; have HO_7 := n0_; have HK := n1_; have HB := n2_; have HI0 := n3_; clear n0_ n1_ n2_ n3_; (try clear hb); (try clear hb2); (try clear hk); (try clear hi)) | ((with_reducible refine gate_callee (f := 32) rfl ?_); refine goesL_ (some 66) rfl rfl Try.func32 (by kernel_rfl) rfl #[.pointer (some ⟨g, 0, none⟩), .int .i64 3] rfl (by (try simp only [List.map_toArray, List.map_cons, List.map_nil]); first | done | rfl | (simp only [List.length_drop, List.length_take]; rfl)) ?_; (with_reducible refine (spec_l20Rd_pick.calls k1 g s0_0 t178 3 t179 t180 w0 _ ?side1 ?side2 A46.out).mono ?_); (case side1 => repeat (first | (with_reducible first | exact HI0.out | apply IsS50.alloc | apply IsS50.drewN | apply IsS50.drew | apply IsS50.set_1) | exact HI0.out)); (case side2 => repeat (first | (with_reducible first | exact HB.out | apply below_alloc | apply pw_below_drewN | apply below_drew1 | refine below_set ?_ (IsS50.ge HI0.out)) | exact HB.out)); rintro e w56 ⟨rfl, hi, hb, hk⟩; refine ⟨_, rfl, ?_⟩; have n0_ := Aside0.mk (Kd.Q_mono (Kd.Q_keep (IsS50.apartQ (show IsS50 w0 _ g s0_0 t178 from by repeat (first | (with_reducible first | exact HI0.out | apply IsS50.alloc | apply IsS50.drewN | apply IsS50.drew | apply IsS50.set_1) | exact HI0.out)) (by (with_reducible repeat (first | apply Kd.Q_alloc | apply Kd.Q_drewN | apply Kd.Q_drew)); exact HO_7.out) (by decide)) hk (fun _ h => h.2)) (fun _ h => h.1)); have n1_ := Aside0.mk (KeepBut.trans (by repeat (first | (with_reducible first | exact HK.out | apply KeepBut.set_ | apply keep_drewN | apply keep_drew | apply keep_alloc) | exact HK.out)) hk (.inl rfl)); have n2_ := Aside0.mk (hb); have n3_ := Aside0.mk (hi); clear HO_7; clear HK; clear HB; clear HI0; have HO_7 := n0_; have HK := n1_; have HB := n2_; have HI0 := n3_; clear n0_ n1_ n2_ n3_; (try clear hb); (try clear hb2); (try clear hk); (try clear hi); obtain ⟨Ao57, co57, eo57, _⟩ := Kd.Q_slice HO_7.out; subst eo57) | ((with_reducible refine gate_callee (f := 32) rfl ?_); refine goesL_ (some 78) rfl rfl Try.func32 (by kernel_rfl) rfl #[.pointer (some ⟨g, 0, none⟩), .int .i64 (x7_1.length : Int)] rfl (by (try simp only [List.map_toArray, List.map_cons, List.map_nil]); first | done | rfl | (simp only [List.length_drop, List.length_take]; rfl)) ?_; (with_reducible refine (spec_l20Rd_pick.calls k1 g s0_0 t180 (x7_1.length : Int) t181 t182 w0 _ ?side1 ?side2 A48.out).mono ?_); (case side1 => repeat (first | (with_reducible first | exact HI0.out | apply IsS50.alloc | apply IsS50.drewN | apply IsS50.drew | apply IsS50.set_1) | exact HI0.out)); (case side2 => repeat (first | (with_reducible first | exact HB.out | apply below_alloc | apply pw_below_drewN | apply below_drew1 | refine below_set ?_ (IsS50.ge HI0.out)) | exact HB.out)); rintro e w58 ⟨rfl, hi, hb, hk⟩; refine ⟨_, rfl, ?_⟩; have n0_ := Aside0.mk (Kd.Q_mono (Kd.Q_keep (IsS50.apartQ (show IsS50 w0 _ g s0_0 t180 from by repeat (first | (with_reducible first | exact HI0.out | apply IsS50.alloc | apply IsS50.drewN | apply IsS50.drew | apply IsS50.set_1) | exact HI0.out)) (by (with_reducible repeat (first | apply Kd.Q_alloc | apply Kd.Q_drewN | apply Kd.Q_drew)); exact HO_7.out) (by decide)) hk (fun _ h => h.2)) (fun _ h => h.1)); have n1_ := Aside0.mk (KeepBut.trans (by repeat (first | (with_reducible first | exact HK.out | apply KeepBut.set_ | apply keep_drewN | apply keep_drew | apply keep_alloc) | exact HK.out)) hk (.inl rfl)); have n2_ := Aside0.mk (hb); have n3_ := Aside0.mk (hi); clear HO_7; clear HK; clear HB; clear HI0; have HO_7 := n0_; have HK := n1_; have HB := n2_; have HI0 := n3_; clear n0_ n1_ n2_ n3_; (try clear hb); (try clear hb2); (try clear hk); (try clear hi)) | ((with_reducible refine gate_dst (N := 80) rfl ?_); refine Kd.R_lit (Kd.int .i64) _ 3 ?hg (N := 80) ?hd (xs := ([(-1), (rd y152 t155)] : List Int)) (inner := [.int .i64 (-1), .int .i64 (rd y152 t155)]) (ok := fun _ => True) (okp := fun _ => True) ?hr ?hp (fun _ hk => hk) trivial (Below.refl _ _) (Nat.le_refl _) (by simp) ?_; (case hd => rfl); (case hg => rfl); (case hr => first | (go_simp; done) | (go_simp; rfl)); (case hp => exact (Reps.one (show Kd.M (Kd.int .i64) _ _ _ (-1) [.int .i64 (-1)] from rfl) (Reps.one (show Kd.M (Kd.int .i64) _ _ _ (rd y152 t155) [.int .i64 (rd y152 t155)] from rfl) (Reps.none _ _)))); intro v184 w59 ho60 hb hg_ hnew_; clear hg_ hnew_; (first | rw [← Ny183.out] at ho60 | (simp only [Int.reduceToNat] at ho60; rw [← Ny183.out] at ho60)); have n0_ := Aside0.mk (Kd.Q_elder' (by (with_reducible repeat (first | apply Kd.Q_alloc | apply Kd.Q_drewN | apply Kd.Q_drew)); exact HO_7.out) (Kd.R_base ho60) hb); have n1_ := Aside0.mk (Kd.R_lower (Kd.R_new' ho60 (Kd.Q_lt (by (with_reducible repeat (first | apply Kd.Q_alloc | apply Kd.Q_drewN | apply Kd.Q_drew)); exact HO_7.out))) (keep_size (w := w) (g := g) (row := none) (by repeat (first | (with_reducible first | exact HK.out | apply KeepBut.set_ | apply keep_drewN | apply keep_drew | apply keep_alloc) | exact HK.out)))); have n2_ := Aside0.mk (IsS50.below (by repeat (first | (with_reducible first | exact HI0.out | apply IsS50.alloc | apply IsS50.drewN | apply IsS50.drew | apply IsS50.set_1) | exact HI0.out)) hb); have n3_ := Aside0.mk (KeepBut.trans (by repeat (first | (with_reducible first | exact HK.out | apply KeepBut.set_ | apply keep_drewN | apply keep_drew | apply keep_alloc) | exact HK.out)) (KeepBut.of_below hb g none) (.inl rfl)); have n4_ := Aside0.mk (below_step (by repeat (first | (with_reducible first | exact HB.out | apply below_alloc | apply pw_below_drewN | apply below_drew1 | refine below_set ?_ (IsS50.ge HI0.out)) | exact HB.out)) hb); clear HO_7; clear HI0; clear HK; clear HB; have HO_7 := n0_; have HO185 := n1_; have HI0 := n2_; have HK := n3_; have HB := n4_; clear n0_ n1_ n2_ n3_ n4_; clear hb ho60) | ((with_reducible refine gate_callee (f := 32) rfl ?_); refine goesL_ (some 82) rfl rfl Try.func32 (by kernel_rfl) rfl #[.pointer (some ⟨g, 0, none⟩), .int .i64 2] rfl (by (try simp only [List.map_toArray, List.map_cons, List.map_nil]); first | done | rfl | (simp only [List.length_drop, List.length_take]; rfl)) ?_; (with_reducible refine (spec_l20Rd_pick.calls k1 g s0_0 t182 2 t186 t187 w0 _ ?side1 ?side2 A49.out).mono ?_); (case side1 => repeat (first | (with_reducible first | exact HI0.out | apply IsS50.alloc | apply IsS50.drewN | apply IsS50.drew | apply IsS50.set_1) | exact HI0.out)); (case side2 => repeat (first | (with_reducible first | exact HB.out | apply below_alloc | apply pw_below_drewN | apply below_drew1 | refine below_set ?_ (IsS50.ge HI0.out)) | exact HB.out)); rintro e w61 ⟨rfl, hi, hb, hk⟩; refine ⟨_, rfl, ?_⟩; have n0_ := Aside0.mk (Kd.Q_mono (Kd.Q_keep (IsS50.apartQ (show IsS50 w0 _ g s0_0 t182 from by repeat (first | (with_reducible first | exact HI0.out | apply IsS50.alloc | apply IsS50.drewN | apply IsS50.drew | apply IsS50.set_1) | exact HI0.out)) (by (with_reducible repeat (first | apply Kd.Q_alloc | apply Kd.Q_drewN | apply Kd.Q_drew)); exact HO_7.out) (by decide)) hk (fun _ h => h.2)) (fun _ h => h.1)); have n1_ := Aside0.mk (Kd.R_mono (Kd.R_keep (IsS50.apart (show IsS50 w0 _ g s0_0 t182 from by repeat (first | (with_reducible first | exact HI0.out | apply IsS50.alloc | apply IsS50.drewN | apply IsS50.drew | apply IsS50.set_1) | exact HI0.out)) (by (with_reducible repeat (first | apply Kd.R_alloc | apply Kd.R_drewN | apply Kd.R_drew)); exact HO185.out) (by decide)) hk (fun _ h => h.2)) (fun _ h => h.1)); have n2_ := Aside0.mk (KeepBut.trans (by repeat (first | (with_reducible first | exact HK.out | apply KeepBut.set_ | apply keep_drewN | apply keep_drew | apply keep_alloc) | exact HK.out)) hk (.inl rfl)); have n3_ := Aside0.mk (hb); have n4_ := Aside0.mk (hi); clear HO_7; clear HO185; clear HK; clear HB; clear HI0; have HO_7 := n0_; have HO185 := n1_; have HK := n2_; have HB := n3_; have HI0 := n4_; clear n0_ n1_ n2_ n3_ n4_; (try clear hb); (try clear hb2); (try clear hk); (try clear hi); obtain ⟨Ao62, co62, eo62⟩ := Kd.R_slice HO185.out; subst eo62; have p188 : 0 ≤ (t186 : Int) := of_decide_eq_true (by first | (with_reducible assumption) | assumption); have q188 : t186 < (y183.length : Int) := of_decide_eq_true (by first | (with_reducible assumption) | assumption); obtain ⟨ad188, e188, hx188_0⟩ := Kd.at_int (Kd.R_reads' HO185.out).2.2 t186 p188 q188; cases e188; replace p188 := eq_true p188; replace q188 := eq_true q188; have p54 : 0 ≤ (t181 : Int) := of_decide_eq_true (by first | (with_reducible assumption) | assumption); have q54 : (t181 : Int) < ((x7_1.length : Int) : Int) := of_decide_eq_true (by first | (with_reducible assumption) | assumption); obtain ⟨go54, oo54, co54, eo54, gb54, gl54, cl54, HG54⟩ := Kd.Q_form HO_7.out (by omega); (first | cases eo54 | (injection eo54 with ea_ en_ ec_; (first | subst ea_ | (injection ea_ with ea_; subst ea_)); subst ec_; clear en_)); have GB54 := Aside0.mk gb54; have GG54 := Aside0.mk HG54; clear gb54 gl54 HG54; obtain ⟨hx54_0, hf54_0⟩ := Kd.Q_cell 0 HO_7.out (t181 : Int) p54 q54; replace p54 := eq_true p54; replace q54 := eq_true q54; have n_ := Aside0.mk (Kd.Q_mono (ok' := (fun k_ => some k_ ≠ (.slice (some ad188) y183.length co62 : Value).ownBlock)) HO_7.out (fun k_ hk => hk.2)); clear HO_7; have HO_7 := n_; clear n_; obtain ⟨hy63_, hz63_⟩ := Kd.Q_cell 0 HO_7.out (t181 : Int) (of_decide_eq_true (by first | (with_reducible assumption) | assumption)) (of_decide_eq_true (by first | (with_reducible assumption) | assumption)); have HP63 := Kd.Q_putg HO_7.out (t181 : Int) (of_decide_eq_true (by first | (with_reducible assumption) | assumption)) (by have h_ : (t181 : Int) < ((x7_1.length : Int) : Int) := of_decide_eq_true (by first | (with_reducible assumption) | assumption); first | exact h_ | (have e_ := (Kd.Q_reads' HO_7.out).1; omega) | simpa using h_) (rd y183 t186)) | ((with_reducible refine gate_store (t := 3) (p := 85) rfl ?_); refine store_event (t := 3) (p := 85) (v := ?vo_w64) (w1 := (w61.setCell ⟨go54, oo54 + (t181 : Int).toNat, none⟩ (.int .i64 (rd y183 t186)))) ?hg ?ho ?hn ?hr ?_; (case ho => rfl); (case hg => rfl); (case hn => rfl); (case hr => first | (go_simp; done) | (go_simp; rfl)); intro w64 hw; have hg : w61.grownBy w64 (some go54) := (by rw [hw]; exact HP63.2); have hp_ : Kd.Q (Kd.int .i64) 3 w64 w.heap.size (fun k_ => some k_ ≠ (.slice (some ad188) y183.length co62 : Value).ownBlock) (.slice (some ⟨go54, oo54, none⟩) x7_1.length co57) y189 := (by rw [hw, Ny189.out]; exact HP63.1); clear HP63; have n0_ := Aside0.mk (hp_); have n1_ := Aside0.mk (IsS50.grown (by repeat (first | (with_reducible first | exact HI0.out | apply IsS50.alloc | apply IsS50.drewN | apply IsS50.drew | apply IsS50.set_1) | exact HI0.out)) hg (IsS50.own_neQ HI0.out HO_7.out (by decide))); have n2_ := Aside0.mk (Kd.R_after (v := (.slice (some ⟨go54, oo54, none⟩) x7_1.length co57)) (v1 := (.slice (some ⟨go54, oo54, none⟩) x7_1.length co57)) (ok := (fun _ => True)) (by (with_reducible repeat (first | apply Kd.R_alloc | apply Kd.R_drewN | apply Kd.R_drew)); exact HO185.out) hg (.inl rfl)); have n3_ := Aside0.mk ((by rw [hw]; exact below_set (HB.out) (Nat.le_trans HL.out GB54.out) : Below w0.heap.size w0 w64)); have n4_ := Aside0.mk (KeepBut.trans (by repeat (first | (with_reducible first | exact HK.out | apply KeepBut.set_ | apply keep_drewN | apply keep_drew | apply keep_alloc) | exact HK.out)) (KeepBut.of_grown hg g) (Kd.Q_base2 HO_7.out)); clear HO_7; clear HI0; clear HO185; clear HB; clear HK; have HO_7 := n0_; have HI0 := n1_; have HO185 := n2_; have HB := n3_; have HK := n4_; clear n0_ n1_ n2_ n3_ n4_; clear hg hw hp_))
                        go_ret2
                        exact ⟨_, by first | rfl | (simp [errW_none, errW_some] <;> rfl) | (simp [*, errW_none, errW_some] <;> rfl), by (with_reducible repeat (first | apply Kd.Q_alloc | apply Kd.Q_drewN | apply Kd.Q_drew)); exact Kd.Q_mono HO_7.out (fun _ hk => trivial), by repeat (first | (with_reducible first | exact HI0.out | apply IsS50.alloc | apply IsS50.drewN | apply IsS50.drew | apply IsS50.set_1) | exact HI0.out), by repeat (first | (with_reducible first | exact HB.out | apply below_alloc | apply pw_below_drewN | apply below_drew1 | refine below_set ?_ (IsS50.ge HI0.out)) | exact HB.out), by repeat (first | (with_reducible first | exact HK.out | apply KeepBut.set_ | apply keep_drewN | apply keep_drew | apply keep_alloc) | exact HK.out)⟩
                      · rw [if_neg c53] at H
                        exact absurd H (by simp)
                    · rw [if_neg c52] at H
                      exact absurd H (by simp)
                  · rw [if_neg c51] at H
                    exact absurd H (by simp)
                · rw [if_neg c50] at H
                  exact absurd H (by simp)
              · rw [if_neg c47] at H
                have c47b0 : (t179 == 0) = false := beq_eq_false_iff_ne.mpr c47
                have c47b1 : (t179 != 0) = true := bne_iff_ne.mpr c47
                by_cases c65 : t179 = 1
                · rw [if_pos c65] at H
                  have c65b0 : (t179 == 1) = true := beq_iff_eq.mpr c65
                  have c65b1 : (t179 != 1) = false := bne_eq_false_iff_eq.mpr c65
                  clear c65
                  by_cases c66 : 1 ≤ (x7_1.length : Int)
                  · rw [if_pos c66] at H
                    have c66b0 := eq_true c66
                    have c66b1 : decide (1 ≤ (x7_1.length : Int)) = true := decide_eq_true c66
                    clear c66
                    obtain ⟨y190, hy190⟩ : ∃ y_ : List Int, y_ = (x7_1.drop (1 : Int).toNat) := ⟨_, rfl⟩
                    replace H : (some (y190, (rd y152 t155), t180)) = some (r1, r2, r3) := by first | (rw [hy190]; with_reducible exact H) | (have H2_ := (Option.bind_some _ _).symm.trans H; rw [hy190]; with_reducible exact H2_) | (have H2_ := (Option.bind_some _ _).symm.trans H; with_reducible exact H2_) | with_reducible exact H | (rw [hy190]; exact H) | exact H
                    have Ny190 := Aside0.mk hy190
                    clear hy190
                    simp only [Option.some.injEq, Prod.mk.injEq] at H
                    obtain ⟨rfl, rfl, rfl⟩ := H
                    go_wp2_with (first | ((with_reducible refine gate_callee (f := 37) rfl ?_); refine goesL_ (some 64) rfl rfl Try.func37 (by kernel_rfl) rfl #[.pointer (some ⟨g, 0, none⟩), .int .i64 a1] rfl (by (try simp only [List.map_toArray, List.map_cons, List.map_nil]); first | done | rfl | (simp only [List.length_drop, List.length_take]; rfl)) ?_; (with_reducible refine (spec_l20Rd_odd.calls k1 g s0_0 x1001_1 a1 true t178 w0 _ ?side1 ?side2 A44.out).mono ?_); (case side1 => repeat (first | (with_reducible first | exact HI0.out | apply IsS50.alloc | apply IsS50.drewN | apply IsS50.drew | apply IsS50.set_1) | exact HI0.out)); (case side2 => repeat (first | (with_reducible first | exact HB.out | apply below_alloc | apply pw_below_drewN | apply below_drew1 | refine below_set ?_ (IsS50.ge HI0.out)) | exact HB.out)); rintro e w67 ⟨rfl, hi, hb, hk⟩; refine ⟨_, rfl, ?_⟩; have n0_ := Aside0.mk (Kd.Q_mono (Kd.Q_keep (IsS50.apartQ (show IsS50 w0 _ g s0_0 x1001_1 from by repeat (first | (with_reducible first | exact HI0.out | apply IsS50.alloc | apply IsS50.drewN | apply IsS50.drew | apply IsS50.set_1) | exact HI0.out)) (by (with_reducible repeat (first | apply Kd.Q_alloc | apply Kd.Q_drewN | apply Kd.Q_drew)); exact HO_7.out) (by decide)) hk (fun _ h => h.2)) (fun _ h => h.1)); have n1_ := Aside0.mk (KeepBut.trans (by repeat (first | (with_reducible first | exact HK.out | apply KeepBut.set_ | apply keep_drewN | apply keep_drew | apply keep_alloc) | exact HK.out)) hk (.inl rfl)); have n2_ := Aside0.mk (hb); have n3_ := Aside0.mk (hi); clear HO_7; clear HK; clear HB; clear HI0; have HO_7 := n0_; have HK := n1_; have HB := n2_; have HI0 := n3_; clear n0_ n1_ n2_ n3_; (try clear hb); (try clear hb2); (try clear hk); (try clear hi)) | ((with_reducible refine gate_callee (f := 32) rfl ?_); refine goesL_ (some 66) rfl rfl Try.func32 (by kernel_rfl) rfl #[.pointer (some ⟨g, 0, none⟩), .int .i64 3] rfl (by (try simp only [List.map_toArray, List.map_cons, List.map_nil]); first | done | rfl | (simp only [List.length_drop, List.length_take]; rfl)) ?_; (with_reducible refine (spec_l20Rd_pick.calls k1 g s0_0 t178 3 t179 t180 w0 _ ?side1 ?side2 A46.out).mono ?_); (case side1 => repeat (first | (with_reducible first | exact HI0.out | apply IsS50.alloc | apply IsS50.drewN | apply IsS50.drew | apply IsS50.set_1) | exact HI0.out)); (case side2 => repeat (first | (with_reducible first | exact HB.out | apply below_alloc | apply pw_below_drewN | apply below_drew1 | refine below_set ?_ (IsS50.ge HI0.out)) | exact HB.out)); rintro e w68 ⟨rfl, hi, hb, hk⟩; refine ⟨_, rfl, ?_⟩; have n0_ := Aside0.mk (Kd.Q_mono (Kd.Q_keep (IsS50.apartQ (show IsS50 w0 _ g s0_0 t178 from by repeat (first | (with_reducible first | exact HI0.out | apply IsS50.alloc | apply IsS50.drewN | apply IsS50.drew | apply IsS50.set_1) | exact HI0.out)) (by (with_reducible repeat (first | apply Kd.Q_alloc | apply Kd.Q_drewN | apply Kd.Q_drew)); exact HO_7.out) (by decide)) hk (fun _ h => h.2)) (fun _ h => h.1)); have n1_ := Aside0.mk (KeepBut.trans (by repeat (first | (with_reducible first | exact HK.out | apply KeepBut.set_ | apply keep_drewN | apply keep_drew | apply keep_alloc) | exact HK.out)) hk (.inl rfl)); have n2_ := Aside0.mk (hb); have n3_ := Aside0.mk (hi); clear HO_7; clear HK; clear HB; clear HI0; have HO_7 := n0_; have HK := n1_; have HB := n2_; have HI0 := n3_; clear n0_ n1_ n2_ n3_; (try clear hb); (try clear hb2); (try clear hk); (try clear hi); obtain ⟨Ao69, co69, eo69, _⟩ := Kd.Q_slice HO_7.out; subst eo69; have q70 : (1 : Int) ≤ ((x7_1.length : Int) : Int) := of_decide_eq_true (by first | (with_reducible assumption) | assumption); obtain ⟨i070, hi070, _, hsz70, _⟩ := info_parts info3; have hcut70 := cut_from (P := Try.prog) 22 3 .i64 Try.underlying22 hi070 1 hsz70 Ao69 x7_1.length co69 1 (by omega) q70; have hr70 := Kd.Q_drop (k := (1 : Int).toNat) HO_7.out (by omega); obtain ⟨A70, hA70⟩ : ∃ A1, A1 = (if co69 = (1 : Int).toNat then Ao69 else (Ao69 : Option Addr).map (·.add ((1 : Int).toNat * 1))) := ⟨_, rfl⟩; obtain ⟨c70, hc70⟩ : ∃ c1, c1 = co69 - (1 : Int).toNat := ⟨_, rfl⟩; have hy70 : y190.length = x7_1.length - (1 : Int).toNat := (by rw [Ny190.out, List.length_drop]); rw [← Ny190.out] at hr70; rw [← hy70, ← hA70, ← hc70] at hcut70; replace hr70 : Kd.Q (Kd.int .i64) 3 w68 w.heap.size (fun _ => True) (.slice A70 y190.length c70) y190 := (by rw [hA70, hc70, hy70]; exact hr70); have HE70 : Aside0 ((Value.slice A70 y190.length c70).ownBlock = (.slice Ao69 x7_1.length co69 : Value).ownBlock) := ⟨by rw [hA70]; split <;> (cases (Ao69 : Option Addr) <;> rfl)⟩; clear hy70 hi070 hsz70 HO_7 hA70 hc70; have HO192 := Aside0.mk hr70; clear hr70; replace q70 := eq_true q70))
                    go_ret2
                    exact ⟨_, by first | rfl | (simp [errW_none, errW_some] <;> rfl) | (simp [*, errW_none, errW_some] <;> rfl), by (with_reducible repeat (first | apply Kd.Q_alloc | apply Kd.Q_drewN | apply Kd.Q_drew)); exact HO192.out, by repeat (first | (with_reducible first | exact HI0.out | apply IsS50.alloc | apply IsS50.drewN | apply IsS50.drew | apply IsS50.set_1) | exact HI0.out), by repeat (first | (with_reducible first | exact HB.out | apply below_alloc | apply pw_below_drewN | apply below_drew1 | refine below_set ?_ (IsS50.ge HI0.out)) | exact HB.out), by repeat (first | (with_reducible first | exact HK.out | apply KeepBut.set_ | apply keep_drewN | apply keep_drew | apply keep_alloc) | exact HK.out)⟩
                  · rw [if_neg c66] at H
                    exact absurd H (by simp)
                · rw [if_neg c65] at H
                  have c65b0 : (t179 == 1) = false := beq_eq_false_iff_ne.mpr c65
                  have c65b1 : (t179 != 1) = true := bne_iff_ne.mpr c65
                  obtain ⟨y193, hy193⟩ : ∃ y_ : List Int, y_ = (([0, 7] : List Int)) := ⟨_, rfl⟩
                  replace H : ((spec_l20Rd_pick.f k1 s0_0 t180 2).bind fun bt196 => (if 0 ≤ bt196.1 then (if bt196.1 < (y193.length : Int) then (some (x7_1, rd y193 bt196.1, bt196.2)) else (none)) else (none))) = some (r1, r2, r3) := by first | (rw [hy193]; with_reducible exact H) | (have H2_ := (Option.bind_some _ _).symm.trans H; rw [hy193]; with_reducible exact H2_) | (have H2_ := (Option.bind_some _ _).symm.trans H; with_reducible exact H2_) | with_reducible exact H | (rw [hy193]; exact H) | exact H
                  have Ny193 := Aside0.mk hy193
                  clear hy193
                  replace H := Option.bind_eq_some_iff.mp H
                  obtain ⟨⟨t196, t197⟩, A710, H⟩ := H
                  replace H : (if 0 ≤ t196 then (if t196 < (y193.length : Int) then (some (x7_1, rd y193 t196, t197)) else (none)) else (none)) = some (r1, r2, r3) := H
                  have A71 := Aside0.mk A710
                  clear A710
                  by_cases c72 : 0 ≤ t196
                  · rw [if_pos c72] at H
                    have c72b0 : decide (0 ≤ t196) = true := decide_eq_true c72
                    clear c72
                    by_cases c73 : t196 < (y193.length : Int)
                    · rw [if_pos c73] at H
                      have c73b0 : decide (t196 < (y193.length : Int)) = true := decide_eq_true c73
                      clear c73
                      simp only [Option.some.injEq, Prod.mk.injEq] at H
                      obtain ⟨rfl, rfl, rfl⟩ := H
                      go_wp2_with (first | ((with_reducible refine gate_callee (f := 37) rfl ?_); refine goesL_ (some 64) rfl rfl Try.func37 (by kernel_rfl) rfl #[.pointer (some ⟨g, 0, none⟩), .int .i64 a1] rfl (by (try simp only [List.map_toArray, List.map_cons, List.map_nil]); first | done | rfl | (simp only [List.length_drop, List.length_take]; rfl)) ?_; (with_reducible refine (spec_l20Rd_odd.calls k1 g s0_0 x1001_1 a1 true t178 w0 _ ?side1 ?side2 A44.out).mono ?_); (case side1 => repeat (first | (with_reducible first | exact HI0.out | apply IsS50.alloc | apply IsS50.drewN | apply IsS50.drew | apply IsS50.set_1) | exact HI0.out)); (case side2 => repeat (first | (with_reducible first | exact HB.out | apply below_alloc | apply pw_below_drewN | apply below_drew1 | refine below_set ?_ (IsS50.ge HI0.out)) | exact HB.out)); rintro e w74 ⟨rfl, hi, hb, hk⟩; refine ⟨_, rfl, ?_⟩; have n0_ := Aside0.mk (Kd.Q_mono (Kd.Q_keep (IsS50.apartQ (show IsS50 w0 _ g s0_0 x1001_1 from by repeat (first | (with_reducible first | exact HI0.out | apply IsS50.alloc | apply IsS50.drewN | apply IsS50.drew | apply IsS50.set_1) | exact HI0.out)) (by (with_reducible repeat (first | apply Kd.Q_alloc | apply Kd.Q_drewN | apply Kd.Q_drew)); exact HO_7.out) (by decide)) hk (fun _ h => h.2)) (fun _ h => h.1)); have n1_ := Aside0.mk (KeepBut.trans (by repeat (first | (with_reducible first | exact HK.out | apply KeepBut.set_ | apply keep_drewN | apply keep_drew | apply keep_alloc) | exact HK.out)) hk (.inl rfl)); have n2_ := Aside0.mk (hb); have n3_ := Aside0.mk (hi); clear HO_7; clear HK; clear HB; clear HI0; have HO_7 := n0_; have HK := n1_; have HB := n2_; have HI0 := n3_; clear n0_ n1_ n2_ n3_; (try clear hb); (try clear hb2); (try clear hk); (try clear hi)) | ((with_reducible refine gate_callee (f := 32) rfl ?_); refine goesL_ (some 66) rfl rfl Try.func32 (by kernel_rfl) rfl #[.pointer (some ⟨g, 0, none⟩), .int .i64 3] rfl (by (try simp only [List.map_toArray, List.map_cons, List.map_nil]); first | done | rfl | (simp only [List.length_drop, List.length_take]; rfl)) ?_; (with_reducible refine (spec_l20Rd_pick.calls k1 g s0_0 t178 3 t179 t180 w0 _ ?side1 ?side2 A46.out).mono ?_); (case side1 => repeat (first | (with_reducible first | exact HI0.out | apply IsS50.alloc | apply IsS50.drewN | apply IsS50.drew | apply IsS50.set_1) | exact HI0.out)); (case side2 => repeat (first | (with_reducible first | exact HB.out | apply below_alloc | apply pw_below_drewN | apply below_drew1 | refine below_set ?_ (IsS50.ge HI0.out)) | exact HB.out)); rintro e w75 ⟨rfl, hi, hb, hk⟩; refine ⟨_, rfl, ?_⟩; have n0_ := Aside0.mk (Kd.Q_mono (Kd.Q_keep (IsS50.apartQ (show IsS50 w0 _ g s0_0 t178 from by repeat (first | (with_reducible first | exact HI0.out | apply IsS50.alloc | apply IsS50.drewN | apply IsS50.drew | apply IsS50.set_1) | exact HI0.out)) (by (with_reducible repeat (first | apply Kd.Q_alloc | apply Kd.Q_drewN | apply Kd.Q_drew)); exact HO_7.out) (by decide)) hk (fun _ h => h.2)) (fun _ h => h.1)); have n1_ := Aside0.mk (KeepBut.trans (by repeat (first | (with_reducible first | exact HK.out | apply KeepBut.set_ | apply keep_drewN | apply keep_drew | apply keep_alloc) | exact HK.out)) hk (.inl rfl)); have n2_ := Aside0.mk (hb); have n3_ := Aside0.mk (hi); clear HO_7; clear HK; clear HB; clear HI0; have HO_7 := n0_; have HK := n1_; have HB := n2_; have HI0 := n3_; clear n0_ n1_ n2_ n3_; (try clear hb); (try clear hb2); (try clear hk); (try clear hi)) | ((with_reducible refine gate_dst (N := 67) rfl ?_); refine Kd.R_lit (Kd.int .i64) _ 3 ?hg (N := 67) ?hd (xs := ([0, 7] : List Int)) (inner := [.int .i64 0, .int .i64 7]) (ok := fun _ => True) (okp := fun _ => True) ?hr ?hp (fun _ hk => hk) trivial (Below.refl _ _) (Nat.le_refl _) (by simp) ?_; (case hd => rfl); (case hg => rfl); (case hr => first | (go_simp; done) | (go_simp; rfl)); (case hp => exact (Reps.one (show Kd.M (Kd.int .i64) _ _ _ 0 [.int .i64 0] from rfl) (Reps.one (show Kd.M (Kd.int .i64) _ _ _ 7 [.int .i64 7] from rfl) (Reps.none _ _)))); intro v194 w76 ho77 hb hg_ hnew_; clear hg_ hnew_; (first | rw [← Ny193.out] at ho77 | (simp only [Int.reduceToNat] at ho77; rw [← Ny193.out] at ho77)); have n0_ := Aside0.mk (Kd.Q_elder' (by (with_reducible repeat (first | apply Kd.Q_alloc | apply Kd.Q_drewN | apply Kd.Q_drew)); exact HO_7.out) (Kd.R_base ho77) hb); have n1_ := Aside0.mk (Kd.R_lower (Kd.R_new' ho77 (Kd.Q_lt (by (with_reducible repeat (first | apply Kd.Q_alloc | apply Kd.Q_drewN | apply Kd.Q_drew)); exact HO_7.out))) (keep_size (w := w) (g := g) (row := none) (by repeat (first | (with_reducible first | exact HK.out | apply KeepBut.set_ | apply keep_drewN | apply keep_drew | apply keep_alloc) | exact HK.out)))); have n2_ := Aside0.mk (IsS50.below (by repeat (first | (with_reducible first | exact HI0.out | apply IsS50.alloc | apply IsS50.drewN | apply IsS50.drew | apply IsS50.set_1) | exact HI0.out)) hb); have n3_ := Aside0.mk (KeepBut.trans (by repeat (first | (with_reducible first | exact HK.out | apply KeepBut.set_ | apply keep_drewN | apply keep_drew | apply keep_alloc) | exact HK.out)) (KeepBut.of_below hb g none) (.inl rfl)); have n4_ := Aside0.mk (below_step (by repeat (first | (with_reducible first | exact HB.out | apply below_alloc | apply pw_below_drewN | apply below_drew1 | refine below_set ?_ (IsS50.ge HI0.out)) | exact HB.out)) hb); clear HO_7; clear HI0; clear HK; clear HB; have HO_7 := n0_; have HO195 := n1_; have HI0 := n2_; have HK := n3_; have HB := n4_; clear n0_ n1_ n2_ n3_ n4_; clear hb ho77) | ((with_reducible refine gate_callee (f := 32) rfl ?_); refine goesL_ (some 69) rfl rfl Try.func32 (by kernel_rfl) rfl #[.pointer (some ⟨g, 0, none⟩), .int .i64 2] rfl (by (try simp only [List.map_toArray, List.map_cons, List.map_nil]); first | done | rfl | (simp only [List.length_drop, List.length_take]; rfl)) ?_; (with_reducible refine (spec_l20Rd_pick.calls k1 g s0_0 t180 2 t196 t197 w0 _ ?side1 ?side2 A71.out).mono ?_); (case side1 => repeat (first | (with_reducible first | exact HI0.out | apply IsS50.alloc | apply IsS50.drewN | apply IsS50.drew | apply IsS50.set_1) | exact HI0.out)); (case side2 => repeat (first | (with_reducible first | exact HB.out | apply below_alloc | apply pw_below_drewN | apply below_drew1 | refine below_set ?_ (IsS50.ge HI0.out)) | exact HB.out)); rintro e w78 ⟨rfl, hi, hb, hk⟩; refine ⟨_, rfl, ?_⟩; have n0_ := Aside0.mk (Kd.Q_mono (Kd.Q_keep (IsS50.apartQ (show IsS50 w0 _ g s0_0 t180 from by repeat (first | (with_reducible first | exact HI0.out | apply IsS50.alloc | apply IsS50.drewN | apply IsS50.drew | apply IsS50.set_1) | exact HI0.out)) (by (with_reducible repeat (first | apply Kd.Q_alloc | apply Kd.Q_drewN | apply Kd.Q_drew)); exact HO_7.out) (by decide)) hk (fun _ h => h.2)) (fun _ h => h.1)); have n1_ := Aside0.mk (Kd.R_mono (Kd.R_keep (IsS50.apart (show IsS50 w0 _ g s0_0 t180 from by repeat (first | (with_reducible first | exact HI0.out | apply IsS50.alloc | apply IsS50.drewN | apply IsS50.drew | apply IsS50.set_1) | exact HI0.out)) (by (with_reducible repeat (first | apply Kd.R_alloc | apply Kd.R_drewN | apply Kd.R_drew)); exact HO195.out) (by decide)) hk (fun _ h => h.2)) (fun _ h => h.1)); have n2_ := Aside0.mk (KeepBut.trans (by repeat (first | (with_reducible first | exact HK.out | apply KeepBut.set_ | apply keep_drewN | apply keep_drew | apply keep_alloc) | exact HK.out)) hk (.inl rfl)); have n3_ := Aside0.mk (hb); have n4_ := Aside0.mk (hi); clear HO_7; clear HO195; clear HK; clear HB; clear HI0; have HO_7 := n0_; have HO195 := n1_; have HK := n2_; have HB := n3_; have HI0 := n4_; clear n0_ n1_ n2_ n3_ n4_; (try clear hb); (try clear hb2); (try clear hk); (try clear hi); obtain ⟨Ao79, co79, eo79⟩ := Kd.R_slice HO195.out; subst eo79; have p198 : 0 ≤ (t196 : Int) := of_decide_eq_true (by first | (with_reducible assumption) | assumption); have q198 : t196 < (y193.length : Int) := of_decide_eq_true (by first | (with_reducible assumption) | assumption); obtain ⟨ad198, e198, hx198_0⟩ := Kd.at_int (Kd.R_reads' HO195.out).2.2 t196 p198 q198; cases e198; replace p198 := eq_true p198; replace q198 := eq_true q198))
                      go_ret2
                      exact ⟨_, by first | rfl | (simp [errW_none, errW_some] <;> rfl) | (simp [*, errW_none, errW_some] <;> rfl), by (with_reducible repeat (first | apply Kd.Q_alloc | apply Kd.Q_drewN | apply Kd.Q_drew)); exact Kd.Q_mono HO_7.out (fun _ hk => trivial), by repeat (first | (with_reducible first | exact HI0.out | apply IsS50.alloc | apply IsS50.drewN | apply IsS50.drew | apply IsS50.set_1) | exact HI0.out), by repeat (first | (with_reducible first | exact HB.out | apply below_alloc | apply pw_below_drewN | apply below_drew1 | refine below_set ?_ (IsS50.ge HI0.out)) | exact HB.out), by repeat (first | (with_reducible first | exact HK.out | apply KeepBut.set_ | apply keep_drewN | apply keep_drew | apply keep_alloc) | exact HK.out)⟩
                    · rw [if_neg c73] at H
                      exact absurd H (by simp)
                  · rw [if_neg c72] at H
                    exact absurd H (by simp)
            · replace c45 := Bool.eq_false_iff.mpr c45
              subst c45
              have H1 : (some (x7_1, (rd y152 t155), t178)) = some (r1, r2, r3) := by rw [if_neg (show ¬ (false = true) by decide)] at H; exact H
              clear H
              have H := H1
              clear H1
              simp only [Option.some.injEq, Prod.mk.injEq] at H
              obtain ⟨rfl, rfl, rfl⟩ := H
              go_wp2_with (first | ((with_reducible refine gate_callee (f := 37) rfl ?_); refine goesL_ (some 64) rfl rfl Try.func37 (by kernel_rfl) rfl #[.pointer (some ⟨g, 0, none⟩), .int .i64 a1] rfl (by (try simp only [List.map_toArray, List.map_cons, List.map_nil]); first | done | rfl | (simp only [List.length_drop, List.length_take]; rfl)) ?_; (with_reducible refine (spec_l20Rd_odd.calls k1 g s0_0 x1001_1 a1 false t178 w0 _ ?side1 ?side2 A44.out).mono ?_); (case side1 => repeat (first | (with_reducible first | exact HI0.out | apply IsS50.alloc | apply IsS50.drewN | apply IsS50.drew | apply IsS50.set_1) | exact HI0.out)); (case side2 => repeat (first | (with_reducible first | exact HB.out | apply below_alloc | apply pw_below_drewN | apply below_drew1 | refine below_set ?_ (IsS50.ge HI0.out)) | exact HB.out)); rintro e w80 ⟨rfl, hi, hb, hk⟩; refine ⟨_, rfl, ?_⟩; have n0_ := Aside0.mk (Kd.Q_mono (Kd.Q_keep (IsS50.apartQ (show IsS50 w0 _ g s0_0 x1001_1 from by repeat (first | (with_reducible first | exact HI0.out | apply IsS50.alloc | apply IsS50.drewN | apply IsS50.drew | apply IsS50.set_1) | exact HI0.out)) (by (with_reducible repeat (first | apply Kd.Q_alloc | apply Kd.Q_drewN | apply Kd.Q_drew)); exact HO_7.out) (by decide)) hk (fun _ h => h.2)) (fun _ h => h.1)); have n1_ := Aside0.mk (KeepBut.trans (by repeat (first | (with_reducible first | exact HK.out | apply KeepBut.set_ | apply keep_drewN | apply keep_drew | apply keep_alloc) | exact HK.out)) hk (.inl rfl)); have n2_ := Aside0.mk (hb); have n3_ := Aside0.mk (hi); clear HO_7; clear HK; clear HB; clear HI0; have HO_7 := n0_; have HK := n1_; have HB := n2_; have HI0 := n3_; clear n0_ n1_ n2_ n3_; (try clear hb); (try clear hb2); (try clear hk); (try clear hi)))
              go_ret2
              exact ⟨_, by first | rfl | (simp [errW_none, errW_some] <;> rfl) | (simp [*, errW_none, errW_some] <;> rfl), by (with_reducible repeat (first | apply Kd.Q_alloc | apply Kd.Q_drewN | apply Kd.Q_drew)); exact HO_7.out, by repeat (first | (with_reducible first | exact HI0.out | apply IsS50.alloc | apply IsS50.drewN | apply IsS50.drew | apply IsS50.set_1) | exact HI0.out), by repeat (first | (with_reducible first | exact HB.out | apply below_alloc | apply pw_below_drewN | apply below_drew1 | refine below_set ?_ (IsS50.ge HI0.out)) | exact HB.out), by repeat (first | (with_reducible first | exact HK.out | apply KeepBut.set_ | apply keep_drewN | apply keep_drew | apply keep_alloc) | exact HK.out)⟩
    · rw [if_neg c5] at H
      exact absurd H (by simp)
  · rw [if_neg c4] at H
    exact absurd H (by simp)

/-! ### spec_DrawStarsCount: function 22 -/
def spec_DrawStarsCount.f (k : Nat) (l0 : List Int) : Option (List Int × Int) := (spec_l20Open.f l0).bind fun bt199 => ((spec_l20Areas.f k bt199.1 bt199.2 9).bind fun bt202 => (some (bt202.1, bt202.2.1)))
theorem spec_DrawStarsCount.mono : ∀ a0 k, LeO (spec_DrawStarsCount.f k a0) (spec_DrawStarsCount.f (k + 1) a0) := by
  intro a0 k
  unfold spec_DrawStarsCount.f
  repeat' first
      | (with_reducible exact spec_l20Areas.mono _ _ _ _)
      | (with_reducible exact LeO.refl _)
      | (with_reducible exact LeO.none _)
      | (with_reducible refine LeO.ite ?_ ?_)
      | (with_reducible refine LeO.bind ?_ (fun _ => ?_))
      | exact spec_l20Areas.mono _ _ _ _
      | exact LeO.none _
      | refine LeO.ite ?_ ?_
      | refine LeO.bind ?_ (fun _ => ?_)
set_option maxHeartbeats 8000000 in
set_option maxRecDepth 100000 in
theorem spec_DrawStarsCount.calls (k : Nat) (A0 : Option Addr) (c0 : Nat) (l0 : List Int) (r1 : List Int) (r2 : Int) (w : World) (hr0 : Kd.C (Kd.int .u8) w A0 l0.length l0) (hc0 : l0.length ≤ c0) (h : spec_DrawStarsCount.f k l0 = some (r1, r2)) :
    Calls Try.prog 22 #[.slice A0 l0.length c0] w fun e w' => ∃ v0_ : Value, e = .returned (.tuple #[v0_, .int .i64 r2]) ∧ Kd.Q (Kd.int .i64) 3 w' w.heap.size (fun _ => True) v0_ r1 ∧ Below w.heap.size w w' := by
  have HR0 := Aside0.mk hr0
  have HC0 := Aside0.mk hc0
  clear hr0 hc0
  have HB := Aside0.mk (Below.refl w.heap.size w)
  have H : ((spec_l20Open.f l0).bind fun bt199 => ((spec_l20Areas.f k bt199.1 bt199.2 9).bind fun bt202 => (some (bt202.1, bt202.2.1)))) = some (r1, r2) := h
  clear h
  replace H := Option.bind_eq_some_iff.mp H
  obtain ⟨⟨t199, t200⟩, A20, H⟩ := H
  replace H : ((spec_l20Areas.f k t199 t200 9).bind fun bt202 => (some (bt202.1, bt202.2.1))) = some (r1, r2) := H
  have A2 := Aside0.mk A20
  clear A20
  replace H := Option.bind_eq_some_iff.mp H
  obtain ⟨⟨t202, t205, t206⟩, A30, H⟩ := H
  replace H : (some (t202, t205)) = some (r1, r2) := H
  have A3 := Aside0.mk A30
  clear A30
  simp only [Option.some.injEq, Prod.mk.injEq] at H
  obtain ⟨rfl, rfl⟩ := H
  go_enter Try.func22, Try.ntmps22
  go_wp2_with (first | ((with_reducible refine gate_callee (f := 30) rfl ?_); refine goesL_ (some 5) rfl rfl Try.func30 (by kernel_rfl) rfl #[.slice A0 l0.length c0] rfl (by (try simp only [List.map_toArray, List.map_cons, List.map_nil]); first | done | rfl | (simp only [List.length_drop, List.length_take]; rfl)) ?_; (with_reducible refine (spec_l20Open.calls _ _ l0 t199 t200 w _ ?side1 ?side2 ?side3 A2.out).mono ?_); (case side1 => repeat (first | (with_reducible first | exact HB.out | apply below_alloc | apply pw_below_drewN | apply below_drew1) | exact HB.out)); (case side2 => exact HR0.out); (case side3 => exact HC0.out); rintro e w4 ⟨g201, rfl, hi, hb, hb2⟩; refine ⟨_, rfl, ?_⟩; have n0_ := Aside0.mk (hb); have n1_ := Aside0.mk (hi); clear HB; have HB := n0_; have HI201 := n1_; clear n0_ n1_; (try clear hb); (try clear hb2); (try clear hk); (try clear hi)) | ((with_reducible refine gate_callee (f := 31) rfl ?_); refine goesL_ (some 6) rfl rfl Try.func31 (by kernel_rfl) rfl #[.pointer (some ⟨g201, 0, none⟩), .int .i64 9] rfl (by (try simp only [List.map_toArray, List.map_cons, List.map_nil]); first | done | rfl | (simp only [List.length_drop, List.length_take]; rfl)) ?_; (with_reducible refine (spec_l20Areas.calls k g201 t199 t200 9 t202 t205 t206 w _ ?side1 ?side2 A3.out).mono ?_); (case side1 => repeat (first | (with_reducible first | exact HI201.out | apply IsS50.alloc | apply IsS50.drewN | apply IsS50.drew | apply IsS50.set_1) | exact HI201.out)); (case side2 => repeat (first | (with_reducible first | exact HB.out | apply below_alloc | apply pw_below_drewN | apply below_drew1 | refine below_set ?_ (IsS50.ge HI201.out)) | exact HB.out)); rintro e w5 ⟨v203, rfl, ho0, hi, hb, hk⟩; refine ⟨_, rfl, ?_⟩; have n0_ := Aside0.mk (Kd.Q_lower ho0 (below_size (by repeat (first | (with_reducible first | exact HB.out | apply below_alloc | apply pw_below_drewN | apply below_drew1 | refine below_set ?_ (IsS50.ge HI201.out)) | exact HB.out)))); have n1_ := Aside0.mk (hb); have n2_ := Aside0.mk (hi); clear HB; clear HI201; have HO204 := n0_; have HB := n1_; have HI201 := n2_; clear n0_ n1_ n2_; (try clear hb); (try clear hb2); (try clear hk); (try clear hi); (try clear ho0)))
  go_ret2
  exact ⟨_, by first | rfl | (simp [errW_none, errW_some] <;> rfl) | (simp [*, errW_none, errW_some] <;> rfl), by (with_reducible repeat (first | apply Kd.Q_alloc | apply Kd.Q_drewN | apply Kd.Q_drew)); exact HO204.out, by repeat (first | (with_reducible first | exact HB.out | apply below_alloc | apply pw_below_drewN | apply below_drew1 | refine below_set ?_ (IsS50.ge HI201.out)) | exact HB.out)⟩

end Go.Proofs.Ytcghheaelgjnfaa.PFnStarsCount
