-- Made by a program of this session (a changed copy of the kit print): the kit print itself does not give this text
import Derived.Test.YtbdkmkbkggnekaaPFnBoardFreex0
import Derived.Test.YtbdkmkbkggnekaaPFnBoardFreex2
namespace Go.Proofs.Ytbdkmkbkggnekaa.PFnBoardFree
open Go.RowKit Go.Proofs.YtbdkmkbkggnekaaW.PrintWords Go.Proofs.YtbdkmkbkggnekaaW.PrintLast Go.Proofs.YtbdkmkbkggnekaaW.PrintMore
attribute [local go_sem] max2_int min2_int max_two min_two max_three min_three max_four min_four   -- for this text's walks alone
set_option linter.unusedVariables false
set_option linter.unusedSimpArgs false

/-! ### spec_l20Board: function 19 -/
def spec_l20Board.l0 : Nat → Int → Int → List Int → Int → Int → Int → Int → Option (Int × Int × Int × Int)
  | 0, _, _, _, _, _, _, _ => none
  | k + 1, x1, x6, x1000, x1001, x132000, x132001, x132002 => if x6 > 0 then ((spec_l20Rd_pick.f k x1000 x1001 (wrap64 (x132000 * x132001))).bind fun bt134 => (if 0 ≤ bt134.1 then (spec_l20Board.l0 k x1 (wrap64 (x6 - 1)) x1000 bt134.2 x132000 x132001 (Go.bits .or .i64 x132002 (shl .i64 1 bt134.1))) else (none))) else ((spec_l20Rd_odd.f k x1000 x1001 x1).bind fun bt136 => (if bt136.1 = true then ((spec_l20Rd_pick.f k x1000 bt136.2 3).bind fun bt138 => (if bt138.1 = 0 then ((some (([0, 25, 7] : List Int) : List Int)).bind fun y140 => ((spec_l20Rd_pick.f k x1000 bt138.2 3).bind fun bt143 => (if 0 ≤ bt143.1 then (if bt143.1 < (y140.length : Int) then (some (rd y140 bt143.1, x132001, x132002, bt143.2)) else (none)) else (none)))) else (if bt138.1 = 1 then ((some (([0, 25] : List Int) : List Int)).bind fun y146 => ((spec_l20Rd_pick.f k x1000 bt138.2 2).bind fun bt149 => (if 0 ≤ bt149.1 then (if bt149.1 < (y146.length : Int) then (some (x132000, rd y146 bt149.1, x132002, bt149.2)) else (none)) else (none)))) else (if 0 ≤ (wrap64 (x132000 * x132001)) then ((some (([(-1), shl .i64 1 (wrap64 (x132000 * x132001))] : List Int) : List Int)).bind fun y152 => ((spec_l20Rd_pick.f k x1000 bt138.2 2).bind fun bt155 => (if 0 ≤ bt155.1 then (if bt155.1 < (y152.length : Int) then (some (x132000, x132001, rd y152 bt155.1, bt155.2)) else (none)) else (none)))) else (none))))) else (some (x132000, x132001, x132002, bt136.2))))
def spec_l20Board.f (k : Nat) (s0_0 : List Int) (s0_1 : Int) (a1 : Int) : Option (Int × Int × Int × Int) := (spec_l20Rd_pick.f k s0_0 s0_1 4).bind fun bt127 => ((spec_l20Rd_pick.f k s0_0 bt127.2 6).bind fun bt129 => ((spec_l20Rd_pick.f k s0_0 bt129.2 5).bind fun bt132 => (spec_l20Board.l0 k a1 bt132.1 s0_0 bt132.2 (wrap64 (1 + bt127.1)) (wrap64 (1 + bt129.1)) 0)))
theorem spec_l20Board.mono_l : ∀ k, (∀ y0 y1 y2 y3 y4 y5 y6, LeO (spec_l20Board.l0 k y0 y1 y2 y3 y4 y5 y6) (spec_l20Board.l0 (k + 1) y0 y1 y2 y3 y4 y5 y6))
  | 0 => fun _ _ _ _ _ _ _ r h => by simp [spec_l20Board.l0] at h
  | k + 1 => by
    have ih0 := spec_l20Board.mono_l k
    · intro y0 y1 y2 y3 y4 y5 y6
      unfold spec_l20Board.l0
      repeat' first
      | (with_reducible exact ih0 _ _ _ _ _ _ _)
      | (with_reducible exact spec_l20Rd_odd.mono _ _ _ _)
      | (with_reducible exact spec_l20Rd_pick.mono _ _ _ _)
      | (with_reducible exact LeO.refl _)
      | (with_reducible exact LeO.none _)
      | (with_reducible refine LeO.ite ?_ ?_)
      | (with_reducible refine LeO.bind ?_ (fun _ => ?_))
      | exact ih0 _ _ _ _ _ _ _
      | exact spec_l20Rd_odd.mono _ _ _ _
      | exact spec_l20Rd_pick.mono _ _ _ _
      | exact LeO.none _
      | refine LeO.ite ?_ ?_
      | refine LeO.bind ?_ (fun _ => ?_)
theorem spec_l20Board.mono : ∀ a0 a1 a2 k, LeO (spec_l20Board.f k a0 a1 a2) (spec_l20Board.f (k + 1) a0 a1 a2) := by
  intro a0 a1 a2 k
  have ih0 := spec_l20Board.mono_l k
  unfold spec_l20Board.f
  repeat' first
      | (with_reducible exact ih0 _ _ _ _ _ _ _)
      | (with_reducible exact spec_l20Rd_odd.mono _ _ _ _)
      | (with_reducible exact spec_l20Rd_pick.mono _ _ _ _)
      | (with_reducible exact LeO.refl _)
      | (with_reducible exact LeO.none _)
      | (with_reducible refine LeO.ite ?_ ?_)
      | (with_reducible refine LeO.bind ?_ (fun _ => ?_))
      | exact ih0 _ _ _ _ _ _ _
      | exact spec_l20Rd_odd.mono _ _ _ _
      | exact spec_l20Rd_pick.mono _ _ _ _
      | exact LeO.none _
      | refine LeO.ite ?_ ?_
      | refine LeO.bind ?_ (fun _ => ?_)
def spec_l20Board.T5 : Bool × List (List Nat × List Nat) := (true, [([], []), ([0], [0]), ([], []), ([], []), ([3], [3]), ([], []), ([5], [5]), ([4, 6], [4, 6]), ([2, 7], [2, 7]), ([8], [8]), ([1, 9], [1, 9]), ([0, 1, 2, 3, 4, 5, 6, 7, 8, 9, 10], []), ([11, 10, 8, 0, 1, 2, 3, 4, 5, 6, 7, 8, 9, 10], [10, 11])])
def spec_l20Board.B5 : List Nat := [0, 1, 0, 0, 8, 0, 32, 120, 252, 508, 1023, 2047, 4095]
theorem spec_l20Board.tab5 : rtab .any (opsOf Try.f19 5) = spec_l20Board.T5 := by kernel_rfl
theorem spec_l20Board.bits5 : waitsOk spec_l20Board.T5.2 spec_l20Board.B5 = true := by kernel_rfl
def spec_l20Board.T8 : Bool × List (List Nat × List Nat) := (true, [([], []), ([0], [0]), ([], []), ([2], [2]), ([1, 3], [1, 3]), ([4], [4]), ([5], [5]), ([], []), ([7], [7]), ([6, 8], [6, 8]), ([9], [9]), ([0, 1, 2, 3, 4, 5, 6, 7, 8, 9, 10], []), ([11, 10, 8, 0, 1, 2, 3, 4, 5, 6, 7, 8, 9, 10], [10, 11])])
def spec_l20Board.B8 : List Nat := [0, 1, 0, 4, 15, 31, 63, 0, 128, 511, 1023, 2047, 4095]
theorem spec_l20Board.tab8 : rtab .any (opsOf Try.f19 8) = spec_l20Board.T8 := by kernel_rfl
theorem spec_l20Board.bits8 : waitsOk spec_l20Board.T8.2 spec_l20Board.B8 = true := by kernel_rfl
set_option maxHeartbeats 8000000 in
set_option maxRecDepth 100000 in
theorem spec_l20Board.calls (k : Nat) (g : Nat) (s0_0 : List Int) (s0_1 : Int) (a1 : Int) (r1 : Int) (r2 : Int) (r3 : Int) (r4 : Int) (w0 w : World) (hI : IsS52 w0 w g s0_0 s0_1) (hB : Below w0.heap.size w0 w) (h : spec_l20Board.f k s0_0 s0_1 a1 = some (r1, r2, r3, r4)) :
    Calls Try.prog 19 #[.pointer (some ⟨g, 0, none⟩), .int .i64 a1] w fun e w' => e = .returned (.agg #[.int .i64 r1, .int .i64 r2, .int .i64 r3]) ∧ IsS52 w0 w' g s0_0 r4 ∧ Below w0.heap.size w0 w' ∧ KeepBut w w' g none := by
  have hu26 := Try.underlying26
  have HI0 := Aside0.mk hI
  have HK := Aside0.mk (KeepBut.refl w g none)
  have HL := Aside0.mk hB.size
  clear hI
  have HW0 := Aside0.mk hB.size
  have HB := Aside0.mk hB
  clear hB
  have H : ((spec_l20Rd_pick.f k s0_0 s0_1 4).bind fun bt127 => ((spec_l20Rd_pick.f k s0_0 bt127.2 6).bind fun bt129 => ((spec_l20Rd_pick.f k s0_0 bt129.2 5).bind fun bt132 => (spec_l20Board.l0 k a1 bt132.1 s0_0 bt132.2 (wrap64 (1 + bt127.1)) (wrap64 (1 + bt129.1)) 0)))) = some (r1, r2, r3, r4) := h
  clear h
  replace H := Option.bind_eq_some_iff.mp H
  obtain ⟨⟨t127, t128⟩, A30, H⟩ := H
  replace H : ((spec_l20Rd_pick.f k s0_0 t128 6).bind fun bt129 => ((spec_l20Rd_pick.f k s0_0 bt129.2 5).bind fun bt132 => (spec_l20Board.l0 k a1 bt132.1 s0_0 bt132.2 (wrap64 (1 + t127)) (wrap64 (1 + bt129.1)) 0))) = some (r1, r2, r3, r4) := H
  have A3 := Aside0.mk A30
  clear A30
  replace H := Option.bind_eq_some_iff.mp H
  obtain ⟨⟨t129, t130⟩, A40, H⟩ := H
  replace H : ((spec_l20Rd_pick.f k s0_0 t130 5).bind fun bt132 => (spec_l20Board.l0 k a1 bt132.1 s0_0 bt132.2 (wrap64 (1 + t127)) (wrap64 (1 + t129)) 0)) = some (r1, r2, r3, r4) := H
  have A4 := Aside0.mk A40
  clear A40
  replace H := Option.bind_eq_some_iff.mp H
  obtain ⟨⟨t132, t133⟩, A50, H⟩ := H
  replace H : (spec_l20Board.l0 k a1 t132 s0_0 t133 (wrap64 (1 + t127)) (wrap64 (1 + t129)) 0) = some (r1, r2, r3, r4) := H
  have A5 := Aside0.mk A50
  clear A50
  have H' := Aside0.mk H
  clear H
  go_enter Try.func19, Try.ntmps19
  go_wp2_with (first | ((with_reducible refine gate_dst (N := 4) rfl ?_); refine box_event ?hg (N := 4) ?hd (cs := #[.int .i64 0, .int .i64 0, .int .i64 0]) (t := 26) ?hr ?_; (case hd => rfl); (case hg => rfl); (case hr => first | (go_simp; done) | (go_simp; rfl)); intro gb126 hg w6 hbox hb; have n0_ := Aside0.mk (IsS52.below (by repeat (first | (with_reducible first | exact HI0.out | apply IsS52.alloc | apply IsS52.drewN | apply IsS52.drew | apply IsS52.set_1) | exact HI0.out)) hb); have n1_ := Aside0.mk (KeepBut.trans (by repeat (first | (with_reducible first | exact HK.out | apply KeepBut.set_ | apply keep_drewN | apply keep_drew | apply keep_alloc) | exact HK.out)) (KeepBut.of_below hb g none) (.inl rfl)); have n2_ := Aside0.mk (below_step (by repeat (first | (with_reducible first | exact HB.out | apply below_alloc | apply pw_below_drewN | apply below_drew1 | refine below_set ?_ (IsS52.ge HI0.out)) | exact HB.out)) hb); have n3_ := Aside0.mk (hbox); have n4_ := Aside0.mk ((by rw [hg]; exact (keep_size (w := w) (g := g) (row := none) (by repeat (first | (with_reducible first | exact HK.out | apply KeepBut.set_ | apply keep_drewN | apply keep_drew | apply keep_alloc) | exact HK.out))) : w.heap.size ≤ gb126)); have n5_ := Aside0.mk ((Nat.le_trans HW0.out (by rw [hg]; exact (keep_size (w := w) (g := g) (row := none) (by repeat (first | (with_reducible first | exact HK.out | apply KeepBut.set_ | apply keep_drewN | apply keep_drew | apply keep_alloc) | exact HK.out))) : w.heap.size ≤ gb126) : w0.heap.size ≤ gb126)); have n6_ := Aside0.mk ((by rw [hg]; exact Nat.ne_of_lt (IsS52.lt (show IsS52 w0 _ g s0_0 s0_1 from by repeat (first | (with_reducible first | exact HI0.out | apply IsS52.alloc | apply IsS52.drewN | apply IsS52.drew | apply IsS52.set_1) | exact HI0.out))) : g ≠ gb126)); have n7_ := Aside0.mk ((by rw [hg]; exact Nat.ne_of_gt (IsS52.lt (show IsS52 w0 _ g s0_0 s0_1 from by repeat (first | (with_reducible first | exact HI0.out | apply IsS52.alloc | apply IsS52.drewN | apply IsS52.drew | apply IsS52.set_1) | exact HI0.out))) : gb126 ≠ g)); clear HI0; clear HK; clear HB; have HI0 := n0_; have HK := n1_; have HB := n2_; have BK126 := n3_; have GW126 := n4_; have GE126 := n5_; have NB0_126 := n6_; have NB126_0 := n7_; clear n0_ n1_ n2_ n3_ n4_ n5_ n6_ n7_; clear hb hbox hg) | ((with_reducible refine gate_callee (f := 25) rfl ?_); refine goesL_ (some 8) rfl rfl Try.func25 (by kernel_rfl) rfl #[.pointer (some ⟨g, 0, none⟩), .int .i64 4] rfl (by (try simp only [List.map_toArray, List.map_cons, List.map_nil]); first | done | rfl | (simp only [List.length_drop, List.length_take]; rfl)) ?_; (with_reducible refine (spec_l20Rd_pick.calls k g s0_0 s0_1 4 t127 t128 w0 _ ?side1 ?side2 A3.out).mono ?_); (case side1 => repeat (first | (with_reducible first | exact HI0.out | apply IsS52.alloc | apply IsS52.drewN | apply IsS52.drew | apply IsS52.set_1 | refine IsS52.far ?_ NB0_126.out _) | exact HI0.out)); (case side2 => repeat (first | (with_reducible first | exact HB.out | apply below_alloc | apply pw_below_drewN | apply below_drew1 | refine below_set ?_ (IsS52.ge HI0.out) | refine below_set ?_ GE126.out) | exact HB.out)); rintro e w7 ⟨rfl, hi, hb, hk⟩; refine ⟨_, rfl, ?_⟩; have n0_ := Aside0.mk (KeepBut.blk hk (g' := gb126) (o := .cells #[.int .i64 0, .int .i64 0, .int .i64 0] 26 (0, 0)) (by (with_reducible repeat (first | refine blk_drewN ?_ _ | refine blk_drew ?_ | refine blk_alloc ?_ _)); exact BK126.out) NB126_0.out (by simp)); have n1_ := Aside0.mk (KeepBut.trans (by repeat (first | (with_reducible first | exact HK.out | apply KeepBut.set_ | apply keep_drewN | apply keep_drew | apply keep_alloc | refine keep_far ?_ GW126.out _) | exact HK.out)) hk (.inl rfl)); have n2_ := Aside0.mk (hb); have n3_ := Aside0.mk (hi); clear BK126; clear HK; clear HB; clear HI0; have BK126 := n0_; have HK := n1_; have HB := n2_; have HI0 := n3_; clear n0_ n1_ n2_ n3_; (try clear hb); (try clear hb2); (try clear hk); (try clear hi)) | ((with_reducible refine gate_callee (f := 25) rfl ?_); refine goesL_ (some 11) rfl rfl Try.func25 (by kernel_rfl) rfl #[.pointer (some ⟨g, 0, none⟩), .int .i64 6] rfl (by (try simp only [List.map_toArray, List.map_cons, List.map_nil]); first | done | rfl | (simp only [List.length_drop, List.length_take]; rfl)) ?_; (with_reducible refine (spec_l20Rd_pick.calls k g s0_0 t128 6 t129 t130 w0 _ ?side1 ?side2 A4.out).mono ?_); (case side1 => repeat (first | (with_reducible first | exact HI0.out | apply IsS52.alloc | apply IsS52.drewN | apply IsS52.drew | apply IsS52.set_1 | refine IsS52.far ?_ NB0_126.out _) | exact HI0.out)); (case side2 => repeat (first | (with_reducible first | exact HB.out | apply below_alloc | apply pw_below_drewN | apply below_drew1 | refine below_set ?_ (IsS52.ge HI0.out) | refine below_set ?_ GE126.out) | exact HB.out)); rintro e w8 ⟨rfl, hi, hb, hk⟩; refine ⟨_, rfl, ?_⟩; have n0_ := Aside0.mk (KeepBut.blk hk (g' := gb126) (o := .cells #[.int .i64 0, .int .i64 0, .int .i64 0] 26 (0, 0)) (by (with_reducible repeat (first | refine blk_drewN ?_ _ | refine blk_drew ?_ | refine blk_alloc ?_ _)); exact BK126.out) NB126_0.out (by simp)); have n1_ := Aside0.mk (KeepBut.trans (by repeat (first | (with_reducible first | exact HK.out | apply KeepBut.set_ | apply keep_drewN | apply keep_drew | apply keep_alloc | refine keep_far ?_ GW126.out _) | exact HK.out)) hk (.inl rfl)); have n2_ := Aside0.mk (hb); have n3_ := Aside0.mk (hi); clear BK126; clear HK; clear HB; clear HI0; have BK126 := n0_; have HK := n1_; have HB := n2_; have HI0 := n3_; clear n0_ n1_ n2_ n3_; (try clear hb); (try clear hb2); (try clear hk); (try clear hi)) | ((with_reducible refine gate_dst (N := 5) rfl ?_); refine box_event ?hg (N := 5) ?hd (cs := #[.int .i64 0, .int .i64 0, .int .i64 0]) (t := 26) ?hr ?_; (case hd => rfl); (case hg => rfl); (case hr => first | (go_simp; done) | (go_simp; rfl)); intro gb131 hg w9 hbox hb; have n0_ := Aside0.mk (IsS52.below (by repeat (first | (with_reducible first | exact HI0.out | apply IsS52.alloc | apply IsS52.drewN | apply IsS52.drew | apply IsS52.set_1 | refine IsS52.far ?_ NB0_126.out _) | exact HI0.out)) hb); have n1_ := Aside0.mk (blk_below (g := gb126) (o := .cells #[.int .i64 0, .int .i64 0, .int .i64 0] 26 (0, 0)) (by (with_reducible repeat (first | refine blk_drewN ?_ _ | refine blk_drew ?_ | refine blk_alloc ?_ _)); exact BK126.out) hb); have n2_ := Aside0.mk (KeepBut.trans (by repeat (first | (with_reducible first | exact HK.out | apply KeepBut.set_ | apply keep_drewN | apply keep_drew | apply keep_alloc | refine keep_far ?_ GW126.out _) | exact HK.out)) (KeepBut.of_below hb g none) (.inl rfl)); have n3_ := Aside0.mk (below_step (by repeat (first | (with_reducible first | exact HB.out | apply below_alloc | apply pw_below_drewN | apply below_drew1 | refine below_set ?_ (IsS52.ge HI0.out) | refine below_set ?_ GE126.out) | exact HB.out)) hb); have n4_ := Aside0.mk (hbox); have n5_ := Aside0.mk ((by rw [hg]; exact (keep_size (w := w) (g := g) (row := none) (by repeat (first | (with_reducible first | exact HK.out | apply KeepBut.set_ | apply keep_drewN | apply keep_drew | apply keep_alloc | refine keep_far ?_ GW126.out _) | exact HK.out))) : w.heap.size ≤ gb131)); have n6_ := Aside0.mk ((Nat.le_trans HW0.out (by rw [hg]; exact (keep_size (w := w) (g := g) (row := none) (by repeat (first | (with_reducible first | exact HK.out | apply KeepBut.set_ | apply keep_drewN | apply keep_drew | apply keep_alloc | refine keep_far ?_ GW126.out _) | exact HK.out))) : w.heap.size ≤ gb131) : w0.heap.size ≤ gb131)); have n7_ := Aside0.mk ((by rw [hg]; exact Nat.ne_of_lt (blk_lt (g := gb126) (o := .cells #[.int .i64 0, .int .i64 0, .int .i64 0] 26 (0, 0)) (by (with_reducible repeat (first | refine blk_drewN ?_ _ | refine blk_drew ?_ | refine blk_alloc ?_ _)); exact BK126.out)) : gb126 ≠ gb131)); have n8_ := Aside0.mk ((by rw [hg]; exact Nat.ne_of_gt (blk_lt (g := gb126) (o := .cells #[.int .i64 0, .int .i64 0, .int .i64 0] 26 (0, 0)) (by (with_reducible repeat (first | refine blk_drewN ?_ _ | refine blk_drew ?_ | refine blk_alloc ?_ _)); exact BK126.out)) : gb131 ≠ gb126)); have n9_ := Aside0.mk ((by rw [hg]; exact Nat.ne_of_lt (IsS52.lt (show IsS52 w0 _ g s0_0 t130 from by repeat (first | (with_reducible first | exact HI0.out | apply IsS52.alloc | apply IsS52.drewN | apply IsS52.drew | apply IsS52.set_1 | refine IsS52.far ?_ NB0_126.out _) | exact HI0.out))) : g ≠ gb131)); have n10_ := Aside0.mk ((by rw [hg]; exact Nat.ne_of_gt (IsS52.lt (show IsS52 w0 _ g s0_0 t130 from by repeat (first | (with_reducible first | exact HI0.out | apply IsS52.alloc | apply IsS52.drewN | apply IsS52.drew | apply IsS52.set_1 | refine IsS52.far ?_ NB0_126.out _) | exact HI0.out))) : gb131 ≠ g)); clear HI0; clear BK126; clear HK; clear HB; have HI0 := n0_; have BK126 := n1_; have HK := n2_; have HB := n3_; have BK131 := n4_; have GW131 := n5_; have GE131 := n6_; have NB126_131 := n7_; have NB131_126 := n8_; have NB0_131 := n9_; have NB131_0 := n10_; clear n0_ n1_ n2_ n3_ n4_ n5_ n6_ n7_ n8_ n9_ n10_; clear hb hbox hg; have hnb10 := NB131_126.out; have hnc10 := NB126_131.out; have hnb11 := NB131_0.out; have hnc11 := NB0_131.out; have hcz12_0 : w9.cell? ⟨gb131, 0, none⟩ = some (.int .i64 0) := (blk_cell BK131.out 0).trans rfl; have hcz12_1 : w9.cell? ⟨gb131, 1, none⟩ = some (.int .i64 0) := (blk_cell BK131.out 1).trans rfl; have hcz12_2 : w9.cell? ⟨gb131, 2, none⟩ = some (.int .i64 0) := (blk_cell BK131.out 2).trans rfl; have hfz12_0 := blk_frozen BK131.out 0; have hfz12_1 := blk_frozen BK131.out 1; have hfz12_2 := blk_frozen BK131.out 2) | ((with_reducible refine gate_callee (f := 25) rfl ?_); refine goesL_ (some 15) rfl rfl Try.func25 (by kernel_rfl) rfl #[.pointer (some ⟨g, 0, none⟩), .int .i64 5] rfl (by (try simp only [List.map_toArray, List.map_cons, List.map_nil]); first | done | rfl | (simp only [List.length_drop, List.length_take]; rfl)) ?_; (with_reducible refine (spec_l20Rd_pick.calls k g s0_0 t130 5 t132 t133 w0 _ ?side1 ?side2 A5.out).mono ?_); (case side1 => repeat (first | (with_reducible first | exact HI0.out | apply IsS52.alloc | apply IsS52.drewN | apply IsS52.drew | apply IsS52.set_1 | refine IsS52.far ?_ NB0_126.out _ | refine IsS52.far ?_ NB0_131.out _) | exact HI0.out)); (case side2 => repeat (first | (with_reducible first | exact HB.out | apply below_alloc | apply pw_below_drewN | apply below_drew1 | refine below_set ?_ (IsS52.ge HI0.out) | refine below_set ?_ GE126.out | refine below_set ?_ GE131.out) | exact HB.out)); rintro e w13 ⟨rfl, hi, hb, hk⟩; refine ⟨_, rfl, ?_⟩; have n0_ := Aside0.mk (KeepBut.blk hk (g' := gb126) (o := .cells #[.int .i64 0, .int .i64 0, .int .i64 0] 26 (0, 0)) (by (with_reducible repeat (first | refine blk_drewN ?_ _ | refine blk_drew ?_ | refine blk_alloc ?_ _)); refine blk_far ?_ NB126_131.out _; (with_reducible repeat (first | refine blk_drewN ?_ _ | refine blk_drew ?_ | refine blk_alloc ?_ _)); refine blk_far ?_ NB126_131.out _; (with_reducible repeat (first | refine blk_drewN ?_ _ | refine blk_drew ?_ | refine blk_alloc ?_ _)); refine blk_far ?_ NB126_131.out _; (with_reducible repeat (first | refine blk_drewN ?_ _ | refine blk_drew ?_ | refine blk_alloc ?_ _)); exact BK126.out) NB126_0.out (by simp)); have n1_ := Aside0.mk (KeepBut.blk hk (g' := gb131) (o := .cells #[.int .i64 (wrap64 (1 + t127)), .int .i64 (wrap64 (1 + t129)), .int .i64 0] 26 (0, 0)) (by (with_reducible repeat (first | refine blk_drewN ?_ _ | refine blk_drew ?_ | refine blk_alloc ?_ _)); refine blk_put (cs := #[.int .i64 (wrap64 (1 + t127)), .int .i64 (wrap64 (1 + t129)), .int .i64 0]) ?_ 2 _ rfl; (with_reducible repeat (first | refine blk_drewN ?_ _ | refine blk_drew ?_ | refine blk_alloc ?_ _)); refine blk_put (cs := #[.int .i64 (wrap64 (1 + t127)), .int .i64 0, .int .i64 0]) ?_ 1 _ rfl; (with_reducible repeat (first | refine blk_drewN ?_ _ | refine blk_drew ?_ | refine blk_alloc ?_ _)); refine blk_put (cs := #[.int .i64 0, .int .i64 0, .int .i64 0]) ?_ 0 _ rfl; (with_reducible repeat (first | refine blk_drewN ?_ _ | refine blk_drew ?_ | refine blk_alloc ?_ _)); exact BK131.out) NB131_0.out (by simp)); have n2_ := Aside0.mk (KeepBut.trans (by repeat (first | (with_reducible first | exact HK.out | apply KeepBut.set_ | apply keep_drewN | apply keep_drew | apply keep_alloc | refine keep_far ?_ GW126.out _ | refine keep_far ?_ GW131.out _) | exact HK.out)) hk (.inl rfl)); have n3_ := Aside0.mk (hb); have n4_ := Aside0.mk (hi); clear BK126; clear BK131; clear HK; clear HB; clear HI0; have BK126 := n0_; have BK131 := n1_; have HK := n2_; have HB := n3_; have HI0 := n4_; clear n0_ n1_ n2_ n3_ n4_; (try clear hb); (try clear hb2); (try clear hk); (try clear hi)))
  go_loopg [6] k (fun kq v6 w' => ∃ (x6_1 : Int) (x1001_1 : Int) (x132002_1 : Int), v6 = .int .i64 x6_1 ∧ Aside0 (spec_l20Board.l0 kq a1 x6_1 s0_0 x1001_1 (wrap64 (1 + t127)) (wrap64 (1 + t129)) x132002_1 = some (r1, r2, r3, r4)) ∧ Aside0 (kq ≤ k) ∧ Aside0 (w'.heap[gb126]? = some (.cells #[.int .i64 0, .int .i64 0, .int .i64 0] 26 (0, 0))) ∧ Aside0 (w'.heap[gb131]? = some (.cells #[.int .i64 (wrap64 (1 + t127)), .int .i64 (wrap64 (1 + t129)), .int .i64 x132002_1] 26 (0, 0))) ∧ Aside0 (IsS52 w0 w' g s0_0 x1001_1) ∧ Aside0 (KeepBut w w' g none) ∧ Aside0 (Below w0.heap.size w0 w'))
  case atStart => exact ⟨(t132), (t133), (0), (by first | rfl | (simp; done) | (simp [*]; done)), H', ⟨Nat.le_refl _⟩, ⟨by (with_reducible repeat (first | refine blk_drewN ?_ _ | refine blk_drew ?_ | refine blk_alloc ?_ _)); exact BK126.out⟩, ⟨by (with_reducible repeat (first | refine blk_drewN ?_ _ | refine blk_drew ?_ | refine blk_alloc ?_ _)); exact BK131.out⟩, ⟨by repeat (first | (with_reducible first | exact HI0.out | apply IsS52.alloc | apply IsS52.drewN | apply IsS52.drew | apply IsS52.set_1 | refine IsS52.far ?_ NB0_126.out _ | refine IsS52.far ?_ NB0_131.out _) | exact HI0.out)⟩, ⟨by repeat (first | (with_reducible first | exact HK.out | apply KeepBut.set_ | apply keep_drewN | apply keep_drew | apply keep_alloc | refine keep_far ?_ GW126.out _ | refine keep_far ?_ GW131.out _) | exact HK.out)⟩, ⟨by repeat (first | (with_reducible first | exact HB.out | apply below_alloc | apply pw_below_drewN | apply below_drew1 | refine below_set ?_ (IsS52.ge HI0.out) | refine below_set ?_ GE126.out | refine below_set ?_ GE131.out) | exact HB.out)⟩⟩
  case round =>
    clear H'
    try clear c1
    try clear c2
    try clear p2
    try clear p6
    try clear c10
    try clear c11
    try clear hcz12_0
    try clear hcz12_1
    try clear hcz12_2
    try clear hfz12_0
    try clear hfz12_1
    try clear hfz12_2
    obtain ⟨x6_1, x1001_1, x132002_1, rfl, HA, HK1, BK126, BK131, HI0, HK, HB⟩ := hrel
    cases gk with
    | zero => exact absurd HA.out (by simp [spec_l20Board.l0])
    | succ k1 =>
      have H := HA.out
      clear HA
      simp only [spec_l20Board.l0] at H
      by_cases c14 : x6_1 > 0
      · rw [if_pos c14] at H
        have c14b0 : decide (0 < x6_1) = true := decide_eq_true c14
        clear c14
        replace H := Option.bind_eq_some_iff.mp H
        obtain ⟨⟨t134, t135⟩, A150, H⟩ := H
        replace H : (if 0 ≤ t134 then (spec_l20Board.l0 k1 a1 (wrap64 (x6_1 - 1)) s0_0 t135 (wrap64 (1 + t127)) (wrap64 (1 + t129)) (Go.bits .or .i64 x132002_1 (shl .i64 1 t134))) else (none)) = some (r1, r2, r3, r4) := H
        have A15 := Aside0.mk A150
        clear A150
        by_cases c16 : 0 ≤ t134
        · rw [if_pos c16] at H
          have c16b0 := eq_true c16
          have c16b1 : decide (0 ≤ t134) = true := decide_eq_true c16
          clear c16
          obtain ⟨ji17, hji17⟩ : ∃ j_ : Int, (shl .i64 1 t134) = j_ := ⟨_, rfl⟩
          replace H : (spec_l20Board.l0 k1 a1 (wrap64 (x6_1 - 1)) s0_0 t135 (wrap64 (1 + t127)) (wrap64 (1 + t129)) (Go.bits .or .i64 x132002_1 (ji17))) = some (r1, r2, r3, r4) := by first | (rw [hji17] at H; exact H) | (simp only [hji17] at H ⊢; exact H)
          (try rw [hji17] at A15)
          have hji17_ : (IntKind.i64.wrap (1 * 2 ^ min t134.toNat 64)) = ji17 := hji17
          have hji17z : t134 ≤ 64 → (IntKind.i64.wrap (1 * 2 ^ t134.toNat)) = ji17 := shl_small hji17
          have hji17u : (IntKind.i64.wrap (2 ^ min t134.toNat 64)) = ji17 := by have h_ := hji17_; rw [Int.one_mul] at h_; exact h_
          have hji17v : t134 ≤ 64 → (IntKind.i64.wrap (2 ^ t134.toNat)) = ji17 := fun hle_ => by have h_ := hji17z hle_; rw [Int.one_mul] at h_; exact h_
          have hji17y : (wrap64 (1 * 2 ^ min t134.toNat 64)) = ji17 := (i64_w _).symm.trans hji17_
          have hji17x : t134 ≤ 64 → (wrap64 (1 * 2 ^ t134.toNat)) = ji17 := fun h_ => (i64_w _).symm.trans (hji17z h_)
          have H' := Aside0.mk H
          clear H
          try go_wp2
          have n0_ := Aside0.mk (blk_drew BK126.out)
          have n1_ := Aside0.mk (blk_drew BK131.out)
          have n2_ := Aside0.mk (IsS52.drew HI0.out)
          have n3_ := Aside0.mk (keep_drew HK.out)
          have n4_ := Aside0.mk (below_drew1 HB.out)
          clear BK126
          clear BK131
          clear HI0
          clear HK
          clear HB
          have BK126 := n0_
          have BK131 := n1_
          have HI0 := n2_
          have HK := n3_
          have HB := n4_
          clear n0_ n1_ n2_ n3_ n4_
          refine start_ (n := 13) (S := fun w' => w'.cell? ⟨gb131, 0, none⟩ = some (.int .i64 (wrap64 (1 + t127))) ∧ w'.cell? ⟨gb131, 1, none⟩ = some (.int .i64 (wrap64 (1 + t129))) ∧ w'.cell? ⟨gb131, 2, none⟩ = some (.int .i64 x132002_1)) (ds := [12]) #[false, false, false, false, false, false, false, false, false, false, false, false, false] (by kernel_rfl) rfl rfl ⟨(blk_cell BK131.out 0).trans rfl, (blk_cell BK131.out 1).trans rfl, (blk_cell BK131.out 2).trans rfl⟩ (fun hHeld => ?_); refine with_tabW spec_l20Board.tab5 spec_l20Board.bits5 (fun HT_ HW_ => ?_)
          generalize wr.drew = w18 at BK126 BK131 HI0 HK HB hHeld ⊢
          refine pure_ (i := 0) (N := some 20) (v := ?_) (a' := ?_) #[true, false, false, false, false, false, false, false, false, false, false, false, false] rfl rfl (any_of HT_.out (by kernel_rfl)) (fun _ _ _ h => h) (Or.inl ⟨by rfl, ?_⟩) ?_ ?_
          rotate_left
          · intro w'
            go_simp
            with_reducible rfl
          rotate_left
          · simp only [Act.put, List.setIfInBounds_toArray, List.set_cons_zero, List.set_cons_succ, i64_w, i32_w]
            rfl
          refine pure_ (i := 2) (N := some 22) (v := ?_) (a' := ?_) #[true, false, true, false, false, false, false, false, false, false, false, false, false] rfl rfl (any_of HT_.out (by kernel_rfl)) (fun _ _ _ h => h) (Or.inl ⟨by rfl, ?_⟩) ?_ ?_
          rotate_left
          · intro w'
            go_simp
            with_reducible rfl
          rotate_left
          · simp only [Act.put, List.setIfInBounds_toArray, List.set_cons_zero, List.set_cons_succ, i64_w, i32_w]
            rfl
          refine pure_ (i := 3) (N := some 23) (v := ?_) (a' := ?_) #[true, false, true, true, false, false, false, false, false, false, false, false, false] rfl rfl (any_of HT_.out (by kernel_rfl)) (fun _ _ _ h => h) (Or.inl ⟨by rfl, ?_⟩) ?_ ?_
          rotate_left
          · intro w'
            go_simp
            with_reducible rfl
          rotate_left
          · simp only [Act.put, List.setIfInBounds_toArray, List.set_cons_zero, List.set_cons_succ, i64_w, i32_w]
            rfl
          refine pure_ (i := 5) (N := some 25) (v := ?_) (a' := ?_) #[true, false, true, true, false, true, false, false, false, false, false, false, false] rfl rfl (any_of HT_.out (by kernel_rfl)) (fun _ _ _ h => h) (Or.inl ⟨by rfl, ?_⟩) ?_ ?_
          rotate_left
          · intro w'
            go_simp
            with_reducible rfl
          rotate_left
          · simp only [Act.put, List.setIfInBounds_toArray, List.set_cons_zero, List.set_cons_succ, i64_w, i32_w]
            rfl
          refine take_ (i := 1) (N := some 21) (v := ?_) (a' := ?_) #[true, true, true, true, false, true, false, false, false, false, false, false, false] rfl rfl (take_ofW HT_.out HW_.out (by kernel_rfl)) (fun _ _ _ h => h) (Or.inl ⟨by rfl, ?_⟩) hHeld ?_ ?_
          rotate_left
          · rintro w' ⟨s0, s1, s2⟩
            go_simp
            with_reducible rfl
          rotate_left
          · simp only [Act.put, List.setIfInBounds_toArray, List.set_cons_zero, List.set_cons_succ, i64_w, i32_w]
            rfl
          refine take_ (i := 4) (N := some 24) (v := ?_) (a' := ?_) #[true, true, true, true, true, true, false, false, false, false, false, false, false] rfl rfl (take_ofW HT_.out HW_.out (by kernel_rfl)) (fun _ _ _ h => h) (Or.inl ⟨by rfl, ?_⟩) hHeld ?_ ?_
          rotate_left
          · rintro w' ⟨s0, s1, s2⟩
            go_simp
            with_reducible rfl
          rotate_left
          · simp only [Act.put, List.setIfInBounds_toArray, List.set_cons_zero, List.set_cons_succ, i64_w, i32_w]
            rfl
          refine take_ (i := 6) (N := some 26) (v := ?_) (a' := ?_) #[true, true, true, true, true, true, true, false, false, false, false, false, false] rfl rfl (take_ofW HT_.out HW_.out (by kernel_rfl)) (fun _ _ _ h => h) (Or.inl ⟨by rfl, ?_⟩) hHeld ?_ ?_
          rotate_left
          · rintro w' ⟨s0, s1, s2⟩
            go_simp
            with_reducible rfl
          rotate_left
          · simp only [Act.put, List.setIfInBounds_toArray, List.set_cons_zero, List.set_cons_succ, i64_w, i32_w]
            rfl
          refine pure_ (i := 7) (N := some 27) (v := ?_) (a' := ?_) #[true, true, true, true, true, true, true, true, false, false, false, false, false] rfl rfl (any_of HT_.out (by kernel_rfl)) (fun _ _ _ h => h) (Or.inl ⟨by rfl, ?_⟩) ?_ ?_
          rotate_left
          · intro w'
            go_simp
            with_reducible rfl
          rotate_left
          · simp only [Act.put, List.setIfInBounds_toArray, List.set_cons_zero, List.set_cons_succ, i64_w, i32_w]
            rfl
          refine one_ (i := 8) (N := some 28) #[true, true, true, true, true, true, true, true, true, false, false, false, false] rfl rfl (one_of HT_.out (by kernel_rfl)) (by decide) (fun K hK => ?_)
          refine goes_ Try.func25 (by kernel_rfl) rfl #[.pointer (some ⟨g, 0, none⟩), .int .i64 (wrap64 ((wrap64 (1 + t127)) * (wrap64 (1 + t129))))] (by rfl) rfl rfl (by (try simp only [List.map_toArray, List.map_cons, List.map_nil]); first | done | rfl | (simp only [List.length_drop, List.length_take]; rfl)) ?_
          with_reducible refine (spec_l20Rd_pick.calls k1 g s0_0 x1001_1 (wrap64 ((wrap64 (1 + t127)) * (wrap64 (1 + t129)))) t134 t135 w0 _ ?side1 ?side2 A15.out).mono ?_
          (case side1 => repeat (first | (with_reducible first | exact HI0.out | apply IsS52.alloc | apply IsS52.drewN | apply IsS52.drew | apply IsS52.set_1 | refine IsS52.far ?_ NB0_126.out _ | refine IsS52.far ?_ NB0_131.out _) | exact HI0.out))
          (case side2 => repeat (first | (with_reducible first | exact HB.out | apply below_alloc | apply pw_below_drewN | apply below_drew1 | refine below_set ?_ (IsS52.ge HI0.out) | refine below_set ?_ GE126.out | refine below_set ?_ GE131.out) | exact HB.out))
          rintro e w19 ⟨rfl, hi, hb, hk⟩
          refine ⟨_, rfl, ?_⟩
          have n0_ := Aside0.mk (KeepBut.blk hk (g' := gb126) (o := .cells #[.int .i64 0, .int .i64 0, .int .i64 0] 26 (0, 0)) (by (with_reducible repeat (first | refine blk_drewN ?_ _ | refine blk_drew ?_ | refine blk_alloc ?_ _)); exact BK126.out) NB126_0.out (by simp))
          have n1_ := Aside0.mk (KeepBut.blk hk (g' := gb131) (o := .cells #[.int .i64 (wrap64 (1 + t127)), .int .i64 (wrap64 (1 + t129)), .int .i64 x132002_1] 26 (0, 0)) (by (with_reducible repeat (first | refine blk_drewN ?_ _ | refine blk_drew ?_ | refine blk_alloc ?_ _)); exact BK131.out) NB131_0.out (by simp))
          have n2_ := Aside0.mk (KeepBut.trans (by repeat (first | (with_reducible first | exact HK.out | apply KeepBut.set_ | apply keep_drewN | apply keep_drew | apply keep_alloc | refine keep_far ?_ GW126.out _ | refine keep_far ?_ GW131.out _) | exact HK.out)) hk (.inl rfl))
          have n3_ := Aside0.mk (hb)
          have n4_ := Aside0.mk (hi)
          clear BK126
          clear BK131
          clear HK
          clear HB
          clear HI0
          have BK126 := n0_
          have BK131 := n1_
          have HK := n2_
          have HB := n3_
          have HI0 := n4_
          clear n0_ n1_ n2_ n3_ n4_
          (try clear hb)
          (try clear hb2)
          (try clear hk)
          (try clear hi)
          refine hK.out _ _ ⟨(blk_cell BK131.out 0).trans rfl, (blk_cell BK131.out 1).trans rfl, (blk_cell BK131.out 2).trans rfl⟩ (fun hHeld => ?_)
          clear hK K
          refine norm_ (a' := ?_) ?_ ?_
          rotate_left
          · show Act.put _ (some 28) _ = _
            simp only [Act.put, List.setIfInBounds_toArray, List.set_cons_zero, List.set_cons_succ, i64_w, i32_w]
            rfl
          refine pure_ (i := 9) (N := some 29) (v := ?_) (a' := ?_) #[true, true, true, true, true, true, true, true, true, true, false, false, false] rfl rfl (any_of HT_.out (by kernel_rfl)) (fun _ _ _ h => h) (Or.inl ⟨by rfl, ?_⟩) ?_ ?_
          rotate_left
          · intro w'
            go_simp
            with_reducible rfl
          rotate_left
          · simp only [Act.put, List.setIfInBounds_toArray, List.set_cons_zero, List.set_cons_succ, i64_w, i32_w]
            rfl
          refine pure_ (i := 10) (N := some 30) (v := ?_) (a' := ?_) #[true, true, true, true, true, true, true, true, true, true, true, false, false] rfl rfl (any_of HT_.out (by kernel_rfl)) (fun _ _ _ h => h) (Or.inl ⟨by rfl, ?_⟩) ?_ ?_
          rotate_left
          · intro w'
            go_simp
            with_reducible rfl
          rotate_left
          · simp only [Act.put, List.setIfInBounds_toArray, List.set_cons_zero, List.set_cons_succ, i64_w, i32_w]
            rfl
          refine pure_ (i := 11) (N := some 31) (v := ?_) (a' := ?_) #[true, true, true, true, true, true, true, true, true, true, true, true, false] rfl rfl (any_of HT_.out (by kernel_rfl)) (fun _ _ _ h => h) (Or.inl ⟨by rfl, ?_⟩) ?_ ?_
          rotate_left
          · intro w'
            go_simp
            with_reducible rfl
          rotate_left
          · simp only [Act.put, List.setIfInBounds_toArray, List.set_cons_zero, List.set_cons_succ, i64_w, i32_w]
            rfl
          refine last_ (i := 12) (N := none) #[true, true, true, true, true, true, true, true, true, true, true, true, true] rfl rfl (one_of HT_.out (by kernel_rfl)) (by decide) (fun K hK => ?_)
          have hs20 : w19.cell? ⟨gb131, 2, none⟩ = some (.int .i64 x132002_1) := (blk_cell BK131.out 2).trans rfl
          have hfs20 := blk_frozen BK131.out 2
          have hns20_0 := NB126_131.out
          have hms20_0 := NB131_126.out
          refine skip_ (w1 := ?_) (by rfl) rfl ?_ ?_
          rotate_left
          · go_simp
            rfl
          refine hK.out _ _ ?_
          clear hK K
          refine done_ (done_of HT_.out (by kernel_rfl)) ?_
          try go_wp2
          go_roundg k1
          case measure => have := HK1.out; omega
          case rel => exact ⟨(wrap64 (x6_1 - 1)), (t135), (Go.bits .or .i64 x132002_1 (ji17)), (by first | rfl | (simp; done) | (simp [*]; done)), H', ⟨by have := HK1.out; omega⟩, ⟨by (with_reducible repeat (first | refine blk_drewN ?_ _ | refine blk_drew ?_ | refine blk_alloc ?_ _)); refine blk_far ?_ NB126_131.out _; (with_reducible repeat (first | refine blk_drewN ?_ _ | refine blk_drew ?_ | refine blk_alloc ?_ _)); exact BK126.out⟩, ⟨by (with_reducible repeat (first | refine blk_drewN ?_ _ | refine blk_drew ?_ | refine blk_alloc ?_ _)); refine blk_put (cs := #[.int .i64 (wrap64 (1 + t127)), .int .i64 (wrap64 (1 + t129)), .int .i64 x132002_1]) ?_ 2 _ rfl; (with_reducible repeat (first | refine blk_drewN ?_ _ | refine blk_drew ?_ | refine blk_alloc ?_ _)); exact BK131.out⟩, ⟨by repeat (first | (with_reducible first | exact HI0.out | apply IsS52.alloc | apply IsS52.drewN | apply IsS52.drew | apply IsS52.set_1 | refine IsS52.far ?_ NB0_126.out _ | refine IsS52.far ?_ NB0_131.out _) | exact HI0.out)⟩, ⟨by repeat (first | (with_reducible first | exact HK.out | apply KeepBut.set_ | apply keep_drewN | apply keep_drew | apply keep_alloc | refine keep_far ?_ GW126.out _ | refine keep_far ?_ GW131.out _) | exact HK.out)⟩, ⟨by repeat (first | (with_reducible first | exact HB.out | apply below_alloc | apply pw_below_drewN | apply below_drew1 | refine below_set ?_ (IsS52.ge HI0.out) | refine below_set ?_ GE126.out | refine below_set ?_ GE131.out) | exact HB.out)⟩⟩
        · rw [if_neg c16] at H
          exact absurd H (by simp)
      · rw [if_neg c14] at H
        have c14b0 : decide (0 < x6_1) = false := decide_eq_false c14
        clear c14
        replace H := Option.bind_eq_some_iff.mp H
        obtain ⟨⟨t136, t137⟩, A210, H⟩ := H
        replace H : (if t136 = true then ((spec_l20Rd_pick.f k1 s0_0 t137 3).bind fun bt138 => (if bt138.1 = 0 then ((some (([0, 25, 7] : List Int) : List Int)).bind fun y140 => ((spec_l20Rd_pick.f k1 s0_0 bt138.2 3).bind fun bt143 => (if 0 ≤ bt143.1 then (if bt143.1 < (y140.length : Int) then (some (rd y140 bt143.1, (wrap64 (1 + t129)), x132002_1, bt143.2)) else (none)) else (none)))) else (if bt138.1 = 1 then ((some (([0, 25] : List Int) : List Int)).bind fun y146 => ((spec_l20Rd_pick.f k1 s0_0 bt138.2 2).bind fun bt149 => (if 0 ≤ bt149.1 then (if bt149.1 < (y146.length : Int) then (some ((wrap64 (1 + t127)), rd y146 bt149.1, x132002_1, bt149.2)) else (none)) else (none)))) else (if 0 ≤ (wrap64 ((wrap64 (1 + t127)) * (wrap64 (1 + t129)))) then ((some (([(-1), shl .i64 1 (wrap64 ((wrap64 (1 + t127)) * (wrap64 (1 + t129))))] : List Int) : List Int)).bind fun y152 => ((spec_l20Rd_pick.f k1 s0_0 bt138.2 2).bind fun bt155 => (if 0 ≤ bt155.1 then (if bt155.1 < (y152.length : Int) then (some ((wrap64 (1 + t127)), (wrap64 (1 + t129)), rd y152 bt155.1, bt155.2)) else (none)) else (none)))) else (none))))) else (some ((wrap64 (1 + t127)), (wrap64 (1 + t129)), x132002_1, t137))) = some (r1, r2, r3, r4) := H
        have A21 := Aside0.mk A210
        clear A210
        by_cases c22 : t136 = true
        · subst c22
          have H1 : ((spec_l20Rd_pick.f k1 s0_0 t137 3).bind fun bt138 => (if bt138.1 = 0 then ((some (([0, 25, 7] : List Int) : List Int)).bind fun y140 => ((spec_l20Rd_pick.f k1 s0_0 bt138.2 3).bind fun bt143 => (if 0 ≤ bt143.1 then (if bt143.1 < (y140.length : Int) then (some (rd y140 bt143.1, (wrap64 (1 + t129)), x132002_1, bt143.2)) else (none)) else (none)))) else (if bt138.1 = 1 then ((some (([0, 25] : List Int) : List Int)).bind fun y146 => ((spec_l20Rd_pick.f k1 s0_0 bt138.2 2).bind fun bt149 => (if 0 ≤ bt149.1 then (if bt149.1 < (y146.length : Int) then (some ((wrap64 (1 + t127)), rd y146 bt149.1, x132002_1, bt149.2)) else (none)) else (none)))) else (if 0 ≤ (wrap64 ((wrap64 (1 + t127)) * (wrap64 (1 + t129)))) then ((some (([(-1), shl .i64 1 (wrap64 ((wrap64 (1 + t127)) * (wrap64 (1 + t129))))] : List Int) : List Int)).bind fun y152 => ((spec_l20Rd_pick.f k1 s0_0 bt138.2 2).bind fun bt155 => (if 0 ≤ bt155.1 then (if bt155.1 < (y152.length : Int) then (some ((wrap64 (1 + t127)), (wrap64 (1 + t129)), rd y152 bt155.1, bt155.2)) else (none)) else (none)))) else (none))))) = some (r1, r2, r3, r4) := by rw [if_pos rfl] at H; exact H
          clear H
          have H := H1
          clear H1
          replace H := Option.bind_eq_some_iff.mp H
          obtain ⟨⟨t138, t139⟩, A230, H⟩ := H
          replace H : (if t138 = 0 then ((some (([0, 25, 7] : List Int) : List Int)).bind fun y140 => ((spec_l20Rd_pick.f k1 s0_0 t139 3).bind fun bt143 => (if 0 ≤ bt143.1 then (if bt143.1 < (y140.length : Int) then (some (rd y140 bt143.1, (wrap64 (1 + t129)), x132002_1, bt143.2)) else (none)) else (none)))) else (if t138 = 1 then ((some (([0, 25] : List Int) : List Int)).bind fun y146 => ((spec_l20Rd_pick.f k1 s0_0 t139 2).bind fun bt149 => (if 0 ≤ bt149.1 then (if bt149.1 < (y146.length : Int) then (some ((wrap64 (1 + t127)), rd y146 bt149.1, x132002_1, bt149.2)) else (none)) else (none)))) else (if 0 ≤ (wrap64 ((wrap64 (1 + t127)) * (wrap64 (1 + t129)))) then ((some (([(-1), shl .i64 1 (wrap64 ((wrap64 (1 + t127)) * (wrap64 (1 + t129))))] : List Int) : List Int)).bind fun y152 => ((spec_l20Rd_pick.f k1 s0_0 t139 2).bind fun bt155 => (if 0 ≤ bt155.1 then (if bt155.1 < (y152.length : Int) then (some ((wrap64 (1 + t127)), (wrap64 (1 + t129)), rd y152 bt155.1, bt155.2)) else (none)) else (none)))) else (none)))) = some (r1, r2, r3, r4) := H
          have A23 := Aside0.mk A230
          clear A230
          by_cases c24 : t138 = 0
          · rw [if_pos c24] at H
            have c24b0 : (t138 == 0) = true := beq_iff_eq.mpr c24
            have c24b1 : (t138 != 0) = false := bne_eq_false_iff_eq.mpr c24
            clear c24
            obtain ⟨y140, hy140⟩ : ∃ y_ : List Int, y_ = (([0, 25, 7] : List Int)) := ⟨_, rfl⟩
            replace H : ((spec_l20Rd_pick.f k1 s0_0 t139 3).bind fun bt143 => (if 0 ≤ bt143.1 then (if bt143.1 < (y140.length : Int) then (some (rd y140 bt143.1, (wrap64 (1 + t129)), x132002_1, bt143.2)) else (none)) else (none))) = some (r1, r2, r3, r4) := by first | (rw [hy140]; with_reducible exact H) | (have H2_ := (Option.bind_some _ _).symm.trans H; rw [hy140]; with_reducible exact H2_) | (have H2_ := (Option.bind_some _ _).symm.trans H; with_reducible exact H2_) | with_reducible exact H | (rw [hy140]; exact H) | exact H
            have Ny140 := Aside0.mk hy140
            clear hy140
            replace H := Option.bind_eq_some_iff.mp H
            obtain ⟨⟨t143, t144⟩, A250, H⟩ := H
            replace H : (if 0 ≤ t143 then (if t143 < (y140.length : Int) then (some (rd y140 t143, (wrap64 (1 + t129)), x132002_1, t144)) else (none)) else (none)) = some (r1, r2, r3, r4) := H
            have A25 := Aside0.mk A250
            clear A250
            by_cases c26 : 0 ≤ t143
            · rw [if_pos c26] at H
              have c26b0 : decide (0 ≤ t143) = true := decide_eq_true c26
              clear c26
              by_cases c27 : t143 < (y140.length : Int)
              · rw [if_pos c27] at H
                have c27b0 : decide (t143 < (y140.length : Int)) = true := decide_eq_true c27
                clear c27
                simp only [Option.some.injEq, Prod.mk.injEq] at H
                obtain ⟨rfl, rfl, rfl, rfl⟩ := H
                go_wp2_with (first | ((with_reducible refine gate_callee (f := 26) rfl ?_); refine goesL_ (some 34) rfl rfl Try.func26 (by kernel_rfl) rfl #[.pointer (some ⟨g, 0, none⟩), .int .i64 a1] rfl (by (try simp only [List.map_toArray, List.map_cons, List.map_nil]); first | done | rfl | (simp only [List.length_drop, List.length_take]; rfl)) ?_; (with_reducible refine (spec_l20Rd_odd.calls k1 g s0_0 x1001_1 a1 true t137 w0 _ ?side1 ?side2 A21.out).mono ?_); (case side1 => repeat (first | (with_reducible first | exact HI0.out | apply IsS52.alloc | apply IsS52.drewN | apply IsS52.drew | apply IsS52.set_1 | refine IsS52.far ?_ NB0_126.out _ | refine IsS52.far ?_ NB0_131.out _) | exact HI0.out)); (case side2 => repeat (first | (with_reducible first | exact HB.out | apply below_alloc | apply pw_below_drewN | apply below_drew1 | refine below_set ?_ (IsS52.ge HI0.out) | refine below_set ?_ GE126.out | refine below_set ?_ GE131.out) | exact HB.out)); rintro e w28 ⟨rfl, hi, hb, hk⟩; refine ⟨_, rfl, ?_⟩; have n0_ := Aside0.mk (KeepBut.blk hk (g' := gb126) (o := .cells #[.int .i64 0, .int .i64 0, .int .i64 0] 26 (0, 0)) (by (with_reducible repeat (first | refine blk_drewN ?_ _ | refine blk_drew ?_ | refine blk_alloc ?_ _)); exact BK126.out) NB126_0.out (by simp)); have n1_ := Aside0.mk (KeepBut.blk hk (g' := gb131) (o := .cells #[.int .i64 (wrap64 (1 + t127)), .int .i64 (wrap64 (1 + t129)), .int .i64 x132002_1] 26 (0, 0)) (by (with_reducible repeat (first | refine blk_drewN ?_ _ | refine blk_drew ?_ | refine blk_alloc ?_ _)); exact BK131.out) NB131_0.out (by simp)); have n2_ := Aside0.mk (KeepBut.trans (by repeat (first | (with_reducible first | exact HK.out | apply KeepBut.set_ | apply keep_drewN | apply keep_drew | apply keep_alloc | refine keep_far ?_ GW126.out _ | refine keep_far ?_ GW131.out _) | exact HK.out)) hk (.inl rfl)); have n3_ := Aside0.mk (hb); have n4_ := Aside0.mk (hi); clear BK126; clear BK131; clear HK; clear HB; clear HI0; have BK126 := n0_; have BK131 := n1_; have HK := n2_; have HB := n3_; have HI0 := n4_; clear n0_ n1_ n2_ n3_ n4_; (try clear hb); (try clear hb2); (try clear hk); (try clear hi)) | ((with_reducible refine gate_callee (f := 25) rfl ?_); refine goesL_ (some 36) rfl rfl Try.func25 (by kernel_rfl) rfl #[.pointer (some ⟨g, 0, none⟩), .int .i64 3] rfl (by (try simp only [List.map_toArray, List.map_cons, List.map_nil]); first | done | rfl | (simp only [List.length_drop, List.length_take]; rfl)) ?_; (with_reducible refine (spec_l20Rd_pick.calls k1 g s0_0 t137 3 t138 t139 w0 _ ?side1 ?side2 A23.out).mono ?_); (case side1 => repeat (first | (with_reducible first | exact HI0.out | apply IsS52.alloc | apply IsS52.drewN | apply IsS52.drew | apply IsS52.set_1 | refine IsS52.far ?_ NB0_126.out _ | refine IsS52.far ?_ NB0_131.out _) | exact HI0.out)); (case side2 => repeat (first | (with_reducible first | exact HB.out | apply below_alloc | apply pw_below_drewN | apply below_drew1 | refine below_set ?_ (IsS52.ge HI0.out) | refine below_set ?_ GE126.out | refine below_set ?_ GE131.out) | exact HB.out)); rintro e w29 ⟨rfl, hi, hb, hk⟩; refine ⟨_, rfl, ?_⟩; have n0_ := Aside0.mk (KeepBut.blk hk (g' := gb126) (o := .cells #[.int .i64 0, .int .i64 0, .int .i64 0] 26 (0, 0)) (by (with_reducible repeat (first | refine blk_drewN ?_ _ | refine blk_drew ?_ | refine blk_alloc ?_ _)); exact BK126.out) NB126_0.out (by simp)); have n1_ := Aside0.mk (KeepBut.blk hk (g' := gb131) (o := .cells #[.int .i64 (wrap64 (1 + t127)), .int .i64 (wrap64 (1 + t129)), .int .i64 x132002_1] 26 (0, 0)) (by (with_reducible repeat (first | refine blk_drewN ?_ _ | refine blk_drew ?_ | refine blk_alloc ?_ _)); exact BK131.out) NB131_0.out (by simp)); have n2_ := Aside0.mk (KeepBut.trans (by repeat (first | (with_reducible first | exact HK.out | apply KeepBut.set_ | apply keep_drewN | apply keep_drew | apply keep_alloc | refine keep_far ?_ GW126.out _ | refine keep_far ?_ GW131.out _) | exact HK.out)) hk (.inl rfl)); have n3_ := Aside0.mk (hb); have n4_ := Aside0.mk (hi); clear BK126; clear BK131; clear HK; clear HB; clear HI0; have BK126 := n0_; have BK131 := n1_; have HK := n2_; have HB := n3_; have HI0 := n4_; clear n0_ n1_ n2_ n3_ n4_; (try clear hb); (try clear hb2); (try clear hk); (try clear hi)) | ((with_reducible refine gate_dst (N := 51) rfl ?_); refine Kd.R_lit (Kd.int .i64) _ 3 ?hg (N := 51) ?hd (xs := ([0, 25, 7] : List Int)) (inner := [.int .i64 0, .int .i64 25, .int .i64 7]) (ok := fun _ => True) (okp := fun _ => True) ?hr ?hp (fun _ hk => hk) trivial (Below.refl _ _) (Nat.le_refl _) (by simp) ?_; (case hd => rfl); (case hg => rfl); (case hr => first | (go_simp; done) | (go_simp; rfl)); (case hp => exact (Reps.one (show Kd.M (Kd.int .i64) _ _ _ 0 [.int .i64 0] from rfl) (Reps.one (show Kd.M (Kd.int .i64) _ _ _ 25 [.int .i64 25] from rfl) (Reps.one (show Kd.M (Kd.int .i64) _ _ _ 7 [.int .i64 7] from rfl) (Reps.none _ _))))); intro v141 w30 ho31 hb hg_ hnew_; clear hg_ hnew_; (first | rw [← Ny140.out] at ho31 | (simp only [Int.reduceToNat] at ho31; rw [← Ny140.out] at ho31)); have n0_ := Aside0.mk (Kd.R_lower ho31 (keep_size (w := w) (g := g) (row := none) (by repeat (first | (with_reducible first | exact HK.out | apply KeepBut.set_ | apply keep_drewN | apply keep_drew | apply keep_alloc | refine keep_far ?_ GW126.out _ | refine keep_far ?_ GW131.out _) | exact HK.out)))); have n1_ := Aside0.mk (blk_below (g := gb126) (o := .cells #[.int .i64 0, .int .i64 0, .int .i64 0] 26 (0, 0)) (by (with_reducible repeat (first | refine blk_drewN ?_ _ | refine blk_drew ?_ | refine blk_alloc ?_ _)); exact BK126.out) hb); have n2_ := Aside0.mk (blk_below (g := gb131) (o := .cells #[.int .i64 (wrap64 (1 + t127)), .int .i64 (wrap64 (1 + t129)), .int .i64 x132002_1] 26 (0, 0)) (by (with_reducible repeat (first | refine blk_drewN ?_ _ | refine blk_drew ?_ | refine blk_alloc ?_ _)); exact BK131.out) hb); have n3_ := Aside0.mk (IsS52.below (by repeat (first | (with_reducible first | exact HI0.out | apply IsS52.alloc | apply IsS52.drewN | apply IsS52.drew | apply IsS52.set_1 | refine IsS52.far ?_ NB0_126.out _ | refine IsS52.far ?_ NB0_131.out _) | exact HI0.out)) hb); have n4_ := Aside0.mk (KeepBut.trans (by repeat (first | (with_reducible first | exact HK.out | apply KeepBut.set_ | apply keep_drewN | apply keep_drew | apply keep_alloc | refine keep_far ?_ GW126.out _ | refine keep_far ?_ GW131.out _) | exact HK.out)) (KeepBut.of_below hb g none) (.inl rfl)); have n5_ := Aside0.mk (below_step (by repeat (first | (with_reducible first | exact HB.out | apply below_alloc | apply pw_below_drewN | apply below_drew1 | refine below_set ?_ (IsS52.ge HI0.out) | refine below_set ?_ GE126.out | refine below_set ?_ GE131.out) | exact HB.out)) hb); clear BK126; clear BK131; clear HI0; clear HK; clear HB; have HO142 := n0_; have BK126 := n1_; have BK131 := n2_; have HI0 := n3_; have HK := n4_; have HB := n5_; clear n0_ n1_ n2_ n3_ n4_ n5_; clear hb ho31) | ((with_reducible refine gate_callee (f := 25) rfl ?_); refine goesL_ (some 53) rfl rfl Try.func25 (by kernel_rfl) rfl #[.pointer (some ⟨g, 0, none⟩), .int .i64 3] rfl (by (try simp only [List.map_toArray, List.map_cons, List.map_nil]); first | done | rfl | (simp only [List.length_drop, List.length_take]; rfl)) ?_; (with_reducible refine (spec_l20Rd_pick.calls k1 g s0_0 t139 3 t143 t144 w0 _ ?side1 ?side2 A25.out).mono ?_); (case side1 => repeat (first | (with_reducible first | exact HI0.out | apply IsS52.alloc | apply IsS52.drewN | apply IsS52.drew | apply IsS52.set_1 | refine IsS52.far ?_ NB0_126.out _ | refine IsS52.far ?_ NB0_131.out _) | exact HI0.out)); (case side2 => repeat (first | (with_reducible first | exact HB.out | apply below_alloc | apply pw_below_drewN | apply below_drew1 | refine below_set ?_ (IsS52.ge HI0.out) | refine below_set ?_ GE126.out | refine below_set ?_ GE131.out) | exact HB.out)); rintro e w32 ⟨rfl, hi, hb, hk⟩; refine ⟨_, rfl, ?_⟩; have n0_ := Aside0.mk (KeepBut.blk hk (g' := gb126) (o := .cells #[.int .i64 0, .int .i64 0, .int .i64 0] 26 (0, 0)) (by (with_reducible repeat (first | refine blk_drewN ?_ _ | refine blk_drew ?_ | refine blk_alloc ?_ _)); exact BK126.out) NB126_0.out (by simp)); have n1_ := Aside0.mk (KeepBut.blk hk (g' := gb131) (o := .cells #[.int .i64 (wrap64 (1 + t127)), .int .i64 (wrap64 (1 + t129)), .int .i64 x132002_1] 26 (0, 0)) (by (with_reducible repeat (first | refine blk_drewN ?_ _ | refine blk_drew ?_ | refine blk_alloc ?_ _)); exact BK131.out) NB131_0.out (by simp)); have n2_ := Aside0.mk (Kd.R_mono (Kd.R_keep (IsS52.apart (show IsS52 w0 _ g s0_0 t139 from by repeat (first | (with_reducible first | exact HI0.out | apply IsS52.alloc | apply IsS52.drewN | apply IsS52.drew | apply IsS52.set_1 | refine IsS52.far ?_ NB0_126.out _ | refine IsS52.far ?_ NB0_131.out _) | exact HI0.out)) (by (with_reducible repeat (first | apply Kd.R_alloc | apply Kd.R_drewN | apply Kd.R_drew)); exact HO142.out) (by decide)) hk (fun _ h => h.2)) (fun _ h => h.1)); have n3_ := Aside0.mk (KeepBut.trans (by repeat (first | (with_reducible first | exact HK.out | apply KeepBut.set_ | apply keep_drewN | apply keep_drew | apply keep_alloc | refine keep_far ?_ GW126.out _ | refine keep_far ?_ GW131.out _) | exact HK.out)) hk (.inl rfl)); have n4_ := Aside0.mk (hb); have n5_ := Aside0.mk (hi); clear BK126; clear BK131; clear HO142; clear HK; clear HB; clear HI0; have BK126 := n0_; have BK131 := n1_; have HO142 := n2_; have HK := n3_; have HB := n4_; have HI0 := n5_; clear n0_ n1_ n2_ n3_ n4_ n5_; (try clear hb); (try clear hb2); (try clear hk); (try clear hi); obtain ⟨Ao33, co33, eo33⟩ := Kd.R_slice HO142.out; subst eo33; have p145 : 0 ≤ (t143 : Int) := of_decide_eq_true (by first | (with_reducible assumption) | assumption); have q145 : t143 < (y140.length : Int) := of_decide_eq_true (by first | (with_reducible assumption) | assumption); obtain ⟨ad145, e145, hx145_0⟩ := Kd.at_int (Kd.R_reads' HO142.out).2.2 t143 p145 q145; cases e145; replace p145 := eq_true p145; replace q145 := eq_true q145; have hnb34 := NB131_126.out; have hnc34 := NB126_131.out; have hnb35 := NB131_0.out; have hnc35 := NB0_131.out; have hcz36_0 : w32.cell? ⟨gb131, 0, none⟩ = some (.int .i64 (wrap64 (1 + t127))) := (blk_cell BK131.out 0).trans rfl; have hcz36_1 : w32.cell? ⟨gb131, 1, none⟩ = some (.int .i64 (wrap64 (1 + t129))) := (blk_cell BK131.out 1).trans rfl; have hcz36_2 : w32.cell? ⟨gb131, 2, none⟩ = some (.int .i64 x132002_1) := (blk_cell BK131.out 2).trans rfl; have hfz36_0 := blk_frozen BK131.out 0; have hfz36_1 := blk_frozen BK131.out 1; have hfz36_2 := blk_frozen BK131.out 2; have hnb37 := NB126_0.out; have hnc37 := NB0_126.out; have hcz38_0 : w32.cell? ⟨gb126, 0, none⟩ = some (.int .i64 0) := (blk_cell BK126.out 0).trans rfl; have hcz38_1 : w32.cell? ⟨gb126, 1, none⟩ = some (.int .i64 0) := (blk_cell BK126.out 1).trans rfl; have hcz38_2 : w32.cell? ⟨gb126, 2, none⟩ = some (.int .i64 0) := (blk_cell BK126.out 2).trans rfl; have hfz38_0 := blk_frozen BK126.out 0; have hfz38_1 := blk_frozen BK126.out 1; have hfz38_2 := blk_frozen BK126.out 2))
                refine bodyPost_ret (results_cell_row rfl _ _ gb126 26 #[.int .i64 (rd y140 t143), .int .i64 (wrap64 (1 + t129)), .int .i64 x132002_1] (0, 0) _ rfl (by (with_reducible repeat (first | refine blk_drewN ?_ _ | refine blk_drew ?_ | refine blk_alloc ?_ _)); refine blk_put (cs := #[.int .i64 (rd y140 t143), .int .i64 (wrap64 (1 + t129)), .int .i64 0]) ?_ 2 _ rfl; (with_reducible repeat (first | refine blk_drewN ?_ _ | refine blk_drew ?_ | refine blk_alloc ?_ _)); refine blk_put (cs := #[.int .i64 (rd y140 t143), .int .i64 0, .int .i64 0]) ?_ 1 _ rfl; (with_reducible repeat (first | refine blk_drewN ?_ _ | refine blk_drew ?_ | refine blk_alloc ?_ _)); refine blk_put (cs := #[.int .i64 0, .int .i64 0, .int .i64 0]) ?_ 0 _ rfl; (with_reducible repeat (first | refine blk_drewN ?_ _ | refine blk_drew ?_ | refine blk_alloc ?_ _)); refine blk_far ?_ NB126_131.out _; (with_reducible repeat (first | refine blk_drewN ?_ _ | refine blk_drew ?_ | refine blk_alloc ?_ _)); exact BK126.out) Try.underlying26 rfl (by kernel_rfl)) rfl ?_
                exact ⟨by first | rfl | (simp [errW_none, errW_some] <;> rfl) | (simp [*, errW_none, errW_some] <;> rfl), by repeat (first | (with_reducible first | exact HI0.out | apply IsS52.alloc | apply IsS52.drewN | apply IsS52.drew | apply IsS52.set_1 | refine IsS52.far ?_ NB0_126.out _ | refine IsS52.far ?_ NB0_131.out _) | exact HI0.out), by repeat (first | (with_reducible first | exact HB.out | apply below_alloc | apply pw_below_drewN | apply below_drew1 | refine below_set ?_ (IsS52.ge HI0.out) | refine below_set ?_ GE126.out | refine below_set ?_ GE131.out) | exact HB.out), by repeat (first | (with_reducible first | exact HK.out | apply KeepBut.set_ | apply keep_drewN | apply keep_drew | apply keep_alloc | refine keep_far ?_ GW126.out _ | refine keep_far ?_ GW131.out _) | exact HK.out)⟩
              · rw [if_neg c27] at H
                exact absurd H (by simp)
            · rw [if_neg c26] at H
              exact absurd H (by simp)
          · rw [if_neg c24] at H
            have c24b0 : (t138 == 0) = false := beq_eq_false_iff_ne.mpr c24
            have c24b1 : (t138 != 0) = true := bne_iff_ne.mpr c24
            by_cases c39 : t138 = 1
            · rw [if_pos c39] at H
              have c39b0 : (t138 == 1) = true := beq_iff_eq.mpr c39
              have c39b1 : (t138 != 1) = false := bne_eq_false_iff_eq.mpr c39
              clear c39
              obtain ⟨y146, hy146⟩ : ∃ y_ : List Int, y_ = (([0, 25] : List Int)) := ⟨_, rfl⟩
              replace H : ((spec_l20Rd_pick.f k1 s0_0 t139 2).bind fun bt149 => (if 0 ≤ bt149.1 then (if bt149.1 < (y146.length : Int) then (some ((wrap64 (1 + t127)), rd y146 bt149.1, x132002_1, bt149.2)) else (none)) else (none))) = some (r1, r2, r3, r4) := by first | (rw [hy146]; with_reducible exact H) | (have H2_ := (Option.bind_some _ _).symm.trans H; rw [hy146]; with_reducible exact H2_) | (have H2_ := (Option.bind_some _ _).symm.trans H; with_reducible exact H2_) | with_reducible exact H | (rw [hy146]; exact H) | exact H
              have Ny146 := Aside0.mk hy146
              clear hy146
              replace H := Option.bind_eq_some_iff.mp H
              obtain ⟨⟨t149, t150⟩, A400, H⟩ := H
              replace H : (if 0 ≤ t149 then (if t149 < (y146.length : Int) then (some ((wrap64 (1 + t127)), rd y146 t149, x132002_1, t150)) else (none)) else (none)) = some (r1, r2, r3, r4) := H
              have A40 := Aside0.mk A400
              clear A400
              by_cases c41 : 0 ≤ t149
              · rw [if_pos c41] at H
                have c41b0 : decide (0 ≤ t149) = true := decide_eq_true c41
                clear c41
                by_cases c42 : t149 < (y146.length : Int)
                · rw [if_pos c42] at H
                  have c42b0 : decide (t149 < (y146.length : Int)) = true := decide_eq_true c42
                  clear c42
                  simp only [Option.some.injEq, Prod.mk.injEq] at H
                  obtain ⟨rfl, rfl, rfl, rfl⟩ := H
                  go_wp2_with (first | ((with_reducible refine gate_callee (f := 26) rfl ?_); refine goesL_ (some 34) rfl rfl Try.func26 (by kernel_rfl) rfl #[.pointer (some ⟨g, 0, none⟩), .int .i64 a1] rfl (by (try simp only [List.map_toArray, List.map_cons, List.map_nil]); first | done | rfl | (simp only [List.length_drop, List.length_take]; rfl)) ?_; (with_reducible refine (spec_l20Rd_odd.calls k1 g s0_0 x1001_1 a1 true t137 w0 _ ?side1 ?side2 A21.out).mono ?_); (case side1 => repeat (first | (with_reducible first | exact HI0.out | apply IsS52.alloc | apply IsS52.drewN | apply IsS52.drew | apply IsS52.set_1 | refine IsS52.far ?_ NB0_126.out _ | refine IsS52.far ?_ NB0_131.out _) | exact HI0.out)); (case side2 => repeat (first | (with_reducible first | exact HB.out | apply below_alloc | apply pw_below_drewN | apply below_drew1 | refine below_set ?_ (IsS52.ge HI0.out) | refine below_set ?_ GE126.out | refine below_set ?_ GE131.out) | exact HB.out)); rintro e w43 ⟨rfl, hi, hb, hk⟩; refine ⟨_, rfl, ?_⟩; have n0_ := Aside0.mk (KeepBut.blk hk (g' := gb126) (o := .cells #[.int .i64 0, .int .i64 0, .int .i64 0] 26 (0, 0)) (by (with_reducible repeat (first | refine blk_drewN ?_ _ | refine blk_drew ?_ | refine blk_alloc ?_ _)); exact BK126.out) NB126_0.out (by simp)); have n1_ := Aside0.mk (KeepBut.blk hk (g' := gb131) (o := .cells #[.int .i64 (wrap64 (1 + t127)), .int .i64 (wrap64 (1 + t129)), .int .i64 x132002_1] 26 (0, 0)) (by (with_reducible repeat (first | refine blk_drewN ?_ _ | refine blk_drew ?_ | refine blk_alloc ?_ _)); exact BK131.out) NB131_0.out (by simp)); have n2_ := Aside0.mk (KeepBut.trans (by repeat (first | (with_reducible first | exact HK.out | apply KeepBut.set_ | apply keep_drewN | apply keep_drew | apply keep_alloc | refine keep_far ?_ GW126.out _ | refine keep_far ?_ GW131.out _) | exact HK.out)) hk (.inl rfl)); have n3_ := Aside0.mk (hb); have n4_ := Aside0.mk (hi); clear BK126; clear BK131; clear HK; clear HB; clear HI0; have BK126 := n0_; have BK131 := n1_; have HK := n2_; have HB := n3_; have HI0 := n4_; clear n0_ n1_ n2_ n3_ n4_; (try clear hb); (try clear hb2); (try clear hk); (try clear hi)) | ((with_reducible refine gate_callee (f := 25) rfl ?_); refine goesL_ (some 36) rfl rfl Try.func25 (by kernel_rfl) rfl #[.pointer (some ⟨g, 0, none⟩), .int .i64 3] rfl (by (try simp only [List.map_toArray, List.map_cons, List.map_nil]); first | done | rfl | (simp only [List.length_drop, List.length_take]; rfl)) ?_; (with_reducible refine (spec_l20Rd_pick.calls k1 g s0_0 t137 3 t138 t139 w0 _ ?side1 ?side2 A23.out).mono ?_); (case side1 => repeat (first | (with_reducible first | exact HI0.out | apply IsS52.alloc | apply IsS52.drewN | apply IsS52.drew | apply IsS52.set_1 | refine IsS52.far ?_ NB0_126.out _ | refine IsS52.far ?_ NB0_131.out _) | exact HI0.out)); (case side2 => repeat (first | (with_reducible first | exact HB.out | apply below_alloc | apply pw_below_drewN | apply below_drew1 | refine below_set ?_ (IsS52.ge HI0.out) | refine below_set ?_ GE126.out | refine below_set ?_ GE131.out) | exact HB.out)); rintro e w44 ⟨rfl, hi, hb, hk⟩; refine ⟨_, rfl, ?_⟩; have n0_ := Aside0.mk (KeepBut.blk hk (g' := gb126) (o := .cells #[.int .i64 0, .int .i64 0, .int .i64 0] 26 (0, 0)) (by (with_reducible repeat (first | refine blk_drewN ?_ _ | refine blk_drew ?_ | refine blk_alloc ?_ _)); exact BK126.out) NB126_0.out (by simp)); have n1_ := Aside0.mk (KeepBut.blk hk (g' := gb131) (o := .cells #[.int .i64 (wrap64 (1 + t127)), .int .i64 (wrap64 (1 + t129)), .int .i64 x132002_1] 26 (0, 0)) (by (with_reducible repeat (first | refine blk_drewN ?_ _ | refine blk_drew ?_ | refine blk_alloc ?_ _)); exact BK131.out) NB131_0.out (by simp)); have n2_ := Aside0.mk (KeepBut.trans (by repeat (first | (with_reducible first | exact HK.out | apply KeepBut.set_ | apply keep_drewN | apply keep_drew | apply keep_alloc | refine keep_far ?_ GW126.out _ | refine keep_far ?_ GW131.out _) | exact HK.out)) hk (.inl rfl)); have n3_ := Aside0.mk (hb); have n4_ := Aside0.mk (hi); clear BK126; clear BK131; clear HK; clear HB; clear HI0; have BK126 := n0_; have BK131 := n1_; have HK := n2_; have HB := n3_; have HI0 := n4_; clear n0_ n1_ n2_ n3_ n4_; (try clear hb); (try clear hb2); (try clear hk); (try clear hi)) | ((with_reducible refine gate_dst (N := 59) rfl ?_); refine Kd.R_lit (Kd.int .i64) _ 3 ?hg (N := 59) ?hd (xs := ([0, 25] : List Int)) (inner := [.int .i64 0, .int .i64 25]) (ok := fun _ => True) (okp := fun _ => True) ?hr ?hp (fun _ hk => hk) trivial (Below.refl _ _) (Nat.le_refl _) (by simp) ?_; (case hd => rfl); (case hg => rfl); (case hr => first | (go_simp; done) | (go_simp; rfl)); (case hp => exact (Reps.one (show Kd.M (Kd.int .i64) _ _ _ 0 [.int .i64 0] from rfl) (Reps.one (show Kd.M (Kd.int .i64) _ _ _ 25 [.int .i64 25] from rfl) (Reps.none _ _)))); intro v147 w45 ho46 hb hg_ hnew_; clear hg_ hnew_; (first | rw [← Ny146.out] at ho46 | (simp only [Int.reduceToNat] at ho46; rw [← Ny146.out] at ho46)); have n0_ := Aside0.mk (Kd.R_lower ho46 (keep_size (w := w) (g := g) (row := none) (by repeat (first | (with_reducible first | exact HK.out | apply KeepBut.set_ | apply keep_drewN | apply keep_drew | apply keep_alloc | refine keep_far ?_ GW126.out _ | refine keep_far ?_ GW131.out _) | exact HK.out)))); have n1_ := Aside0.mk (blk_below (g := gb126) (o := .cells #[.int .i64 0, .int .i64 0, .int .i64 0] 26 (0, 0)) (by (with_reducible repeat (first | refine blk_drewN ?_ _ | refine blk_drew ?_ | refine blk_alloc ?_ _)); exact BK126.out) hb); have n2_ := Aside0.mk (blk_below (g := gb131) (o := .cells #[.int .i64 (wrap64 (1 + t127)), .int .i64 (wrap64 (1 + t129)), .int .i64 x132002_1] 26 (0, 0)) (by (with_reducible repeat (first | refine blk_drewN ?_ _ | refine blk_drew ?_ | refine blk_alloc ?_ _)); exact BK131.out) hb); have n3_ := Aside0.mk (IsS52.below (by repeat (first | (with_reducible first | exact HI0.out | apply IsS52.alloc | apply IsS52.drewN | apply IsS52.drew | apply IsS52.set_1 | refine IsS52.far ?_ NB0_126.out _ | refine IsS52.far ?_ NB0_131.out _) | exact HI0.out)) hb); have n4_ := Aside0.mk (KeepBut.trans (by repeat (first | (with_reducible first | exact HK.out | apply KeepBut.set_ | apply keep_drewN | apply keep_drew | apply keep_alloc | refine keep_far ?_ GW126.out _ | refine keep_far ?_ GW131.out _) | exact HK.out)) (KeepBut.of_below hb g none) (.inl rfl)); have n5_ := Aside0.mk (below_step (by repeat (first | (with_reducible first | exact HB.out | apply below_alloc | apply pw_below_drewN | apply below_drew1 | refine below_set ?_ (IsS52.ge HI0.out) | refine below_set ?_ GE126.out | refine below_set ?_ GE131.out) | exact HB.out)) hb); clear BK126; clear BK131; clear HI0; clear HK; clear HB; have HO148 := n0_; have BK126 := n1_; have BK131 := n2_; have HI0 := n3_; have HK := n4_; have HB := n5_; clear n0_ n1_ n2_ n3_ n4_ n5_; clear hb ho46) | ((with_reducible refine gate_callee (f := 25) rfl ?_); refine goesL_ (some 61) rfl rfl Try.func25 (by kernel_rfl) rfl #[.pointer (some ⟨g, 0, none⟩), .int .i64 2] rfl (by (try simp only [List.map_toArray, List.map_cons, List.map_nil]); first | done | rfl | (simp only [List.length_drop, List.length_take]; rfl)) ?_; (with_reducible refine (spec_l20Rd_pick.calls k1 g s0_0 t139 2 t149 t150 w0 _ ?side1 ?side2 A40.out).mono ?_); (case side1 => repeat (first | (with_reducible first | exact HI0.out | apply IsS52.alloc | apply IsS52.drewN | apply IsS52.drew | apply IsS52.set_1 | refine IsS52.far ?_ NB0_126.out _ | refine IsS52.far ?_ NB0_131.out _) | exact HI0.out)); (case side2 => repeat (first | (with_reducible first | exact HB.out | apply below_alloc | apply pw_below_drewN | apply below_drew1 | refine below_set ?_ (IsS52.ge HI0.out) | refine below_set ?_ GE126.out | refine below_set ?_ GE131.out) | exact HB.out)); rintro e w47 ⟨rfl, hi, hb, hk⟩; refine ⟨_, rfl, ?_⟩; have n0_ := Aside0.mk (KeepBut.blk hk (g' := gb126) (o := .cells #[.int .i64 0, .int .i64 0, .int .i64 0] 26 (0, 0)) (by (with_reducible repeat (first | refine blk_drewN ?_ _ | refine blk_drew ?_ | refine blk_alloc ?_ _)); exact BK126.out) NB126_0.out (by simp)); have n1_ := Aside0.mk (KeepBut.blk hk (g' := gb131) (o := .cells #[.int .i64 (wrap64 (1 + t127)), .int .i64 (wrap64 (1 + t129)), .int .i64 x132002_1] 26 (0, 0)) (by (with_reducible repeat (first | refine blk_drewN ?_ _ | refine blk_drew ?_ | refine blk_alloc ?_ _)); exact BK131.out) NB131_0.out (by simp)); have n2_ := Aside0.mk (Kd.R_mono (Kd.R_keep (IsS52.apart (show IsS52 w0 _ g s0_0 t139 from by repeat (first | (with_reducible first | exact HI0.out | apply IsS52.alloc | apply IsS52.drewN | apply IsS52.drew | apply IsS52.set_1 | refine IsS52.far ?_ NB0_126.out _ | refine IsS52.far ?_ NB0_131.out _) | exact HI0.out)) (by (with_reducible repeat (first | apply Kd.R_alloc | apply Kd.R_drewN | apply Kd.R_drew)); exact HO148.out) (by decide)) hk (fun _ h => h.2)) (fun _ h => h.1)); have n3_ := Aside0.mk (KeepBut.trans (by repeat (first | (with_reducible first | exact HK.out | apply KeepBut.set_ | apply keep_drewN | apply keep_drew | apply keep_alloc | refine keep_far ?_ GW126.out _ | refine keep_far ?_ GW131.out _) | exact HK.out)) hk (.inl rfl)); have n4_ := Aside0.mk (hb); have n5_ := Aside0.mk (hi); clear BK126; clear BK131; clear HO148; clear HK; clear HB; clear HI0; have BK126 := n0_; have BK131 := n1_; have HO148 := n2_; have HK := n3_; have HB := n4_; have HI0 := n5_; clear n0_ n1_ n2_ n3_ n4_ n5_; (try clear hb); (try clear hb2); (try clear hk); (try clear hi); obtain ⟨Ao48, co48, eo48⟩ := Kd.R_slice HO148.out; subst eo48; have p151 : 0 ≤ (t149 : Int) := of_decide_eq_true (by first | (with_reducible assumption) | assumption); have q151 : t149 < (y146.length : Int) := of_decide_eq_true (by first | (with_reducible assumption) | assumption); obtain ⟨ad151, e151, hx151_0⟩ := Kd.at_int (Kd.R_reads' HO148.out).2.2 t149 p151 q151; cases e151; replace p151 := eq_true p151; replace q151 := eq_true q151; have hnb49 := NB131_126.out; have hnc49 := NB126_131.out; have hnb50 := NB131_0.out; have hnc50 := NB0_131.out; have hcz51_0 : w47.cell? ⟨gb131, 0, none⟩ = some (.int .i64 (wrap64 (1 + t127))) := (blk_cell BK131.out 0).trans rfl; have hcz51_1 : w47.cell? ⟨gb131, 1, none⟩ = some (.int .i64 (wrap64 (1 + t129))) := (blk_cell BK131.out 1).trans rfl; have hcz51_2 : w47.cell? ⟨gb131, 2, none⟩ = some (.int .i64 x132002_1) := (blk_cell BK131.out 2).trans rfl; have hfz51_0 := blk_frozen BK131.out 0; have hfz51_1 := blk_frozen BK131.out 1; have hfz51_2 := blk_frozen BK131.out 2; have hnb52 := NB126_0.out; have hnc52 := NB0_126.out; have hcz53_0 : w47.cell? ⟨gb126, 0, none⟩ = some (.int .i64 0) := (blk_cell BK126.out 0).trans rfl; have hcz53_1 : w47.cell? ⟨gb126, 1, none⟩ = some (.int .i64 0) := (blk_cell BK126.out 1).trans rfl; have hcz53_2 : w47.cell? ⟨gb126, 2, none⟩ = some (.int .i64 0) := (blk_cell BK126.out 2).trans rfl; have hfz53_0 := blk_frozen BK126.out 0; have hfz53_1 := blk_frozen BK126.out 1; have hfz53_2 := blk_frozen BK126.out 2))
                  refine bodyPost_ret (results_cell_row rfl _ _ gb126 26 #[.int .i64 (wrap64 (1 + t127)), .int .i64 (rd y146 t149), .int .i64 x132002_1] (0, 0) _ rfl (by (with_reducible repeat (first | refine blk_drewN ?_ _ | refine blk_drew ?_ | refine blk_alloc ?_ _)); refine blk_put (cs := #[.int .i64 (wrap64 (1 + t127)), .int .i64 (rd y146 t149), .int .i64 0]) ?_ 2 _ rfl; (with_reducible repeat (first | refine blk_drewN ?_ _ | refine blk_drew ?_ | refine blk_alloc ?_ _)); refine blk_put (cs := #[.int .i64 (wrap64 (1 + t127)), .int .i64 0, .int .i64 0]) ?_ 1 _ rfl; (with_reducible repeat (first | refine blk_drewN ?_ _ | refine blk_drew ?_ | refine blk_alloc ?_ _)); refine blk_put (cs := #[.int .i64 0, .int .i64 0, .int .i64 0]) ?_ 0 _ rfl; (with_reducible repeat (first | refine blk_drewN ?_ _ | refine blk_drew ?_ | refine blk_alloc ?_ _)); refine blk_far ?_ NB126_131.out _; (with_reducible repeat (first | refine blk_drewN ?_ _ | refine blk_drew ?_ | refine blk_alloc ?_ _)); exact BK126.out) Try.underlying26 rfl (by kernel_rfl)) rfl ?_
                  exact ⟨by first | rfl | (simp [errW_none, errW_some] <;> rfl) | (simp [*, errW_none, errW_some] <;> rfl), by repeat (first | (with_reducible first | exact HI0.out | apply IsS52.alloc | apply IsS52.drewN | apply IsS52.drew | apply IsS52.set_1 | refine IsS52.far ?_ NB0_126.out _ | refine IsS52.far ?_ NB0_131.out _) | exact HI0.out), by repeat (first | (with_reducible first | exact HB.out | apply below_alloc | apply pw_below_drewN | apply below_drew1 | refine below_set ?_ (IsS52.ge HI0.out) | refine below_set ?_ GE126.out | refine below_set ?_ GE131.out) | exact HB.out), by repeat (first | (with_reducible first | exact HK.out | apply KeepBut.set_ | apply keep_drewN | apply keep_drew | apply keep_alloc | refine keep_far ?_ GW126.out _ | refine keep_far ?_ GW131.out _) | exact HK.out)⟩
                · rw [if_neg c42] at H
                  exact absurd H (by simp)
              · rw [if_neg c41] at H
                exact absurd H (by simp)
            · rw [if_neg c39] at H
              have c39b0 : (t138 == 1) = false := beq_eq_false_iff_ne.mpr c39
              have c39b1 : (t138 != 1) = true := bne_iff_ne.mpr c39
              obtain ⟨ji54, hji54⟩ : ∃ j_ : Int, (wrap64 ((wrap64 (1 + t127)) * (wrap64 (1 + t129)))) = j_ := ⟨_, rfl⟩
              replace H : (if 0 ≤ (ji54) then ((some (([(-1), shl .i64 1 (ji54)] : List Int) : List Int)).bind fun y152 => ((spec_l20Rd_pick.f k1 s0_0 t139 2).bind fun bt155 => (if 0 ≤ bt155.1 then (if bt155.1 < (y152.length : Int) then (some ((wrap64 (1 + t127)), (wrap64 (1 + t129)), rd y152 bt155.1, bt155.2)) else (none)) else (none)))) else (none)) = some (r1, r2, r3, r4) := by first | (rw [hji54] at H; exact H) | (simp only [hji54] at H ⊢; exact H)
              (try rw [hji54] at A21)
              (try rw [hji54] at A23)
              have hji54w : (IntKind.i64.wrap ((wrap64 (1 + t127)) * (wrap64 (1 + t129)))) = ji54 := (i64_w _).trans hji54
              by_cases c55 : 0 ≤ (ji54)
              · rw [if_pos c55] at H
                have c55b0 := eq_true c55
                have c55b1 : decide (0 ≤ (ji54)) = true := decide_eq_true c55
                clear c55
                obtain ⟨ji56, hji56⟩ : ∃ j_ : Int, (shl .i64 1 (ji54)) = j_ := ⟨_, rfl⟩
                replace H : ((some (([(-1), ji56] : List Int) : List Int)).bind fun y152 => ((spec_l20Rd_pick.f k1 s0_0 t139 2).bind fun bt155 => (if 0 ≤ bt155.1 then (if bt155.1 < (y152.length : Int) then (some ((wrap64 (1 + t127)), (wrap64 (1 + t129)), rd y152 bt155.1, bt155.2)) else (none)) else (none)))) = some (r1, r2, r3, r4) := by first | (rw [hji56] at H; exact H) | (simp only [hji56] at H ⊢; exact H)
                (try rw [hji56] at A21)
                (try rw [hji56] at A23)
                have hji56_ : (IntKind.i64.wrap (1 * 2 ^ min (ji54).toNat 64)) = ji56 := hji56
                have hji56z : (ji54) ≤ 64 → (IntKind.i64.wrap (1 * 2 ^ (ji54).toNat)) = ji56 := shl_small hji56
                have hji56u : (IntKind.i64.wrap (2 ^ min (ji54).toNat 64)) = ji56 := by have h_ := hji56_; rw [Int.one_mul] at h_; exact h_
                have hji56v : (ji54) ≤ 64 → (IntKind.i64.wrap (2 ^ (ji54).toNat)) = ji56 := fun hle_ => by have h_ := hji56z hle_; rw [Int.one_mul] at h_; exact h_
                have hji56y : (wrap64 (1 * 2 ^ min (ji54).toNat 64)) = ji56 := (i64_w _).symm.trans hji56_
                have hji56x : (ji54) ≤ 64 → (wrap64 (1 * 2 ^ (ji54).toNat)) = ji56 := fun h_ => (i64_w _).symm.trans (hji56z h_)
                obtain ⟨y152, hy152⟩ : ∃ y_ : List Int, y_ = (([(-1), ji56] : List Int)) := ⟨_, rfl⟩
                replace H : ((spec_l20Rd_pick.f k1 s0_0 t139 2).bind fun bt155 => (if 0 ≤ bt155.1 then (if bt155.1 < (y152.length : Int) then (some ((wrap64 (1 + t127)), (wrap64 (1 + t129)), rd y152 bt155.1, bt155.2)) else (none)) else (none))) = some (r1, r2, r3, r4) := by first | (rw [hy152]; with_reducible exact H) | (have H2_ := (Option.bind_some _ _).symm.trans H; rw [hy152]; with_reducible exact H2_) | (have H2_ := (Option.bind_some _ _).symm.trans H; with_reducible exact H2_) | with_reducible exact H | (rw [hy152]; exact H) | exact H
                have Ny152 := Aside0.mk hy152
                clear hy152
                replace H := Option.bind_eq_some_iff.mp H
                obtain ⟨⟨t155, t156⟩, A570, H⟩ := H
                replace H : (if 0 ≤ t155 then (if t155 < (y152.length : Int) then (some ((wrap64 (1 + t127)), (wrap64 (1 + t129)), rd y152 t155, t156)) else (none)) else (none)) = some (r1, r2, r3, r4) := H
                have A57 := Aside0.mk A570
                clear A570
                by_cases c58 : 0 ≤ t155
                · rw [if_pos c58] at H
                  have c58b0 : decide (0 ≤ t155) = true := decide_eq_true c58
                  clear c58
                  by_cases c59 : t155 < (y152.length : Int)
                  · rw [if_pos c59] at H
                    have c59b0 : decide (t155 < (y152.length : Int)) = true := decide_eq_true c59
                    clear c59
                    simp only [Option.some.injEq, Prod.mk.injEq] at H
                    obtain ⟨rfl, rfl, rfl, rfl⟩ := H
                    try go_wp2_with (first | ((with_reducible refine gate_callee (f := 26) rfl ?_); refine goesL_ (some 34) rfl rfl Try.func26 (by kernel_rfl) rfl #[.pointer (some ⟨g, 0, none⟩), .int .i64 a1] rfl (by (try simp only [List.map_toArray, List.map_cons, List.map_nil]); first | done | rfl | (simp only [List.length_drop, List.length_take]; rfl)) ?_; (with_reducible refine (spec_l20Rd_odd.calls k1 g s0_0 x1001_1 a1 true t137 w0 _ ?side1 ?side2 A21.out).mono ?_); (case side1 => repeat (first | (with_reducible first | exact HI0.out | apply IsS52.alloc | apply IsS52.drewN | apply IsS52.drew | apply IsS52.set_1 | refine IsS52.far ?_ NB0_126.out _ | refine IsS52.far ?_ NB0_131.out _) | exact HI0.out)); (case side2 => repeat (first | (with_reducible first | exact HB.out | apply below_alloc | apply pw_below_drewN | apply below_drew1 | refine below_set ?_ (IsS52.ge HI0.out) | refine below_set ?_ GE126.out | refine below_set ?_ GE131.out) | exact HB.out)); rintro e w60 ⟨rfl, hi, hb, hk⟩; refine ⟨_, rfl, ?_⟩; have n0_ := Aside0.mk (KeepBut.blk hk (g' := gb126) (o := .cells #[.int .i64 0, .int .i64 0, .int .i64 0] 26 (0, 0)) (by (with_reducible repeat (first | refine blk_drewN ?_ _ | refine blk_drew ?_ | refine blk_alloc ?_ _)); exact BK126.out) NB126_0.out (by simp)); have n1_ := Aside0.mk (KeepBut.blk hk (g' := gb131) (o := .cells #[.int .i64 (wrap64 (1 + t127)), .int .i64 (wrap64 (1 + t129)), .int .i64 x132002_1] 26 (0, 0)) (by (with_reducible repeat (first | refine blk_drewN ?_ _ | refine blk_drew ?_ | refine blk_alloc ?_ _)); exact BK131.out) NB131_0.out (by simp)); have n2_ := Aside0.mk (KeepBut.trans (by repeat (first | (with_reducible first | exact HK.out | apply KeepBut.set_ | apply keep_drewN | apply keep_drew | apply keep_alloc | refine keep_far ?_ GW126.out _ | refine keep_far ?_ GW131.out _) | exact HK.out)) hk (.inl rfl)); have n3_ := Aside0.mk (hb); have n4_ := Aside0.mk (hi); clear BK126; clear BK131; clear HK; clear HB; clear HI0; have BK126 := n0_; have BK131 := n1_; have HK := n2_; have HB := n3_; have HI0 := n4_; clear n0_ n1_ n2_ n3_ n4_; (try clear hb); (try clear hb2); (try clear hk); (try clear hi)) | ((with_reducible refine gate_callee (f := 25) rfl ?_); refine goesL_ (some 36) rfl rfl Try.func25 (by kernel_rfl) rfl #[.pointer (some ⟨g, 0, none⟩), .int .i64 3] rfl (by (try simp only [List.map_toArray, List.map_cons, List.map_nil]); first | done | rfl | (simp only [List.length_drop, List.length_take]; rfl)) ?_; (with_reducible refine (spec_l20Rd_pick.calls k1 g s0_0 t137 3 t138 t139 w0 _ ?side1 ?side2 A23.out).mono ?_); (case side1 => repeat (first | (with_reducible first | exact HI0.out | apply IsS52.alloc | apply IsS52.drewN | apply IsS52.drew | apply IsS52.set_1 | refine IsS52.far ?_ NB0_126.out _ | refine IsS52.far ?_ NB0_131.out _) | exact HI0.out)); (case side2 => repeat (first | (with_reducible first | exact HB.out | apply below_alloc | apply pw_below_drewN | apply below_drew1 | refine below_set ?_ (IsS52.ge HI0.out) | refine below_set ?_ GE126.out | refine below_set ?_ GE131.out) | exact HB.out)); rintro e w61 ⟨rfl, hi, hb, hk⟩; refine ⟨_, rfl, ?_⟩; have n0_ := Aside0.mk (KeepBut.blk hk (g' := gb126) (o := .cells #[.int .i64 0, .int .i64 0, .int .i64 0] 26 (0, 0)) (by (with_reducible repeat (first | refine blk_drewN ?_ _ | refine blk_drew ?_ | refine blk_alloc ?_ _)); exact BK126.out) NB126_0.out (by simp)); have n1_ := Aside0.mk (KeepBut.blk hk (g' := gb131) (o := .cells #[.int .i64 (wrap64 (1 + t127)), .int .i64 (wrap64 (1 + t129)), .int .i64 x132002_1] 26 (0, 0)) (by (with_reducible repeat (first | refine blk_drewN ?_ _ | refine blk_drew ?_ | refine blk_alloc ?_ _)); exact BK131.out) NB131_0.out (by simp)); have n2_ := Aside0.mk (KeepBut.trans (by repeat (first | (with_reducible first | exact HK.out | apply KeepBut.set_ | apply keep_drewN | apply keep_drew | apply keep_alloc | refine keep_far ?_ GW126.out _ | refine keep_far ?_ GW131.out _) | exact HK.out)) hk (.inl rfl)); have n3_ := Aside0.mk (hb); have n4_ := Aside0.mk (hi); clear BK126; clear BK131; clear HK; clear HB; clear HI0; have BK126 := n0_; have BK131 := n1_; have HK := n2_; have HB := n3_; have HI0 := n4_; clear n0_ n1_ n2_ n3_ n4_; (try clear hb); (try clear hb2); (try clear hk); (try clear hi)))
                    have pi157 : (0 ≤ (t155 : Int)) = True := eq_true (of_decide_eq_true (by first | (with_reducible assumption) | assumption))
                    have qi157 : (t155 < (y152.length : Int)) = True := eq_true (of_decide_eq_true (by first | (with_reducible assumption) | assumption))
                    have n0_ := Aside0.mk (blk_drew BK126.out)
                    have n1_ := Aside0.mk (blk_drew BK131.out)
                    have n2_ := Aside0.mk (IsS52.drew HI0.out)
                    have n3_ := Aside0.mk (keep_drew HK.out)
                    have n4_ := Aside0.mk (below_drew1 HB.out)
                    clear BK126
                    clear BK131
                    clear HI0
                    clear HK
                    clear HB
                    have BK126 := n0_
                    have BK131 := n1_
                    have HI0 := n2_
                    have HK := n3_
                    have HB := n4_
                    clear n0_ n1_ n2_ n3_ n4_
                    refine start_ (n := 13) (S := fun w' => w'.cell? ⟨gb131, 0, none⟩ = some (.int .i64 (wrap64 (1 + t127))) ∧ w'.cell? ⟨gb131, 1, none⟩ = some (.int .i64 (wrap64 (1 + t129))) ∧ w'.cell? ⟨gb131, 2, none⟩ = some (.int .i64 x132002_1)) (ds := [12]) #[false, false, false, false, false, false, false, false, false, false, false, false, false] (by kernel_rfl) rfl rfl ⟨(blk_cell BK131.out 0).trans rfl, (blk_cell BK131.out 1).trans rfl, (blk_cell BK131.out 2).trans rfl⟩ (fun hHeld => ?_); refine with_tabW spec_l20Board.tab8 spec_l20Board.bits8 (fun HT_ HW_ => ?_)
                    generalize w61.drew = w62 at BK126 BK131 HI0 HK HB hHeld ⊢
                    refine pure_ (i := 0) (N := some 37) (v := ?_) (a' := ?_) #[true, false, false, false, false, false, false, false, false, false, false, false, false] rfl rfl (any_of HT_.out (by kernel_rfl)) (fun _ _ _ h => h) (Or.inl ⟨by rfl, ?_⟩) ?_ ?_
                    rotate_left
                    · intro w'
                      go_simp
                      with_reducible rfl
                    rotate_left
                    · simp only [Act.put, List.setIfInBounds_toArray, List.set_cons_zero, List.set_cons_succ, i64_w, i32_w]
                      rfl
                    refine pure_ (i := 2) (N := some 39) (v := ?_) (a' := ?_) #[true, false, true, false, false, false, false, false, false, false, false, false, false] rfl rfl (any_of HT_.out (by kernel_rfl)) (fun _ _ _ h => h) (Or.inl ⟨by rfl, ?_⟩) ?_ ?_
                    rotate_left
                    · intro w'
                      go_simp
                      with_reducible rfl
                    rotate_left
                    · simp only [Act.put, List.setIfInBounds_toArray, List.set_cons_zero, List.set_cons_succ, i64_w, i32_w]
                      rfl
                    refine pure_ (i := 7) (N := some 44) (v := ?_) (a' := ?_) #[true, false, true, false, false, false, false, true, false, false, false, false, false] rfl rfl (any_of HT_.out (by kernel_rfl)) (fun _ _ _ h => h) (Or.inl ⟨by rfl, ?_⟩) ?_ ?_
                    rotate_left
                    · intro w'
                      go_simp
                      with_reducible rfl
                    rotate_left
                    · simp only [Act.put, List.setIfInBounds_toArray, List.set_cons_zero, List.set_cons_succ, i64_w, i32_w]
                      rfl
                    refine take_ (i := 1) (N := some 38) (v := ?_) (a' := ?_) #[true, true, true, false, false, false, false, true, false, false, false, false, false] rfl rfl (take_ofW HT_.out HW_.out (by kernel_rfl)) (fun _ _ _ h => h) (Or.inl ⟨by rfl, ?_⟩) hHeld ?_ ?_
                    rotate_left
                    · rintro w' ⟨s0, s1, s2⟩
                      go_simp
                      with_reducible rfl
                    rotate_left
                    · simp only [Act.put, List.setIfInBounds_toArray, List.set_cons_zero, List.set_cons_succ, i64_w, i32_w]
                      rfl
                    refine take_ (i := 3) (N := some 40) (v := ?_) (a' := ?_) #[true, true, true, true, false, false, false, true, false, false, false, false, false] rfl rfl (take_ofW HT_.out HW_.out (by kernel_rfl)) (fun _ _ _ h => h) (Or.inl ⟨by rfl, ?_⟩) hHeld ?_ ?_
                    rotate_left
                    · rintro w' ⟨s0, s1, s2⟩
                      go_simp
                      with_reducible rfl
                    rotate_left
                    · simp only [Act.put, List.setIfInBounds_toArray, List.set_cons_zero, List.set_cons_succ, i64_w, i32_w]
                      rfl
                    refine pure_ (i := 4) (N := some 41) (v := ?_) (a' := ?_) #[true, true, true, true, true, false, false, true, false, false, false, false, false] rfl rfl (any_of HT_.out (by kernel_rfl)) (fun _ _ _ h => h) (Or.inl ⟨by rfl, ?_⟩) ?_ ?_
                    rotate_left
                    · intro w'
                      go_simp
                      with_reducible rfl
                    rotate_left
                    · simp only [Act.put, List.setIfInBounds_toArray, List.set_cons_zero, List.set_cons_succ, i64_w, i32_w]
                      rfl
                    refine pure_ (i := 5) (N := some 42) (v := ?_) (a' := ?_) #[true, true, true, true, true, true, false, true, false, false, false, false, false] rfl rfl (any_of HT_.out (by kernel_rfl)) (fun _ _ _ h => h) (Or.inl ⟨by rfl, ?_⟩) ?_ ?_
                    rotate_left
                    · intro w'
                      go_simp
                      with_reducible rfl
                    rotate_left
                    · simp only [Act.put, List.setIfInBounds_toArray, List.set_cons_zero, List.set_cons_succ, i64_w, i32_w]
                      rfl
                    refine join_ (σ := Value × Addr) 4 #[true, true, true, true, true, true, true, true, true, false, false, false, false] (fun s_ => [(43, s_.1), (45, .int .i64 t155)]) (fun s_ w' => (w'.cell? ⟨gb131, 0, none⟩ = some (.int .i64 (wrap64 (1 + t127))) ∧ w'.cell? ⟨gb131, 1, none⟩ = some (.int .i64 (wrap64 (1 + t129))) ∧ w'.cell? ⟨gb131, 2, none⟩ = some (.int .i64 x132002_1)) ∧ (Kd.R (Kd.int .i64) 3 w' w.heap.size (fun _ => True) s_.1 y152) ∧ (∃ c_, (s_.1 : Value) = .slice (some s_.2) y152.length c_) ∧ (w'.heap[gb126]? = some (.cells #[.int .i64 0, .int .i64 0, .int .i64 0] 26 (0, 0))) ∧ (w'.heap[gb131]? = some (.cells #[.int .i64 (wrap64 (1 + t127)), .int .i64 (wrap64 (1 + t129)), .int .i64 x132002_1] 26 (0, 0))) ∧ (IsS52 w0 w' g s0_0 t156) ∧ (KeepBut w w' g none) ∧ (Below w0.heap.size w0 w')) ?_ ?_
                    rotate_left
                    · intro hCont
                      refine two_ (i := 6) (j := 8) (Ni := some 43) (Nj := some 45) #[true, true, true, true, true, true, true, true, false, false, false, false, false] #[true, true, true, true, true, true, false, true, true, false, false, false, false] rfl rfl rfl rfl (two_of HT_.out (by kernel_rfl)) (by decide) (by decide) (fun K hK => ?_) (fun K hK => ?_)
                      · skip
                        refine Kd.R_lit_step (Kd.int .i64) _ 3 ?hg (N := 43) ?hd (xs := ([(-1), ji56] : List Int)) (inner := [.int .i64 (-1), .int .i64 ji56]) (ok := fun _ => True) (okp := fun _ => True) ?hr ?hp (fun _ hk => hk) trivial (Below.refl _ _) (Nat.le_refl _) (by simp) ?_; (case hd => rfl); (case hg => rfl); (case hr => first | (go_simp; done) | (go_simp; rfl)); (case hp => exact (Reps.one (show Kd.M (Kd.int .i64) _ _ _ (-1) [.int .i64 (-1)] from rfl) (Reps.one (show Kd.M (Kd.int .i64) _ _ _ ji56 [.int .i64 ji56] from rfl) (Reps.none _ _))))
                        intro v153 w63 ho64 hb hg_ hnew_
                        clear hg_ hnew_
                        (first | rw [← Ny152.out] at ho64 | (simp only [Int.reduceToNat] at ho64; rw [← Ny152.out] at ho64))
                        have n0_ := Aside0.mk (Kd.R_lower ho64 (keep_size (w := w) (g := g) (row := none) (by repeat (first | (with_reducible first | exact HK.out | apply KeepBut.set_ | apply keep_drewN | apply keep_drew | apply keep_alloc | refine keep_far ?_ GW126.out _ | refine keep_far ?_ GW131.out _) | exact HK.out))))
                        have n1_ := Aside0.mk (blk_below (g := gb126) (o := .cells #[.int .i64 0, .int .i64 0, .int .i64 0] 26 (0, 0)) (by (with_reducible repeat (first | refine blk_drewN ?_ _ | refine blk_drew ?_ | refine blk_alloc ?_ _)); exact BK126.out) hb)
                        have n2_ := Aside0.mk (blk_below (g := gb131) (o := .cells #[.int .i64 (wrap64 (1 + t127)), .int .i64 (wrap64 (1 + t129)), .int .i64 x132002_1] 26 (0, 0)) (by (with_reducible repeat (first | refine blk_drewN ?_ _ | refine blk_drew ?_ | refine blk_alloc ?_ _)); exact BK131.out) hb)
                        have n3_ := Aside0.mk (IsS52.below (by repeat (first | (with_reducible first | exact HI0.out | apply IsS52.alloc | apply IsS52.drewN | apply IsS52.drew | apply IsS52.set_1 | refine IsS52.far ?_ NB0_126.out _ | refine IsS52.far ?_ NB0_131.out _) | exact HI0.out)) hb)
                        have n4_ := Aside0.mk (KeepBut.trans (by repeat (first | (with_reducible first | exact HK.out | apply KeepBut.set_ | apply keep_drewN | apply keep_drew | apply keep_alloc | refine keep_far ?_ GW126.out _ | refine keep_far ?_ GW131.out _) | exact HK.out)) (KeepBut.of_below hb g none) (.inl rfl))
                        have n5_ := Aside0.mk (below_step (by repeat (first | (with_reducible first | exact HB.out | apply below_alloc | apply pw_below_drewN | apply below_drew1 | refine below_set ?_ (IsS52.ge HI0.out) | refine below_set ?_ GE126.out | refine below_set ?_ GE131.out) | exact HB.out)) hb)
                        clear BK126
                        clear BK131
                        clear HI0
                        clear HK
                        clear HB
                        have HO154 := n0_
                        have BK126 := n1_
                        have BK131 := n2_
                        have HI0 := n3_
                        have HK := n4_
                        have HB := n5_
                        clear n0_ n1_ n2_ n3_ n4_ n5_
                        clear hb ho64
                        obtain ⟨Ao65, co65, eo65⟩ := Kd.R_slice HO154.out
                        subst eo65
                        obtain ⟨ado65, fo65, _⟩ := Kd.at_int (Kd.R_reads' HO154.out).2.2 0 (by decide) (by rw [Ny152.out]; simp)
                        cases fo65
                        refine hK.out _ _ ⟨(blk_cell BK131.out 0).trans rfl, (blk_cell BK131.out 1).trans rfl, (blk_cell BK131.out 2).trans rfl⟩ (fun hHeld => ?_)
                        clear hK K
                        refine norm_ (a' := ?_) ?_ ?_
                        rotate_left
                        · show Act.put _ (some 43) _ = _
                          simp only [Act.put, List.setIfInBounds_toArray, List.set_cons_zero, List.set_cons_succ, i64_w, i32_w]
                          rfl
                        refine one_ (i := 8) (N := some 45) #[true, true, true, true, true, true, true, true, true, false, false, false, false] rfl rfl (one_of HT_.out (by kernel_rfl)) (by decide) (fun K hK => ?_)
                        refine goes_ Try.func25 (by kernel_rfl) rfl #[.pointer (some ⟨g, 0, none⟩), .int .i64 2] (by rfl) rfl rfl (by (try simp only [List.map_toArray, List.map_cons, List.map_nil]); first | done | rfl | (simp only [List.length_drop, List.length_take]; rfl)) ?_
                        with_reducible refine (spec_l20Rd_pick.calls k1 g s0_0 t139 2 t155 t156 w0 _ ?side1 ?side2 A57.out).mono ?_
                        (case side1 => repeat (first | (with_reducible first | exact HI0.out | apply IsS52.alloc | apply IsS52.drewN | apply IsS52.drew | apply IsS52.set_1 | refine IsS52.far ?_ NB0_126.out _ | refine IsS52.far ?_ NB0_131.out _) | exact HI0.out))
                        (case side2 => repeat (first | (with_reducible first | exact HB.out | apply below_alloc | apply pw_below_drewN | apply below_drew1 | refine below_set ?_ (IsS52.ge HI0.out) | refine below_set ?_ GE126.out | refine below_set ?_ GE131.out) | exact HB.out))
                        rintro e w66 ⟨rfl, hi, hb, hk⟩
                        refine ⟨_, rfl, ?_⟩
                        have n0_ := Aside0.mk (KeepBut.blk hk (g' := gb126) (o := .cells #[.int .i64 0, .int .i64 0, .int .i64 0] 26 (0, 0)) (by (with_reducible repeat (first | refine blk_drewN ?_ _ | refine blk_drew ?_ | refine blk_alloc ?_ _)); exact BK126.out) NB126_0.out (by simp))
                        have n1_ := Aside0.mk (KeepBut.blk hk (g' := gb131) (o := .cells #[.int .i64 (wrap64 (1 + t127)), .int .i64 (wrap64 (1 + t129)), .int .i64 x132002_1] 26 (0, 0)) (by (with_reducible repeat (first | refine blk_drewN ?_ _ | refine blk_drew ?_ | refine blk_alloc ?_ _)); exact BK131.out) NB131_0.out (by simp))
                        have n2_ := Aside0.mk (Kd.R_mono (Kd.R_keep (IsS52.apart (show IsS52 w0 _ g s0_0 t139 from by repeat (first | (with_reducible first | exact HI0.out | apply IsS52.alloc | apply IsS52.drewN | apply IsS52.drew | apply IsS52.set_1 | refine IsS52.far ?_ NB0_126.out _ | refine IsS52.far ?_ NB0_131.out _) | exact HI0.out)) (by (with_reducible repeat (first | apply Kd.R_alloc | apply Kd.R_drewN | apply Kd.R_drew)); exact HO154.out) (by decide)) hk (fun _ h => h.2)) (fun _ h => h.1))
                        have n3_ := Aside0.mk (KeepBut.trans (by repeat (first | (with_reducible first | exact HK.out | apply KeepBut.set_ | apply keep_drewN | apply keep_drew | apply keep_alloc | refine keep_far ?_ GW126.out _ | refine keep_far ?_ GW131.out _) | exact HK.out)) hk (.inl rfl))
                        have n4_ := Aside0.mk (hb)
                        have n5_ := Aside0.mk (hi)
                        clear BK126
                        clear BK131
                        clear HO154
                        clear HK
                        clear HB
                        clear HI0
                        have BK126 := n0_
                        have BK131 := n1_
                        have HO154 := n2_
                        have HK := n3_
                        have HB := n4_
                        have HI0 := n5_
                        clear n0_ n1_ n2_ n3_ n4_ n5_
                        (try clear hb)
                        (try clear hb2)
                        (try clear hk)
                        (try clear hi)
                        refine hK.out _ _ ⟨(blk_cell BK131.out 0).trans rfl, (blk_cell BK131.out 1).trans rfl, (blk_cell BK131.out 2).trans rfl⟩ (fun hHeld => ?_)
                        clear hK K
                        refine norm_ (a' := ?_) ?_ ?_
                        rotate_left
                        · show Act.put _ (some 45) _ = _
                          simp only [Act.put, List.setIfInBounds_toArray, List.set_cons_zero, List.set_cons_succ, i64_w, i32_w]
                          rfl
                        exact norm_ (by simp only [putAll, Act.put, List.setIfInBounds_toArray, List.set_cons_zero, List.set_cons_succ]) (hCont (.slice (some ado65) y152.length co65, ado65) _ ⟨hHeld, (by (with_reducible repeat (first | apply Kd.R_alloc | apply Kd.R_drewN | apply Kd.R_drew)); exact HO154.out), ⟨_, rfl⟩, (by (with_reducible repeat (first | refine blk_drewN ?_ _ | refine blk_drew ?_ | refine blk_alloc ?_ _)); exact BK126.out), (by (with_reducible repeat (first | refine blk_drewN ?_ _ | refine blk_drew ?_ | refine blk_alloc ?_ _)); exact BK131.out), (by repeat (first | (with_reducible first | exact HI0.out | apply IsS52.alloc | apply IsS52.drewN | apply IsS52.drew | apply IsS52.set_1 | refine IsS52.far ?_ NB0_126.out _ | refine IsS52.far ?_ NB0_131.out _) | exact HI0.out)), (by repeat (first | (with_reducible first | exact HK.out | apply KeepBut.set_ | apply keep_drewN | apply keep_drew | apply keep_alloc | refine keep_far ?_ GW126.out _ | refine keep_far ?_ GW131.out _) | exact HK.out)), (by repeat (first | (with_reducible first | exact HB.out | apply below_alloc | apply pw_below_drewN | apply below_drew1 | refine below_set ?_ (IsS52.ge HI0.out) | refine below_set ?_ GE126.out | refine below_set ?_ GE131.out) | exact HB.out))⟩)
                      · skip
                        refine goes_ Try.func25 (by kernel_rfl) rfl #[.pointer (some ⟨g, 0, none⟩), .int .i64 2] (by rfl) rfl rfl (by (try simp only [List.map_toArray, List.map_cons, List.map_nil]); first | done | rfl | (simp only [List.length_drop, List.length_take]; rfl)) ?_
                        with_reducible refine (spec_l20Rd_pick.calls k1 g s0_0 t139 2 t155 t156 w0 _ ?side1 ?side2 A57.out).mono ?_
                        (case side1 => repeat (first | (with_reducible first | exact HI0.out | apply IsS52.alloc | apply IsS52.drewN | apply IsS52.drew | apply IsS52.set_1 | refine IsS52.far ?_ NB0_126.out _ | refine IsS52.far ?_ NB0_131.out _) | exact HI0.out))
                        (case side2 => repeat (first | (with_reducible first | exact HB.out | apply below_alloc | apply pw_below_drewN | apply below_drew1 | refine below_set ?_ (IsS52.ge HI0.out) | refine below_set ?_ GE126.out | refine below_set ?_ GE131.out) | exact HB.out))
                        rintro e w63 ⟨rfl, hi, hb, hk⟩
                        refine ⟨_, rfl, ?_⟩
                        have n0_ := Aside0.mk (KeepBut.blk hk (g' := gb126) (o := .cells #[.int .i64 0, .int .i64 0, .int .i64 0] 26 (0, 0)) (by (with_reducible repeat (first | refine blk_drewN ?_ _ | refine blk_drew ?_ | refine blk_alloc ?_ _)); exact BK126.out) NB126_0.out (by simp))
                        have n1_ := Aside0.mk (KeepBut.blk hk (g' := gb131) (o := .cells #[.int .i64 (wrap64 (1 + t127)), .int .i64 (wrap64 (1 + t129)), .int .i64 x132002_1] 26 (0, 0)) (by (with_reducible repeat (first | refine blk_drewN ?_ _ | refine blk_drew ?_ | refine blk_alloc ?_ _)); exact BK131.out) NB131_0.out (by simp))
                        have n2_ := Aside0.mk (KeepBut.trans (by repeat (first | (with_reducible first | exact HK.out | apply KeepBut.set_ | apply keep_drewN | apply keep_drew | apply keep_alloc | refine keep_far ?_ GW126.out _ | refine keep_far ?_ GW131.out _) | exact HK.out)) hk (.inl rfl))
                        have n3_ := Aside0.mk (hb)
                        have n4_ := Aside0.mk (hi)
                        clear BK126
                        clear BK131
                        clear HK
                        clear HB
                        clear HI0
                        have BK126 := n0_
                        have BK131 := n1_
                        have HK := n2_
                        have HB := n3_
                        have HI0 := n4_
                        clear n0_ n1_ n2_ n3_ n4_
                        (try clear hb)
                        (try clear hb2)
                        (try clear hk)
                        (try clear hi)
                        refine hK.out _ _ ⟨(blk_cell BK131.out 0).trans rfl, (blk_cell BK131.out 1).trans rfl, (blk_cell BK131.out 2).trans rfl⟩ (fun hHeld => ?_)
                        clear hK K
                        refine norm_ (a' := ?_) ?_ ?_
                        rotate_left
                        · show Act.put _ (some 45) _ = _
                          simp only [Act.put, List.setIfInBounds_toArray, List.set_cons_zero, List.set_cons_succ, i64_w, i32_w]
                          rfl
                        refine one_ (i := 6) (N := some 43) #[true, true, true, true, true, true, true, true, true, false, false, false, false] rfl rfl (one_of HT_.out (by kernel_rfl)) (by decide) (fun K hK => ?_)
                        refine Kd.R_lit_step (Kd.int .i64) _ 3 ?hg (N := 43) ?hd (xs := ([(-1), ji56] : List Int)) (inner := [.int .i64 (-1), .int .i64 ji56]) (ok := fun _ => True) (okp := fun _ => True) ?hr ?hp (fun _ hk => hk) trivial (Below.refl _ _) (Nat.le_refl _) (by simp) ?_; (case hd => rfl); (case hg => rfl); (case hr => first | (go_simp; done) | (go_simp; rfl)); (case hp => exact (Reps.one (show Kd.M (Kd.int .i64) _ _ _ (-1) [.int .i64 (-1)] from rfl) (Reps.one (show Kd.M (Kd.int .i64) _ _ _ ji56 [.int .i64 ji56] from rfl) (Reps.none _ _))))
                        intro v153 w64 ho65 hb hg_ hnew_
                        clear hg_ hnew_
                        (first | rw [← Ny152.out] at ho65 | (simp only [Int.reduceToNat] at ho65; rw [← Ny152.out] at ho65))
                        have n0_ := Aside0.mk (Kd.R_lower ho65 (keep_size (w := w) (g := g) (row := none) (by repeat (first | (with_reducible first | exact HK.out | apply KeepBut.set_ | apply keep_drewN | apply keep_drew | apply keep_alloc | refine keep_far ?_ GW126.out _ | refine keep_far ?_ GW131.out _) | exact HK.out))))
                        have n1_ := Aside0.mk (blk_below (g := gb126) (o := .cells #[.int .i64 0, .int .i64 0, .int .i64 0] 26 (0, 0)) (by (with_reducible repeat (first | refine blk_drewN ?_ _ | refine blk_drew ?_ | refine blk_alloc ?_ _)); exact BK126.out) hb)
                        have n2_ := Aside0.mk (blk_below (g := gb131) (o := .cells #[.int .i64 (wrap64 (1 + t127)), .int .i64 (wrap64 (1 + t129)), .int .i64 x132002_1] 26 (0, 0)) (by (with_reducible repeat (first | refine blk_drewN ?_ _ | refine blk_drew ?_ | refine blk_alloc ?_ _)); exact BK131.out) hb)
                        have n3_ := Aside0.mk (IsS52.below (by repeat (first | (with_reducible first | exact HI0.out | apply IsS52.alloc | apply IsS52.drewN | apply IsS52.drew | apply IsS52.set_1 | refine IsS52.far ?_ NB0_126.out _ | refine IsS52.far ?_ NB0_131.out _) | exact HI0.out)) hb)
                        have n4_ := Aside0.mk (KeepBut.trans (by repeat (first | (with_reducible first | exact HK.out | apply KeepBut.set_ | apply keep_drewN | apply keep_drew | apply keep_alloc | refine keep_far ?_ GW126.out _ | refine keep_far ?_ GW131.out _) | exact HK.out)) (KeepBut.of_below hb g none) (.inl rfl))
                        have n5_ := Aside0.mk (below_step (by repeat (first | (with_reducible first | exact HB.out | apply below_alloc | apply pw_below_drewN | apply below_drew1 | refine below_set ?_ (IsS52.ge HI0.out) | refine below_set ?_ GE126.out | refine below_set ?_ GE131.out) | exact HB.out)) hb)
                        clear BK126
                        clear BK131
                        clear HI0
                        clear HK
                        clear HB
                        have HO154 := n0_
                        have BK126 := n1_
                        have BK131 := n2_
                        have HI0 := n3_
                        have HK := n4_
                        have HB := n5_
                        clear n0_ n1_ n2_ n3_ n4_ n5_
                        clear hb ho65
                        obtain ⟨Ao66, co66, eo66⟩ := Kd.R_slice HO154.out
                        subst eo66
                        obtain ⟨ado66, fo66, _⟩ := Kd.at_int (Kd.R_reads' HO154.out).2.2 0 (by decide) (by rw [Ny152.out]; simp)
                        cases fo66
                        refine hK.out _ _ ⟨(blk_cell BK131.out 0).trans rfl, (blk_cell BK131.out 1).trans rfl, (blk_cell BK131.out 2).trans rfl⟩ (fun hHeld => ?_)
                        clear hK K
                        refine norm_ (a' := ?_) ?_ ?_
                        rotate_left
                        · show Act.put _ (some 43) _ = _
                          simp only [Act.put, List.setIfInBounds_toArray, List.set_cons_zero, List.set_cons_succ, i64_w, i32_w]
                          rfl
                        exact norm_ (by simp only [putAll, Act.put, List.setIfInBounds_toArray, List.set_cons_zero, List.set_cons_succ]) (hCont (.slice (some ado66) y152.length co66, ado66) _ ⟨hHeld, (by (with_reducible repeat (first | apply Kd.R_alloc | apply Kd.R_drewN | apply Kd.R_drew)); exact HO154.out), ⟨_, rfl⟩, (by (with_reducible repeat (first | refine blk_drewN ?_ _ | refine blk_drew ?_ | refine blk_alloc ?_ _)); exact BK126.out), (by (with_reducible repeat (first | refine blk_drewN ?_ _ | refine blk_drew ?_ | refine blk_alloc ?_ _)); exact BK131.out), (by repeat (first | (with_reducible first | exact HI0.out | apply IsS52.alloc | apply IsS52.drewN | apply IsS52.drew | apply IsS52.set_1 | refine IsS52.far ?_ NB0_126.out _ | refine IsS52.far ?_ NB0_131.out _) | exact HI0.out)), (by repeat (first | (with_reducible first | exact HK.out | apply KeepBut.set_ | apply keep_drewN | apply keep_drew | apply keep_alloc | refine keep_far ?_ GW126.out _ | refine keep_far ?_ GW131.out _) | exact HK.out)), (by repeat (first | (with_reducible first | exact HB.out | apply below_alloc | apply pw_below_drewN | apply below_drew1 | refine below_set ?_ (IsS52.ge HI0.out) | refine below_set ?_ GE126.out | refine below_set ?_ GE131.out) | exact HB.out))⟩)
                    rintro ⟨v153, adz_v153⟩ w67 ⟨hS_, h0_, h1_, h2_, h3_, h4_, h5_, h6_⟩
                    have n0_ : Aside0 (Kd.R (Kd.int .i64) 3 w67 w.heap.size (fun _ => True) v153 y152) := ⟨h0_⟩
                    have n1_ : Aside0 (∃ c_, (v153 : Value) = .slice (some adz_v153) y152.length c_) := ⟨h1_⟩
                    have n2_ : Aside0 (w67.heap[gb126]? = some (.cells #[.int .i64 0, .int .i64 0, .int .i64 0] 26 (0, 0))) := ⟨h2_⟩
                    have n3_ : Aside0 (w67.heap[gb131]? = some (.cells #[.int .i64 (wrap64 (1 + t127)), .int .i64 (wrap64 (1 + t129)), .int .i64 x132002_1] 26 (0, 0))) := ⟨h3_⟩
                    have n4_ : Aside0 (IsS52 w0 w67 g s0_0 t156) := ⟨h4_⟩
                    have n5_ : Aside0 (KeepBut w w67 g none) := ⟨h5_⟩
                    have n6_ : Aside0 (Below w0.heap.size w0 w67) := ⟨h6_⟩
                    clear BK126
                    clear BK131
                    clear HI0
                    clear HK
                    clear HB
                    clear h0_ h1_ h2_ h3_ h4_ h5_ h6_
                    have HO154 := n0_
                    have HA_HO154 := n1_
                    have BK126 := n2_
                    have BK131 := n3_
                    have HI0 := n4_
                    have HK := n5_
                    have HB := n6_
                    clear n0_ n1_ n2_ n3_ n4_ n5_ n6_
                    have hHeld : w67.cell? ⟨gb131, 0, none⟩ = some (.int .i64 (wrap64 (1 + t127))) ∧ w67.cell? ⟨gb131, 1, none⟩ = some (.int .i64 (wrap64 (1 + t129))) ∧ w67.cell? ⟨gb131, 2, none⟩ = some (.int .i64 x132002_1) := hS_
                    obtain ⟨co68, eo68⟩ := HA_HO154.out
                    clear HA_HO154
                    subst eo68
                    refine norm_ (a' := ?_) ?_ ?_
                    rotate_left
                    · simp only [putAll, Act.put, List.setIfInBounds_toArray, List.set_cons_zero, List.set_cons_succ]
                      rfl
                    refine pure_ (i := 9) (N := some 46) (v := ?_) (a' := ?_) #[true, true, true, true, true, true, true, true, true, true, false, false, false] rfl rfl (any_of HT_.out (by kernel_rfl)) (fun _ _ _ h => h) (Or.inl ⟨by rfl, ?_⟩) ?_ ?_
                    rotate_left
                    · intro w'
                      go_simp
                      with_reducible rfl
                    rotate_left
                    · simp only [Act.put, List.setIfInBounds_toArray, List.set_cons_zero, List.set_cons_succ, i64_w, i32_w]
                      rfl
                    refine one_ (i := 10) (N := some 47) #[true, true, true, true, true, true, true, true, true, true, true, false, false] rfl rfl (one_of HT_.out (by kernel_rfl)) (by decide) (fun K hK => ?_)
                    (have p157 : 0 ≤ (t155 : Int) := of_decide_eq_true (by first | (with_reducible assumption) | assumption); have q157 : t155 < (y152.length : Int) := of_decide_eq_true (by first | (with_reducible assumption) | assumption); obtain ⟨ad157, e157, hx157_0⟩ := Kd.at_int (Kd.R_reads' HO154.out).2.2 t155 p157 q157; obtain rfl : adz_v153 = ad157 := (by injection e157))
                    refine value_ (w1 := ?_) (v := ?_) (by rfl) rfl ?_ ?_
                    rotate_left 2
                    · go_simp
                      constructor
                      · rfl
                      · rfl
                    clear hx157_0
                    refine hK.out _ _ ⟨(blk_cell BK131.out 0).trans rfl, (blk_cell BK131.out 1).trans rfl, (blk_cell BK131.out 2).trans rfl⟩ (fun hHeld => ?_)
                    clear hK K
                    refine norm_ (a' := ?_) ?_ ?_
                    rotate_left
                    · show Act.put _ (some 47) _ = _
                      simp only [Act.put, List.setIfInBounds_toArray, List.set_cons_zero, List.set_cons_succ, i64_w, i32_w]
                      rfl
                    refine pure_ (i := 11) (N := some 48) (v := ?_) (a' := ?_) #[true, true, true, true, true, true, true, true, true, true, true, true, false] rfl rfl (any_of HT_.out (by kernel_rfl)) (fun _ _ _ h => h) (Or.inl ⟨by rfl, ?_⟩) ?_ ?_
                    rotate_left
                    · intro w'
                      go_simp
                      with_reducible rfl
                    rotate_left
                    · simp only [Act.put, List.setIfInBounds_toArray, List.set_cons_zero, List.set_cons_succ, i64_w, i32_w]
                      rfl
                    refine last_ (i := 12) (N := none) #[true, true, true, true, true, true, true, true, true, true, true, true, true] rfl rfl (one_of HT_.out (by kernel_rfl)) (by decide) (fun K hK => ?_)
                    have hs69 : w67.cell? ⟨gb131, 2, none⟩ = some (.int .i64 x132002_1) := (blk_cell BK131.out 2).trans rfl
                    have hfs69 := blk_frozen BK131.out 2
                    have hns69_0 := NB126_131.out
                    have hms69_0 := NB131_126.out
                    refine skip_ (w1 := ?_) (by rfl) rfl ?_ ?_
                    rotate_left
                    · go_simp
                      rfl
                    refine hK.out _ _ ?_
                    clear hK K
                    refine done_ (done_of HT_.out (by kernel_rfl)) ?_
                    have hnb70 := NB131_126.out
                    have hnc70 := NB126_131.out
                    have hnb71 := NB131_0.out
                    have hnc71 := NB0_131.out
                    have hcz72_0 : w67.cell? ⟨gb131, 0, none⟩ = some (.int .i64 (wrap64 (1 + t127))) := (blk_cell BK131.out 0).trans rfl
                    have hcz72_1 : w67.cell? ⟨gb131, 1, none⟩ = some (.int .i64 (wrap64 (1 + t129))) := (blk_cell BK131.out 1).trans rfl
                    have hcz72_2 : w67.cell? ⟨gb131, 2, none⟩ = some (.int .i64 x132002_1) := (blk_cell BK131.out 2).trans rfl
                    have hfz72_0 := blk_frozen BK131.out 0
                    have hfz72_1 := blk_frozen BK131.out 1
                    have hfz72_2 := blk_frozen BK131.out 2
                    have hnb73 := NB126_0.out
                    have hnc73 := NB0_126.out
                    have hcz74_0 : w67.cell? ⟨gb126, 0, none⟩ = some (.int .i64 0) := (blk_cell BK126.out 0).trans rfl
                    have hcz74_1 : w67.cell? ⟨gb126, 1, none⟩ = some (.int .i64 0) := (blk_cell BK126.out 1).trans rfl
                    have hcz74_2 : w67.cell? ⟨gb126, 2, none⟩ = some (.int .i64 0) := (blk_cell BK126.out 2).trans rfl
                    have hfz74_0 := blk_frozen BK126.out 0
                    have hfz74_1 := blk_frozen BK126.out 1
                    have hfz74_2 := blk_frozen BK126.out 2
                    try go_wp2
                    refine bodyPost_ret (results_cell_row rfl _ _ gb126 26 #[.int .i64 (wrap64 (1 + t127)), .int .i64 (wrap64 (1 + t129)), .int .i64 (rd y152 t155)] (0, 0) _ rfl (by (with_reducible repeat (first | refine blk_drewN ?_ _ | refine blk_drew ?_ | refine blk_alloc ?_ _)); refine blk_put (cs := #[.int .i64 (wrap64 (1 + t127)), .int .i64 (wrap64 (1 + t129)), .int .i64 0]) ?_ 2 _ rfl; (with_reducible repeat (first | refine blk_drewN ?_ _ | refine blk_drew ?_ | refine blk_alloc ?_ _)); refine blk_put (cs := #[.int .i64 (wrap64 (1 + t127)), .int .i64 0, .int .i64 0]) ?_ 1 _ rfl; (with_reducible repeat (first | refine blk_drewN ?_ _ | refine blk_drew ?_ | refine blk_alloc ?_ _)); refine blk_put (cs := #[.int .i64 0, .int .i64 0, .int .i64 0]) ?_ 0 _ rfl; (with_reducible repeat (first | refine blk_drewN ?_ _ | refine blk_drew ?_ | refine blk_alloc ?_ _)); refine blk_far ?_ NB126_131.out _; (with_reducible repeat (first | refine blk_drewN ?_ _ | refine blk_drew ?_ | refine blk_alloc ?_ _)); exact BK126.out) Try.underlying26 rfl (by kernel_rfl)) rfl ?_
                    exact ⟨by first | rfl | (simp [errW_none, errW_some] <;> rfl) | (simp only [← hji54, ← hji56]; first | rfl | (simp [errW_none, errW_some] <;> rfl)) | (simp [*, errW_none, errW_some] <;> rfl), by repeat (first | (with_reducible first | exact HI0.out | apply IsS52.alloc | apply IsS52.drewN | apply IsS52.drew | apply IsS52.set_1 | refine IsS52.far ?_ NB0_126.out _ | refine IsS52.far ?_ NB0_131.out _) | exact HI0.out), by repeat (first | (with_reducible first | exact HB.out | apply below_alloc | apply pw_below_drewN | apply below_drew1 | refine below_set ?_ (IsS52.ge HI0.out) | refine below_set ?_ GE126.out | refine below_set ?_ GE131.out) | exact HB.out), by repeat (first | (with_reducible first | exact HK.out | apply KeepBut.set_ | apply keep_drewN | apply keep_drew | apply keep_alloc | refine keep_far ?_ GW126.out _ | refine keep_far ?_ GW131.out _) | exact HK.out)⟩
                  · rw [if_neg c59] at H
                    exact absurd H (by simp)
                · rw [if_neg c58] at H
                  exact absurd H (by simp)
              · rw [if_neg c55] at H
                exact absurd H (by simp)
        · replace c22 := Bool.eq_false_iff.mpr c22
          subst c22
          have H1 : (some ((wrap64 (1 + t127)), (wrap64 (1 + t129)), x132002_1, t137)) = some (r1, r2, r3, r4) := by rw [if_neg (show ¬ (false = true) by decide)] at H; exact H
          clear H
          have H := H1
          clear H1
          simp only [Option.some.injEq, Prod.mk.injEq] at H
          obtain ⟨rfl, rfl, rfl, rfl⟩ := H
          go_wp2_with (first | ((with_reducible refine gate_callee (f := 26) rfl ?_); refine goesL_ (some 34) rfl rfl Try.func26 (by kernel_rfl) rfl #[.pointer (some ⟨g, 0, none⟩), .int .i64 a1] rfl (by (try simp only [List.map_toArray, List.map_cons, List.map_nil]); first | done | rfl | (simp only [List.length_drop, List.length_take]; rfl)) ?_; (with_reducible refine (spec_l20Rd_odd.calls k1 g s0_0 x1001_1 a1 false t137 w0 _ ?side1 ?side2 A21.out).mono ?_); (case side1 => repeat (first | (with_reducible first | exact HI0.out | apply IsS52.alloc | apply IsS52.drewN | apply IsS52.drew | apply IsS52.set_1 | refine IsS52.far ?_ NB0_126.out _ | refine IsS52.far ?_ NB0_131.out _) | exact HI0.out)); (case side2 => repeat (first | (with_reducible first | exact HB.out | apply below_alloc | apply pw_below_drewN | apply below_drew1 | refine below_set ?_ (IsS52.ge HI0.out) | refine below_set ?_ GE126.out | refine below_set ?_ GE131.out) | exact HB.out)); rintro e w75 ⟨rfl, hi, hb, hk⟩; refine ⟨_, rfl, ?_⟩; have n0_ := Aside0.mk (KeepBut.blk hk (g' := gb126) (o := .cells #[.int .i64 0, .int .i64 0, .int .i64 0] 26 (0, 0)) (by (with_reducible repeat (first | refine blk_drewN ?_ _ | refine blk_drew ?_ | refine blk_alloc ?_ _)); exact BK126.out) NB126_0.out (by simp)); have n1_ := Aside0.mk (KeepBut.blk hk (g' := gb131) (o := .cells #[.int .i64 (wrap64 (1 + t127)), .int .i64 (wrap64 (1 + t129)), .int .i64 x132002_1] 26 (0, 0)) (by (with_reducible repeat (first | refine blk_drewN ?_ _ | refine blk_drew ?_ | refine blk_alloc ?_ _)); exact BK131.out) NB131_0.out (by simp)); have n2_ := Aside0.mk (KeepBut.trans (by repeat (first | (with_reducible first | exact HK.out | apply KeepBut.set_ | apply keep_drewN | apply keep_drew | apply keep_alloc | refine keep_far ?_ GW126.out _ | refine keep_far ?_ GW131.out _) | exact HK.out)) hk (.inl rfl)); have n3_ := Aside0.mk (hb); have n4_ := Aside0.mk (hi); clear BK126; clear BK131; clear HK; clear HB; clear HI0; have BK126 := n0_; have BK131 := n1_; have HK := n2_; have HB := n3_; have HI0 := n4_; clear n0_ n1_ n2_ n3_ n4_; (try clear hb); (try clear hb2); (try clear hk); (try clear hi); have hnb76 := NB131_126.out; have hnc76 := NB126_131.out; have hnb77 := NB131_0.out; have hnc77 := NB0_131.out; have hcz78_0 : w75.cell? ⟨gb131, 0, none⟩ = some (.int .i64 (wrap64 (1 + t127))) := (blk_cell BK131.out 0).trans rfl; have hcz78_1 : w75.cell? ⟨gb131, 1, none⟩ = some (.int .i64 (wrap64 (1 + t129))) := (blk_cell BK131.out 1).trans rfl; have hcz78_2 : w75.cell? ⟨gb131, 2, none⟩ = some (.int .i64 x132002_1) := (blk_cell BK131.out 2).trans rfl; have hfz78_0 := blk_frozen BK131.out 0; have hfz78_1 := blk_frozen BK131.out 1; have hfz78_2 := blk_frozen BK131.out 2; have hnb79 := NB126_0.out; have hnc79 := NB0_126.out; have hcz80_0 : w75.cell? ⟨gb126, 0, none⟩ = some (.int .i64 0) := (blk_cell BK126.out 0).trans rfl; have hcz80_1 : w75.cell? ⟨gb126, 1, none⟩ = some (.int .i64 0) := (blk_cell BK126.out 1).trans rfl; have hcz80_2 : w75.cell? ⟨gb126, 2, none⟩ = some (.int .i64 0) := (blk_cell BK126.out 2).trans rfl; have hfz80_0 := blk_frozen BK126.out 0; have hfz80_1 := blk_frozen BK126.out 1; have hfz80_2 := blk_frozen BK126.out 2))
          refine bodyPost_ret (results_cell_row rfl _ _ gb126 26 #[.int .i64 (wrap64 (1 + t127)), .int .i64 (wrap64 (1 + t129)), .int .i64 x132002_1] (0, 0) _ rfl (by (with_reducible repeat (first | refine blk_drewN ?_ _ | refine blk_drew ?_ | refine blk_alloc ?_ _)); refine blk_put (cs := #[.int .i64 (wrap64 (1 + t127)), .int .i64 (wrap64 (1 + t129)), .int .i64 0]) ?_ 2 _ rfl; (with_reducible repeat (first | refine blk_drewN ?_ _ | refine blk_drew ?_ | refine blk_alloc ?_ _)); refine blk_put (cs := #[.int .i64 (wrap64 (1 + t127)), .int .i64 0, .int .i64 0]) ?_ 1 _ rfl; (with_reducible repeat (first | refine blk_drewN ?_ _ | refine blk_drew ?_ | refine blk_alloc ?_ _)); refine blk_put (cs := #[.int .i64 0, .int .i64 0, .int .i64 0]) ?_ 0 _ rfl; (with_reducible repeat (first | refine blk_drewN ?_ _ | refine blk_drew ?_ | refine blk_alloc ?_ _)); exact BK126.out) Try.underlying26 rfl (by kernel_rfl)) rfl ?_
          exact ⟨by first | rfl | (simp [errW_none, errW_some] <;> rfl) | (simp [*, errW_none, errW_some] <;> rfl), by repeat (first | (with_reducible first | exact HI0.out | apply IsS52.alloc | apply IsS52.drewN | apply IsS52.drew | apply IsS52.set_1 | refine IsS52.far ?_ NB0_126.out _ | refine IsS52.far ?_ NB0_131.out _) | exact HI0.out), by repeat (first | (with_reducible first | exact HB.out | apply below_alloc | apply pw_below_drewN | apply below_drew1 | refine below_set ?_ (IsS52.ge HI0.out) | refine below_set ?_ GE126.out | refine below_set ?_ GE131.out) | exact HB.out), by repeat (first | (with_reducible first | exact HK.out | apply KeepBut.set_ | apply keep_drewN | apply keep_drew | apply keep_alloc | refine keep_far ?_ GW126.out _ | refine keep_far ?_ GW131.out _) | exact HK.out)⟩

/-! ### spec_l20Open: function 20 -/
def spec_l20Open.f (l0 : List Int) : Option (List Int × Int) := if (l0.length : Int) > 2000 then (if 2000 ≤ (l0.length : Int) then (some (l0.take 2000, 0)) else (none)) else (some (l0, 0))
set_option maxHeartbeats 8000000 in
set_option maxRecDepth 100000 in
theorem spec_l20Open.calls (A0 : Option Addr) (c0 : Nat) (l0 : List Int) (r1 : List Int) (r2 : Int) (w0 w : World) (hB : Below w0.heap.size w0 w) (hr0 : Kd.C (Kd.int .u8) w0 A0 l0.length l0) (hc0 : l0.length ≤ c0) (h : spec_l20Open.f l0 = some (r1, r2)) :
    Calls Try.prog 20 #[.slice A0 l0.length c0] w fun e w' => ∃ g_ : Nat, e = .returned (.pointer (some ⟨g_, 0, none⟩)) ∧ IsS52 w0 w' g_ r1 r2 ∧ Below w0.heap.size w0 w' ∧ Below w.heap.size w w' := by
  have hu52 := Try.underlying52
  have HR0 := Aside0.mk hr0
  have HC0 := Aside0.mk hc0
  clear hr0 hc0
  have HBW := Aside0.mk (Below.refl w.heap.size w)
  have HW0 := Aside0.mk hB.size
  have HB := Aside0.mk hB
  clear hB
  have H : (if (l0.length : Int) > 2000 then (if 2000 ≤ (l0.length : Int) then (some (l0.take 2000, 0)) else (none)) else (some (l0, 0))) = some (r1, r2) := h
  clear h
  by_cases c2 : (l0.length : Int) > 2000
  · rw [if_pos c2] at H
    have c2b0 : decide (2000 < (l0.length : Int)) = true := decide_eq_true c2
    have c2b1 : decide (2000 < l0.length) = true := decide_eq_true (by omega)
    clear c2
    by_cases c3 : 2000 ≤ (l0.length : Int)
    · rw [if_pos c3] at H
      have c3b0 := eq_true c3
      have c3b1 : decide (2000 ≤ (l0.length : Int)) = true := decide_eq_true c3
      clear c3
      simp only [Option.some.injEq, Prod.mk.injEq] at H
      obtain ⟨rfl, rfl⟩ := H
      obtain ⟨i04, hi04, _, hsz4, _⟩ := info_parts info5
      obtain ⟨hcut4, hA4, hC4⟩ := print_take_of (P := Try.prog) (Value.int .u8) 0 30 5 .i64 Try.underlying30 hi04 hsz4 A0 c0 l0 2000 (by omega) (of_decide_eq_true (by first | (with_reducible assumption) | assumption)) HC0.out
      have HR158 := Aside0.mk (Kd.C_of_reads (h1 := fun _ => rfl) (hA4 _ (Kd.reads_of_C HR0.out)))
      have HC158 := Aside0.mk hC4
      clear hA4 hC4 hi04 hsz4
      go_enter Try.func20, Try.ntmps20
      go_wp2_with (first | ((with_reducible refine gate_dst (N := 10) rfl ?_); refine box_event ?hg (N := 10) ?hd (cs := #[.slice A0 (l0.take 2000).length c0, .int .i64 0]) (t := 52) ?hr ?_; (case hd => rfl); (case hg => rfl); (case hr => first | (go_simp; done) | (go_simp; rfl)); intro gb159 hg w5 hbox hb; have n0_ := Aside0.mk (below_step HBW.out hb); have n1_ := Aside0.mk (below_step (by repeat (first | (with_reducible first | exact HB.out | apply below_alloc | apply pw_below_drewN | apply below_drew1) | exact HB.out)) hb); have n2_ := Aside0.mk (hbox); have n3_ := Aside0.mk ((by rw [hg]; exact (below_size (by repeat (first | (with_reducible first | exact HBW.out | apply below_alloc | apply pw_below_drewN | apply below_drew1) | exact HBW.out))) : w.heap.size ≤ gb159)); have n4_ := Aside0.mk ((Nat.le_trans HW0.out (by rw [hg]; exact (below_size (by repeat (first | (with_reducible first | exact HBW.out | apply below_alloc | apply pw_below_drewN | apply below_drew1) | exact HBW.out))) : w.heap.size ≤ gb159) : w0.heap.size ≤ gb159)); clear HBW; clear HB; have HBW := n0_; have HB := n1_; have BK159 := n2_; have GW159 := n3_; have GE159 := n4_; clear n0_ n1_ n2_ n3_ n4_; clear hb hbox hg))
      go_ret
      exact ⟨_, rfl, (show IsS52 w0 _ gb159 (l0.take 2000) 0 from ⟨_, _, by (with_reducible repeat (first | refine blk_drewN ?_ _ | refine blk_drew ?_ | refine blk_alloc ?_ _)); exact BK159.out, GE159.out, HR158.out⟩), by repeat (first | (with_reducible first | exact HB.out | apply below_alloc | apply pw_below_drewN | apply below_drew1 | refine below_set ?_ GE159.out) | exact HB.out), by repeat (first | (with_reducible first | exact HBW.out | apply below_alloc | apply pw_below_drewN | apply below_drew1 | refine below_set ?_ GW159.out) | exact HBW.out)⟩
    · rw [if_neg c3] at H
      exact absurd H (by simp)
  · rw [if_neg c2] at H
    have c2b0 : decide (2000 < (l0.length : Int)) = false := decide_eq_false c2
    have c2b1 : decide (2000 < l0.length) = false := decide_eq_false (by omega)
    clear c2
    simp only [Option.some.injEq, Prod.mk.injEq] at H
    obtain ⟨rfl, rfl⟩ := H
    go_enter Try.func20, Try.ntmps20
    go_wp2_with (first | ((with_reducible refine gate_dst (N := 10) rfl ?_); refine box_event ?hg (N := 10) ?hd (cs := #[.slice A0 l0.length c0, .int .i64 0]) (t := 52) ?hr ?_; (case hd => rfl); (case hg => rfl); (case hr => first | (go_simp; done) | (go_simp; rfl)); intro gb160 hg w6 hbox hb; have n0_ := Aside0.mk (below_step HBW.out hb); have n1_ := Aside0.mk (below_step (by repeat (first | (with_reducible first | exact HB.out | apply below_alloc | apply pw_below_drewN | apply below_drew1) | exact HB.out)) hb); have n2_ := Aside0.mk (hbox); have n3_ := Aside0.mk ((by rw [hg]; exact (below_size (by repeat (first | (with_reducible first | exact HBW.out | apply below_alloc | apply pw_below_drewN | apply below_drew1) | exact HBW.out))) : w.heap.size ≤ gb160)); have n4_ := Aside0.mk ((Nat.le_trans HW0.out (by rw [hg]; exact (below_size (by repeat (first | (with_reducible first | exact HBW.out | apply below_alloc | apply pw_below_drewN | apply below_drew1) | exact HBW.out))) : w.heap.size ≤ gb160) : w0.heap.size ≤ gb160)); clear HBW; clear HB; have HBW := n0_; have HB := n1_; have BK160 := n2_; have GW160 := n3_; have GE160 := n4_; clear n0_ n1_ n2_ n3_ n4_; clear hb hbox hg))
    go_ret
    exact ⟨_, rfl, (show IsS52 w0 _ gb160 l0 0 from ⟨_, _, by (with_reducible repeat (first | refine blk_drewN ?_ _ | refine blk_drew ?_ | refine blk_alloc ?_ _)); exact BK160.out, GE160.out, HR0.out⟩), by repeat (first | (with_reducible first | exact HB.out | apply below_alloc | apply pw_below_drewN | apply below_drew1 | refine below_set ?_ GE160.out) | exact HB.out), by repeat (first | (with_reducible first | exact HBW.out | apply below_alloc | apply pw_below_drewN | apply below_drew1 | refine below_set ?_ GW160.out) | exact HBW.out)⟩

/-! ### spec_DrawBoardFree: function 15 -/
def spec_DrawBoardFree.f (k : Nat) (l0 : List Int) : Option (Int × Int × Int) := (spec_l20Open.f l0).bind fun bt162 => ((spec_l20Board.f k bt162.1 bt162.2 9).bind fun bt165 => (some (bt165.1, bt165.2.1, bt165.2.2.1)))
theorem spec_DrawBoardFree.mono : ∀ a0 k, LeO (spec_DrawBoardFree.f k a0) (spec_DrawBoardFree.f (k + 1) a0) := by
  intro a0 k
  unfold spec_DrawBoardFree.f
  repeat' first
      | (with_reducible exact spec_l20Board.mono _ _ _ _)
      | (with_reducible exact LeO.refl _)
      | (with_reducible exact LeO.none _)
      | (with_reducible refine LeO.ite ?_ ?_)
      | (with_reducible refine LeO.bind ?_ (fun _ => ?_))
      | exact spec_l20Board.mono _ _ _ _
      | exact LeO.none _
      | refine LeO.ite ?_ ?_
      | refine LeO.bind ?_ (fun _ => ?_)
set_option maxHeartbeats 8000000 in
set_option maxRecDepth 100000 in
theorem spec_DrawBoardFree.calls (k : Nat) (A0 : Option Addr) (c0 : Nat) (l0 : List Int) (r1 : Int) (r2 : Int) (r3 : Int) (w : World) (hr0 : Kd.C (Kd.int .u8) w A0 l0.length l0) (hc0 : l0.length ≤ c0) (h : spec_DrawBoardFree.f k l0 = some (r1, r2, r3)) :
    Calls Try.prog 15 #[.slice A0 l0.length c0] w fun e w' => e = .returned (.agg #[.int .i64 r1, .int .i64 r2, .int .i64 r3]) ∧ Below w.heap.size w w' := by
  have hu26 := Try.underlying26
  have HR0 := Aside0.mk hr0
  have HC0 := Aside0.mk hc0
  clear hr0 hc0
  have HB := Aside0.mk (Below.refl w.heap.size w)
  have H : ((spec_l20Open.f l0).bind fun bt162 => ((spec_l20Board.f k bt162.1 bt162.2 9).bind fun bt165 => (some (bt165.1, bt165.2.1, bt165.2.2.1)))) = some (r1, r2, r3) := h
  clear h
  replace H := Option.bind_eq_some_iff.mp H
  obtain ⟨⟨t162, t163⟩, A20, H⟩ := H
  replace H : ((spec_l20Board.f k t162 t163 9).bind fun bt165 => (some (bt165.1, bt165.2.1, bt165.2.2.1))) = some (r1, r2, r3) := H
  have A2 := Aside0.mk A20
  clear A20
  replace H := Option.bind_eq_some_iff.mp H
  obtain ⟨⟨t165, t166, t167, t168⟩, A30, H⟩ := H
  replace H : (some (t165, t166, t167)) = some (r1, r2, r3) := H
  have A3 := Aside0.mk A30
  clear A30
  simp only [Option.some.injEq, Prod.mk.injEq] at H
  obtain ⟨rfl, rfl, rfl⟩ := H
  go_enter Try.func15, Try.ntmps15
  go_wp2_with (first | ((with_reducible refine gate_dst (N := 2) rfl ?_); refine box_event ?hg (N := 2) ?hd (cs := #[.int .i64 0, .int .i64 0, .int .i64 0]) (t := 26) ?hr ?_; (case hd => rfl); (case hg => rfl); (case hr => first | (go_simp; done) | (go_simp; rfl)); intro gb161 hg w4 hbox hb; have n0_ := Aside0.mk (below_step (by repeat (first | (with_reducible first | exact HB.out | apply below_alloc | apply pw_below_drewN | apply below_drew1) | exact HB.out)) hb); have n1_ := Aside0.mk (hbox); have n2_ := Aside0.mk ((by rw [hg]; exact (below_size (by repeat (first | (with_reducible first | exact HB.out | apply below_alloc | apply pw_below_drewN | apply below_drew1) | exact HB.out))) : w.heap.size ≤ gb161)); have n3_ := Aside0.mk ((by rw [hg]; exact (below_size (by repeat (first | (with_reducible first | exact HB.out | apply below_alloc | apply pw_below_drewN | apply below_drew1) | exact HB.out))) : w.heap.size ≤ gb161)); clear HB; have HB := n0_; have BK161 := n1_; have GW161 := n2_; have GE161 := n3_; clear n0_ n1_ n2_ n3_; clear hb hbox hg) | ((with_reducible refine gate_callee (f := 20) rfl ?_); refine goesL_ (some 4) rfl rfl Try.func20 (by kernel_rfl) rfl #[.slice A0 l0.length c0] rfl (by (try simp only [List.map_toArray, List.map_cons, List.map_nil]); first | done | rfl | (simp only [List.length_drop, List.length_take]; rfl)) ?_; (with_reducible refine (spec_l20Open.calls _ _ l0 t162 t163 w _ ?side1 ?side2 ?side3 A2.out).mono ?_); (case side1 => repeat (first | (with_reducible first | exact HB.out | apply below_alloc | apply pw_below_drewN | apply below_drew1 | refine below_set ?_ GE161.out) | exact HB.out)); (case side2 => exact HR0.out); (case side3 => exact HC0.out); rintro e w5 ⟨g164, rfl, hi, hb, hb2⟩; refine ⟨_, rfl, ?_⟩; have n0_ := Aside0.mk (blk_below (g := gb161) (o := .cells #[.int .i64 0, .int .i64 0, .int .i64 0] 26 (0, 0)) (by (with_reducible repeat (first | refine blk_drewN ?_ _ | refine blk_drew ?_ | refine blk_alloc ?_ _)); exact BK161.out) hb2); have n1_ := Aside0.mk (hb); have n2_ := Aside0.mk (hi); have n3_ := Aside0.mk (IsS52.ne_blk hi (blk_below (g := gb161) (o := .cells #[.int .i64 0, .int .i64 0, .int .i64 0] 26 (0, 0)) (by (with_reducible repeat (first | refine blk_drewN ?_ _ | refine blk_drew ?_ | refine blk_alloc ?_ _)); exact BK161.out) hb2) (by decide)); have n4_ := Aside0.mk (Ne.symm (IsS52.ne_blk hi (blk_below (g := gb161) (o := .cells #[.int .i64 0, .int .i64 0, .int .i64 0] 26 (0, 0)) (by (with_reducible repeat (first | refine blk_drewN ?_ _ | refine blk_drew ?_ | refine blk_alloc ?_ _)); exact BK161.out) hb2) (by decide))); clear BK161; clear HB; have BK161 := n0_; have HB := n1_; have HI164 := n2_; have NB164_161 := n3_; have NB161_164 := n4_; clear n0_ n1_ n2_ n3_ n4_; (try clear hb); (try clear hb2); (try clear hk); (try clear hi)) | ((with_reducible refine gate_callee (f := 19) rfl ?_); refine goesL_ (some 5) rfl rfl Try.func19 (by kernel_rfl) rfl #[.pointer (some ⟨g164, 0, none⟩), .int .i64 9] rfl (by (try simp only [List.map_toArray, List.map_cons, List.map_nil]); first | done | rfl | (simp only [List.length_drop, List.length_take]; rfl)) ?_; (with_reducible refine (spec_l20Board.calls k g164 t162 t163 9 t165 t166 t167 t168 w _ ?side1 ?side2 A3.out).mono ?_); (case side1 => repeat (first | (with_reducible first | exact HI164.out | apply IsS52.alloc | apply IsS52.drewN | apply IsS52.drew | apply IsS52.set_1 | refine IsS52.far ?_ NB164_161.out _) | exact HI164.out)); (case side2 => repeat (first | (with_reducible first | exact HB.out | apply below_alloc | apply pw_below_drewN | apply below_drew1 | refine below_set ?_ (IsS52.ge HI164.out) | refine below_set ?_ GE161.out) | exact HB.out)); rintro e w6 ⟨rfl, hi, hb, hk⟩; refine ⟨_, rfl, ?_⟩; have n0_ := Aside0.mk (KeepBut.blk hk (g' := gb161) (o := .cells #[.int .i64 0, .int .i64 0, .int .i64 0] 26 (0, 0)) (by (with_reducible repeat (first | refine blk_drewN ?_ _ | refine blk_drew ?_ | refine blk_alloc ?_ _)); exact BK161.out) NB161_164.out (by simp)); have n1_ := Aside0.mk (hb); have n2_ := Aside0.mk (hi); clear BK161; clear HB; clear HI164; have BK161 := n0_; have HB := n1_; have HI164 := n2_; clear n0_ n1_ n2_; (try clear hb); (try clear hb2); (try clear hk); (try clear hi); have hnb7 := NB161_164.out; have hnc7 := NB164_161.out; have hcz8_0 : w6.cell? ⟨gb161, 0, none⟩ = some (.int .i64 0) := (blk_cell BK161.out 0).trans rfl; have hcz8_1 : w6.cell? ⟨gb161, 1, none⟩ = some (.int .i64 0) := (blk_cell BK161.out 1).trans rfl; have hcz8_2 : w6.cell? ⟨gb161, 2, none⟩ = some (.int .i64 0) := (blk_cell BK161.out 2).trans rfl; have hfz8_0 := blk_frozen BK161.out 0; have hfz8_1 := blk_frozen BK161.out 1; have hfz8_2 := blk_frozen BK161.out 2))
  refine bodyPost_ret (results_cell_row rfl _ _ gb161 26 #[.int .i64 t165, .int .i64 t166, .int .i64 t167] (0, 0) _ rfl (by (with_reducible repeat (first | refine blk_drewN ?_ _ | refine blk_drew ?_ | refine blk_alloc ?_ _)); refine blk_put (cs := #[.int .i64 t165, .int .i64 t166, .int .i64 0]) ?_ 2 _ rfl; (with_reducible repeat (first | refine blk_drewN ?_ _ | refine blk_drew ?_ | refine blk_alloc ?_ _)); refine blk_put (cs := #[.int .i64 t165, .int .i64 0, .int .i64 0]) ?_ 1 _ rfl; (with_reducible repeat (first | refine blk_drewN ?_ _ | refine blk_drew ?_ | refine blk_alloc ?_ _)); refine blk_put (cs := #[.int .i64 0, .int .i64 0, .int .i64 0]) ?_ 0 _ rfl; (with_reducible repeat (first | refine blk_drewN ?_ _ | refine blk_drew ?_ | refine blk_alloc ?_ _)); exact BK161.out) Try.underlying26 rfl (by kernel_rfl)) rfl ?_
  exact ⟨by first | rfl | (simp [errW_none, errW_some] <;> rfl) | (simp [*, errW_none, errW_some] <;> rfl), by repeat (first | (with_reducible first | exact HB.out | apply below_alloc | apply pw_below_drewN | apply below_drew1 | refine below_set ?_ (IsS52.ge HI164.out) | refine below_set ?_ GE161.out) | exact HB.out)⟩

end Go.Proofs.Ytbdkmkbkggnekaa.PFnBoardFree
