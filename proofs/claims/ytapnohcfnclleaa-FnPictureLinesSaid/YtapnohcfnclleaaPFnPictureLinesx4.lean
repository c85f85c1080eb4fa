-- Made by a program of this session (the kit print, shortened, twice): the kit print itself does not give this text
import Derived.Test.YtapnohcfnclleaaV4
import Derived.Test.YtapnohcfnclleaaPFnPictureLinesx0
import Derived.Test.YtapnohcfnclleaaPFnPictureLinesx2
import Derived.Test.YtapnohcfnclleaaPFnPictureLinesx3
namespace Go.Proofs.Ytapnohcfnclleaa.PFnPictureLines
open Go.RowKit Go.Proofs.YtapnohcfnclleaaW.PrintWords Go.Proofs.YtapnohcfnclleaaW.PrintLast Go.Proofs.YtapnohcfnclleaaW.PrintMore
attribute [local go_sem] max2_int min2_int max_two min_two max_three min_three max_four min_four   -- for this text's walks alone
set_option linter.unusedVariables false
set_option linter.unusedSimpArgs false
/-! ### spec_l20Picture: function 45 -/
def spec_l20Picture.j0 : Nat → Int → List Int → Int → List (List Int) → List (List Int) → Option ((List (List Int)) × (List (List Int)) × Int)
 | 0, _, _, _, _, _ => none
 | k + 1, x1, x1000, x1001, x236000, x236001 => (spec_l20Rd_odd.f k x1000 x1001 x1).bind fun bt252 => (if bt252.1 = true then ((spec_l20Rd_pick.f k x1000 bt252.2 3).bind fun bt254 => (if bt254.1 = 0 then (some ((([] : List (List Int))), x236001, bt254.2)) else (if bt254.1 = 1 then (if 0 < (x236001.length : Int) then (some (x236000, (x236001.set (0 : Int).toNat (([6] : List Int))), bt254.2)) else (none)) else (if 0 < (x236000.length : Int) then (some ((x236000.set (0 : Int).toNat (([0] : List Int))), x236001, bt254.2)) else (none))))) else (some (x236000, x236001, bt252.2)))
def lit2 (x : Int) : List Int := if x = 0 then [] else [1]
def spec_l20Picture.f (k : Nat) (s0_0 : List Int) (s0_1 : Int) (a1 : Int) : Option ((List (List Int)) × (List (List Int)) × Int) := (spec_l20Rows.f k s0_0 s0_1 0).bind fun bt224 => ((spec_PictureOf.f k bt224.1).bind fun bt228 => ((spec_l20Rd_odd.f k s0_0 bt224.2 5).bind fun bt236 => (if bt236.1 = true then ((spec_l20Rd_pick.f k s0_0 bt236.2 (bt228.1.length : Int)).bind fun bt238 => ((spec_l20Rd_pick.f k s0_0 bt238.2 2).bind fun bt249 => (if 0 ≤ bt238.1 ∧ (bt249.1 = 0 ∨ bt249.1 = 1) then (if bt238.1 < (bt228.1.length : Int) then (spec_l20Picture.j0 k a1 s0_0 bt249.2 (bt228.1.set (bt238.1 : Int).toNat (lit2 bt249.1)) bt228.2.1) else (none)) else (none)))) else (spec_l20Picture.j0 k a1 s0_0 bt236.2 bt228.1 bt228.2.1))))
def spec_l20Picture.T3 : Bool × List (List Nat × List Nat) := (true, [([], []), ([0], [0]), ([], []), ([], []), ([3], [3]), ([4], [4]), ([2, 5], [2, 5]), ([], []), ([], []), ([7, 8], [7, 8]), ([], []), ([10, 6], [10]), ([9, 11], [9, 11]), ([12], [12]), ([1, 6, 0, 1, 2, 3, 4, 5, 6, 7, 8, 9, 10, 11, 12, 13], [1, 6]), ([14, 13, 11, 0, 1, 2, 3, 4, 5, 6, 7, 8, 9, 10, 11, 12, 13], [13, 14])])
def spec_l20Picture.B3 : List Nat := [0, 1, 0, 0, 8, 24, 60, 0, 0, 384, 0, 1148, 4092, 8188, 16383, 32767]
theorem spec_l20Picture.tab3 : rtab .any (opsOf Try.f45 3) = spec_l20Picture.T3 := by kernel_rfl
theorem spec_l20Picture.bits3 : waitsOk spec_l20Picture.T3.2 spec_l20Picture.B3 = true := by kernel_rfl
set_option maxHeartbeats 8000000 in
set_option maxRecDepth 100000 in
theorem spec_l20Picture.calls (k : Nat) (g : Nat) (s0_0 : List Int) (s0_1 : Int) (a1 : Int) (r1 : List (List Int)) (r2 : List (List Int)) (r3 : Int) (w0 w : World) (hI : IsS80 w0 w g s0_0 s0_1) (hB : Below w0.heap.size w0 w) (h : spec_l20Picture.f k s0_0 s0_1 a1 = some (r1, r2, r3)) :
  Calls Try.prog 45 #[.pointer (some ⟨g, 0, none⟩), .int .i64 a1] w fun e w' => ∃ v0_ v1_ : Value, e = .returned (.agg #[v0_, v1_]) ∧ Kd.N (Kd.slice 3 (Kd.int .i64)) 36 w' w.heap.size (fun k_ => (w.heap.size ≤ k_) ∧ some k_ ≠ (v1_ : Value).ownBlock) v0_ r1 ∧ Kd.N (Kd.slice 3 (Kd.int .i64)) 36 w' w.heap.size (fun k_ => (w.heap.size ≤ k_) ∧ some k_ ≠ (v0_ : Value).ownBlock) v1_ r2 ∧ IsS80 w0 w' g s0_0 r3 ∧ Below w0.heap.size w0 w' ∧ KeepBut w w' g none := by
 have hu25 := Try.underlying25
 have HI0 := am hI
 have HK := am (KeepBut.refl w g none)
 have HL := am hB.size
 clear hI
 have HW0 := am hB.size
 have HB := am hB
 clear hB
 have H : ((spec_l20Rows.f k s0_0 s0_1 0).bind fun bt224 => ((spec_PictureOf.f k bt224.1).bind fun bt228 => ((spec_l20Rd_odd.f k s0_0 bt224.2 5).bind fun bt236 => (if bt236.1 = true then ((spec_l20Rd_pick.f k s0_0 bt236.2 (bt228.1.length : Int)).bind fun bt238 => ((spec_l20Rd_pick.f k s0_0 bt238.2 2).bind fun bt249 => (if 0 ≤ bt238.1 ∧ (bt249.1 = 0 ∨ bt249.1 = 1) then (if bt238.1 < (bt228.1.length : Int) then (spec_l20Picture.j0 k a1 s0_0 bt249.2 (bt228.1.set (bt238.1 : Int).toNat (lit2 bt249.1)) bt228.2.1) else (none)) else (none)))) else (spec_l20Picture.j0 k a1 s0_0 bt236.2 bt228.1 bt228.2.1))))) = some (r1, r2, r3) := h
 clear h
 replace H := Option.bind_eq_some_iff.mp H
 obtain ⟨⟨t224, t227⟩, A30, H⟩ := H
 replace H : ((spec_PictureOf.f k t224).bind fun bt228 => ((spec_l20Rd_odd.f k s0_0 t227 5).bind fun bt236 => (if bt236.1 = true then ((spec_l20Rd_pick.f k s0_0 bt236.2 (bt228.1.length : Int)).bind fun bt238 => ((spec_l20Rd_pick.f k s0_0 bt238.2 2).bind fun bt249 => (if 0 ≤ bt238.1 ∧ (bt249.1 = 0 ∨ bt249.1 = 1) then (if bt238.1 < (bt228.1.length : Int) then (spec_l20Picture.j0 k a1 s0_0 bt249.2 (bt228.1.set (bt238.1 : Int).toNat (lit2 bt249.1)) bt228.2.1) else (none)) else (none)))) else (spec_l20Picture.j0 k a1 s0_0 bt236.2 bt228.1 bt228.2.1)))) = some (r1, r2, r3) := H
 have A3 := am A30
 clear A30
 replace H := Option.bind_eq_some_iff.mp H
 obtain ⟨⟨t228, t231, t234⟩, A40, H⟩ := H
 replace H : ((spec_l20Rd_odd.f k s0_0 t227 5).bind fun bt236 => (if bt236.1 = true then ((spec_l20Rd_pick.f k s0_0 bt236.2 (t228.length : Int)).bind fun bt238 => ((spec_l20Rd_pick.f k s0_0 bt238.2 2).bind fun bt249 => (if 0 ≤ bt238.1 ∧ (bt249.1 = 0 ∨ bt249.1 = 1) then (if bt238.1 < (t228.length : Int) then (spec_l20Picture.j0 k a1 s0_0 bt249.2 (t228.set (bt238.1 : Int).toNat (lit2 bt249.1)) t231) else (none)) else (none)))) else (spec_l20Picture.j0 k a1 s0_0 bt236.2 t228 t231))) = some (r1, r2, r3) := H
 have A4 := am A40
 clear A40
 replace H := Option.bind_eq_some_iff.mp H
 obtain ⟨⟨t236, t237⟩, A50, H⟩ := H
 replace H : (if t236 = true then ((spec_l20Rd_pick.f k s0_0 t237 (t228.length : Int)).bind fun bt238 => ((spec_l20Rd_pick.f k s0_0 bt238.2 2).bind fun bt249 => (if 0 ≤ bt238.1 ∧ (bt249.1 = 0 ∨ bt249.1 = 1) then (if bt238.1 < (t228.length : Int) then (spec_l20Picture.j0 k a1 s0_0 bt249.2 (t228.set (bt238.1 : Int).toNat (lit2 bt249.1)) t231) else (none)) else (none)))) else (spec_l20Picture.j0 k a1 s0_0 t237 t228 t231)) = some (r1, r2, r3) := H
 have A5 := am A50
 clear A50
 have HC6 := am H
 clear H
 go_enter Try.func45, Try.ntmps45
 go_upto_if 14 with (first | ((with_reducible refine gate_dst (N := 4) rfl ?_); refine box_event ?hg (N := 4) ?hd (cs := #[.slice none 0 0, .slice none 0 0]) (t := 25) ?hr ?_; (case hd => rfl); (case hg => rfl); (case hr => first | (go_simp; done) | (go_simp; rfl)); intro gb223 hg w7 hbox hb; have n0_ := am (IsS80.below (by repeat (first | (with_reducible first | exact HI0.out | apply IsS80.alloc | apply IsS80.drewN | apply IsS80.drew | apply IsS80.set_1) | exact HI0.out)) hb); have n1_ := am (KeepBut.trans (by repeat (first | (with_reducible first | exact HK.out | apply KeepBut.set_ | apply keep_drewN | apply keep_drew | apply keep_alloc) | exact HK.out)) (KeepBut.of_below hb g none) (.inl rfl)); have n2_ := am (below_step (by repeat (first | (with_reducible first | exact HB.out | apply below_alloc | apply pw_below_drewN | apply below_drew1 | refine below_set ?_ (IsS80.ge HI0.out)) | exact HB.out)) hb); have n3_ := am (hbox); have n4_ := am ((by rw [hg]; exact (keep_size (w := w) (g := g) (row := none) (by repeat (first | (with_reducible first | exact HK.out | apply KeepBut.set_ | apply keep_drewN | apply keep_drew | apply keep_alloc) | exact HK.out))) : w.heap.size ≤ gb223)); have n5_ := am ((Nat.le_trans HW0.out (by rw [hg]; exact (keep_size (w := w) (g := g) (row := none) (by repeat (first | (with_reducible first | exact HK.out | apply KeepBut.set_ | apply keep_drewN | apply keep_drew | apply keep_alloc) | exact HK.out))) : w.heap.size ≤ gb223) : w0.heap.size ≤ gb223)); have n6_ := am ((by rw [hg]; exact Nat.ne_of_lt (IsS80.lt (show IsS80 w0 _ g s0_0 s0_1 from by repeat (first | (with_reducible first | exact HI0.out | apply IsS80.alloc | apply IsS80.drewN | apply IsS80.drew | apply IsS80.set_1) | exact HI0.out))) : g ≠ gb223)); have n7_ := am ((by rw [hg]; exact Nat.ne_of_gt (IsS80.lt (show IsS80 w0 _ g s0_0 s0_1 from by repeat (first | (with_reducible first | exact HI0.out | apply IsS80.alloc | apply IsS80.drewN | apply IsS80.drew | apply IsS80.set_1) | exact HI0.out))) : gb223 ≠ g)); clear HI0 HK HB; revert n0_ n1_ n2_ n3_ n4_ n5_ n6_ n7_; intro HI0 HK HB BK223 GW223 GE223 NB0_223 NB223_0; clear hb hbox hg) | ((with_reducible refine gate_callee (f := 68) rfl ?_); refine goesL_ (some 9) rfl rfl Try.func68 (by kernel_rfl) rfl #[.pointer (some ⟨g, 0, none⟩), .int .i64 0] rfl (by (try simp only [List.map_toArray, List.map_cons, List.map_nil]); first | done | rfl | (simp only [List.length_drop, List.length_take]; rfl)) ?_; (with_reducible refine (spec_l20Rows.calls k g s0_0 s0_1 0 t224 t227 w0 _ ?side1 ?side2 A3.out).mono ?_); (case side1 => repeat (first | (with_reducible first | exact HI0.out | apply IsS80.alloc | apply IsS80.drewN | apply IsS80.drew | apply IsS80.set_1 | refine IsS80.far ?_ NB0_223.out _) | exact HI0.out)); (case side2 => repeat (first | (with_reducible first | exact HB.out | apply below_alloc | apply pw_below_drewN | apply below_drew1 | refine below_set ?_ (IsS80.ge HI0.out) | refine below_set ?_ GE223.out) | exact HB.out)); rintro e w8 ⟨v225, rfl, ho0, hi, hb, hk⟩; refine ⟨_, rfl, ?_⟩; have n0_ := am (KeepBut.blk hk (g' := gb223) (o := .cells #[.slice none 0 0, .slice none 0 0] 25 (0, 0)) (bv BK223.out) NB223_0.out (by simp)); have n1_ := am (Kd.N_lower (Kd.N_mono (ok' := fun k_ => (w.heap.size ≤ k_) ∧ k_ ≠ gb223 ∧ k_ ≠ g) (Kd.R_N (Kd.R_bound ho0)) (fun k_ hk_ => ⟨(Nat.le_trans (keep_size (w := w) (g := g) (row := none) (by repeat (first | (with_reducible first | exact HK.out | apply KeepBut.set_ | apply keep_drewN | apply keep_drew | apply keep_alloc | refine keep_far ?_ GW223.out _) | exact HK.out))) hk_.2.1), (Kd.freshB (g := gb223) (o := .cells #[.slice none 0 0, .slice none 0 0] 25 (0, 0)) (bv BK223.out) k_ hk_.2.1), (IsS80.fresh (by repeat (first | (with_reducible first | exact HI0.out | apply IsS80.alloc | apply IsS80.drewN | apply IsS80.drew | apply IsS80.set_1 | refine IsS80.far ?_ NB0_223.out _) | exact HI0.out)) k_ hk_.2.1)⟩)) (keep_size (w := w) (g := g) (row := none) (by repeat (first | (with_reducible first | exact HK.out | apply KeepBut.set_ | apply keep_drewN | apply keep_drew | apply keep_alloc | refine keep_far ?_ GW223.out _) | exact HK.out)))); have n2_ := am (KeepBut.trans (by repeat (first | (with_reducible first | exact HK.out | apply KeepBut.set_ | apply keep_drewN | apply keep_drew | apply keep_alloc | refine keep_far ?_ GW223.out _) | exact HK.out)) hk (.inl rfl)); have n3_ := am (hb); have n4_ := am (hi); clear BK223 HK HB HI0; revert n0_ n1_ n2_ n3_ n4_; intro BK223 HO226 HK HB HI0; (try clear hb); (try clear hb2); (try clear hk); (try clear hi); (try clear ho0); obtain ⟨Ao9, co9, eo9⟩ := Kd.N_slice HO226.out; subst eo9) | ((with_reducible refine gate_callee (f := 28) rfl ?_); refine goesL_ (some 10) rfl rfl Try.func28 (by kernel_rfl) rfl #[.slice Ao9 t224.length co9] rfl (by (try simp only [List.map_toArray, List.map_cons, List.map_nil]); first | done | rfl | (simp only [List.length_drop, List.length_take]; rfl)) ?_; (with_reducible refine (spec_PictureOf.calls k _ _ t224 t228 t231 t234 _ ?side1 ?side2 A4.out).mono ?_); (case side1 => exact Kd.cv (Kd.N_reads' HO226.out).2.2); (case side2 => exact (Kd.N_reads' HO226.out).2.1); rintro e w10 ⟨v229, v232, rfl, ho0, ho1, hb⟩; refine ⟨_, rfl, ?_⟩; have n0_ := am (Kd.N_mono (Kd.N_told (Kd.N_told (Kd.N_old (Kd.nv HO226.out) hb) (Kd.R_base ho0)) (Kd.R_base ho1)) (fun _ h_ => h_.1)); have n1_ := am (Kd.N_lower (Kd.N_mono (ok' := fun k_ => (w.heap.size ≤ k_) ∧ some k_ ≠ (v232 : Value).ownBlock ∧ some k_ ≠ (.slice Ao9 t224.length co9 : Value).ownBlock ∧ k_ ≠ gb223 ∧ k_ ≠ g) (Kd.R_N (Kd.R_bound ho0)) (fun k_ hk_ => ⟨(Nat.le_trans (keep_size (w := w) (g := g) (row := none) (by repeat (first | (with_reducible first | exact HK.out | apply KeepBut.set_ | apply keep_drewN | apply keep_drew | apply keep_alloc | refine keep_far ?_ GW223.out _) | exact HK.out))) hk_.2.1), hk_.1, (Kd.fresh' (Kd.N_lt (Kd.nv HO226.out)) k_ hk_.2.1), (Kd.freshB (g := gb223) (o := .cells #[.slice none 0 0, .slice none 0 0] 25 (0, 0)) (bv BK223.out) k_ hk_.2.1), (IsS80.fresh (by repeat (first | (with_reducible first | exact HI0.out | apply IsS80.alloc | apply IsS80.drewN | apply IsS80.drew | apply IsS80.set_1 | refine IsS80.far ?_ NB0_223.out _) | exact HI0.out)) k_ hk_.2.1)⟩)) (keep_size (w := w) (g := g) (row := none) (by repeat (first | (with_reducible first | exact HK.out | apply KeepBut.set_ | apply keep_drewN | apply keep_drew | apply keep_alloc | refine keep_far ?_ GW223.out _) | exact HK.out)))); have n2_ := am (Kd.N_lower (Kd.N_mono (ok' := fun k_ => (w.heap.size ≤ k_) ∧ some k_ ≠ (v229 : Value).ownBlock ∧ some k_ ≠ (.slice Ao9 t224.length co9 : Value).ownBlock ∧ k_ ≠ gb223 ∧ k_ ≠ g) (Kd.R_N (Kd.R_bound ho1)) (fun k_ hk_ => ⟨(Nat.le_trans (keep_size (w := w) (g := g) (row := none) (by repeat (first | (with_reducible first | exact HK.out | apply KeepBut.set_ | apply keep_drewN | apply keep_drew | apply keep_alloc | refine keep_far ?_ GW223.out _) | exact HK.out))) hk_.2.1), hk_.1, (Kd.fresh' (Kd.N_lt (Kd.nv HO226.out)) k_ hk_.2.1), (Kd.freshB (g := gb223) (o := .cells #[.slice none 0 0, .slice none 0 0] 25 (0, 0)) (bv BK223.out) k_ hk_.2.1), (IsS80.fresh (by repeat (first | (with_reducible first | exact HI0.out | apply IsS80.alloc | apply IsS80.drewN | apply IsS80.drew | apply IsS80.set_1 | refine IsS80.far ?_ NB0_223.out _) | exact HI0.out)) k_ hk_.2.1)⟩)) (keep_size (w := w) (g := g) (row := none) (by repeat (first | (with_reducible first | exact HK.out | apply KeepBut.set_ | apply keep_drewN | apply keep_drew | apply keep_alloc | refine keep_far ?_ GW223.out _) | exact HK.out)))); have n3_ := am (IsS80.below (by repeat (first | (with_reducible first | exact HI0.out | apply IsS80.alloc | apply IsS80.drewN | apply IsS80.drew | apply IsS80.set_1 | refine IsS80.far ?_ NB0_223.out _) | exact HI0.out)) hb); have n4_ := am (blk_below (g := gb223) (o := .cells #[.slice none 0 0, .slice none 0 0] 25 (0, 0)) (bv BK223.out) hb); have n5_ := am (KeepBut.trans (by repeat (first | (with_reducible first | exact HK.out | apply KeepBut.set_ | apply keep_drewN | apply keep_drew | apply keep_alloc | refine keep_far ?_ GW223.out _) | exact HK.out)) (KeepBut.of_below hb g none) (.inl rfl)); have n6_ := am (below_step (by repeat (first | (with_reducible first | exact HB.out | apply below_alloc | apply pw_below_drewN | apply below_drew1 | refine below_set ?_ (IsS80.ge HI0.out) | refine below_set ?_ GE223.out) | exact HB.out)) hb); clear HO226 HI0 BK223 HK HB; revert n0_ n1_ n2_ n3_ n4_ n5_ n6_; intro HO226 HO230 HO233 HI0 BK223 HK HB; (try clear hb); (try clear hb2); (try clear hk); (try clear hi); (try clear ho0); (try clear ho1)) | ((with_reducible refine gate_dst (N := 5) rfl ?_); refine box_event ?hg (N := 5) ?hd (cs := #[.slice none 0 0, .slice none 0 0]) (t := 25) ?hr ?_; (case hd => rfl); (case hg => rfl); (case hr => first | (go_simp; done) | (go_simp; rfl)); intro gb235 hg w11 hbox hb; have n0_ := am (Kd.N_below (Kd.N_elderB (Kd.nv HO226.out) gb235 (Nat.le_of_eq hg.symm)) hb); have n1_ := am (Kd.N_below (Kd.N_elderB (Kd.nv HO230.out) gb235 (Nat.le_of_eq hg.symm)) hb); have n2_ := am (Kd.N_below (Kd.N_elderB (Kd.nv HO233.out) gb235 (Nat.le_of_eq hg.symm)) hb); have n3_ := am (IsS80.below (by repeat (first | (with_reducible first | exact HI0.out | apply IsS80.alloc | apply IsS80.drewN | apply IsS80.drew | apply IsS80.set_1 | refine IsS80.far ?_ NB0_223.out _) | exact HI0.out)) hb); have n4_ := am (blk_below (g := gb223) (o := .cells #[.slice none 0 0, .slice none 0 0] 25 (0, 0)) (bv BK223.out) hb); have n5_ := am (KeepBut.trans (by repeat (first | (with_reducible first | exact HK.out | apply KeepBut.set_ | apply keep_drewN | apply keep_drew | apply keep_alloc | refine keep_far ?_ GW223.out _) | exact HK.out)) (KeepBut.of_below hb g none) (.inl rfl)); have n6_ := am (below_step (by repeat (first | (with_reducible first | exact HB.out | apply below_alloc | apply pw_below_drewN | apply below_drew1 | refine below_set ?_ (IsS80.ge HI0.out) | refine below_set ?_ GE223.out) | exact HB.out)) hb); have n7_ := am (hbox); have n8_ := am ((by rw [hg]; exact (keep_size (w := w) (g := g) (row := none) (by repeat (first | (with_reducible first | exact HK.out | apply KeepBut.set_ | apply keep_drewN | apply keep_drew | apply keep_alloc | refine keep_far ?_ GW223.out _) | exact HK.out))) : w.heap.size ≤ gb235)); have n9_ := am ((Nat.le_trans HW0.out (by rw [hg]; exact (keep_size (w := w) (g := g) (row := none) (by repeat (first | (with_reducible first | exact HK.out | apply KeepBut.set_ | apply keep_drewN | apply keep_drew | apply keep_alloc | refine keep_far ?_ GW223.out _) | exact HK.out))) : w.heap.size ≤ gb235) : w0.heap.size ≤ gb235)); have n10_ := am ((by rw [hg]; exact Nat.ne_of_lt (blk_lt (g := gb223) (o := .cells #[.slice none 0 0, .slice none 0 0] 25 (0, 0)) (bv BK223.out)) : gb223 ≠ gb235)); have n11_ := am ((by rw [hg]; exact Nat.ne_of_gt (blk_lt (g := gb223) (o := .cells #[.slice none 0 0, .slice none 0 0] 25 (0, 0)) (bv BK223.out)) : gb235 ≠ gb223)); have n12_ := am ((by rw [hg]; exact Nat.ne_of_lt (IsS80.lt (show IsS80 w0 _ g s0_0 t227 from by repeat (first | (with_reducible first | exact HI0.out | apply IsS80.alloc | apply IsS80.drewN | apply IsS80.drew | apply IsS80.set_1 | refine IsS80.far ?_ NB0_223.out _) | exact HI0.out))) : g ≠ gb235)); have n13_ := am ((by rw [hg]; exact Nat.ne_of_gt (IsS80.lt (show IsS80 w0 _ g s0_0 t227 from by repeat (first | (with_reducible first | exact HI0.out | apply IsS80.alloc | apply IsS80.drewN | apply IsS80.drew | apply IsS80.set_1 | refine IsS80.far ?_ NB0_223.out _) | exact HI0.out))) : gb235 ≠ g)); clear HO226 HO230 HO233 HI0 BK223 HK HB; revert n0_ n1_ n2_ n3_ n4_ n5_ n6_ n7_ n8_ n9_ n10_ n11_ n12_ n13_; intro HO226 HO230 HO233 HI0 BK223 HK HB BK235 GW235 GE235 NB223_235 NB235_223 NB0_235 NB235_0; clear hb hbox hg; obtain ⟨Ao12, co12, eo12⟩ := Kd.N_slice HO230.out; subst eo12; have hnb13 := NB235_223.out; have hnc13 := NB223_235.out; have hnb14 := NB235_0.out; have hnc14 := NB0_235.out; have hcz15_0 : w11.cell? ⟨gb235, 0, none⟩ = some (.slice none 0 0) := (blk_cell BK235.out 0).trans rfl; have hcz15_1 : w11.cell? ⟨gb235, 1, none⟩ = some (.slice none 0 0) := (blk_cell BK235.out 1).trans rfl; have hfz15_0 := blk_frozen BK235.out 0; have hfz15_1 := blk_frozen BK235.out 1; obtain ⟨Ao16, co16, eo16⟩ := Kd.N_slice HO233.out; subst eo16) | ((with_reducible refine gate_callee (f := 76) rfl ?_); refine goesL_ (some 14) rfl rfl Try.func76 (by kernel_rfl) rfl #[.pointer (some ⟨g, 0, none⟩), .int .i64 5] rfl (by (try simp only [List.map_toArray, List.map_cons, List.map_nil]); first | done | rfl | (simp only [List.length_drop, List.length_take]; rfl)) ?_; (with_reducible refine (spec_l20Rd_odd.calls k g s0_0 t227 5 t236 t237 w0 _ ?side1 ?side2 A5.out).mono ?_); (case side1 => repeat (first | (with_reducible first | exact HI0.out | apply IsS80.alloc | apply IsS80.drewN | apply IsS80.drew | apply IsS80.set_1 | refine IsS80.far ?_ NB0_223.out _ | refine IsS80.far ?_ NB0_235.out _) | exact HI0.out)); (case side2 => repeat (first | (with_reducible first | exact HB.out | apply below_alloc | apply pw_below_drewN | apply below_drew1 | refine below_set ?_ (IsS80.ge HI0.out) | refine below_set ?_ GE223.out | refine below_set ?_ GE235.out) | exact HB.out)); rintro e w17 ⟨rfl, hi, hb, hk⟩; refine ⟨_, rfl, ?_⟩; have n0_ := am (KeepBut.blk hk (g' := gb223) (o := .cells #[.slice none 0 0, .slice none 0 0] 25 (0, 0)) (by (with_reducible repeat (first | refine blk_drewN ?_ _ | refine blk_drew ?_ | refine blk_alloc ?_ _)); refine blk_far ?_ NB223_235.out _; (with_reducible repeat (first | refine blk_drewN ?_ _ | refine blk_drew ?_ | refine blk_alloc ?_ _)); refine blk_far ?_ NB223_235.out _; (with_reducible repeat (first | refine blk_drewN ?_ _ | refine blk_drew ?_ | refine blk_alloc ?_ _)); exact BK223.out) NB223_0.out (by simp)); have n1_ := am (Kd.N_mono (Kd.N_keep (Kd.N_mono (ok := fun k_ => ((((((w.heap.size ≤ k_)) ∧ (k_ ≠ gb223 ∧ k_ ≠ g)) ∧ some k_ ≠ (.slice Ao12 t228.length co12 : Value).ownBlock) ∧ some k_ ≠ (.slice Ao16 t231.length co16 : Value).ownBlock) ∧ k_ ≠ gb235)) (by (with_reducible repeat (first | apply Kd.N_alloc | apply Kd.N_drewN | apply Kd.N_drew)); exact (Kd.N_mono (Kd.N_far (p := ⟨gb235, 1, none⟩) (Kd.N_far (p := ⟨gb235, 0, none⟩) (Kd.N_mono HO226.out (fun k_ hk => (⟨hk, hk.2⟩ : _ ∧ k_ ≠ gb235))) (fun _ hk => hk.2) (.slice Ao12 t228.length co12)) (fun _ hk => hk.2) (.slice Ao16 t231.length co16)) (fun _ h_ => h_.1))) (fun k_ hk_ => (⟨hk_, hk_.1.1.1.2.2⟩ : _ ∧ k_ ≠ g))) hk (fun _ h => h.2)) (fun _ h => h.1)); have n2_ := am (Kd.N_mono (Kd.N_keep (Kd.N_mono (ok := fun k_ => ((((w.heap.size ≤ k_)) ∧ (some k_ ≠ (.slice Ao16 t231.length co16 : Value).ownBlock ∧ (some k_ ≠ (.slice Ao9 t224.length co9 : Value).ownBlock ∧ (k_ ≠ gb223 ∧ k_ ≠ g)))) ∧ k_ ≠ gb235)) (by (with_reducible repeat (first | apply Kd.N_alloc | apply Kd.N_drewN | apply Kd.N_drew)); exact (Kd.N_mono (Kd.N_far (p := ⟨gb235, 1, none⟩) (Kd.N_far (p := ⟨gb235, 0, none⟩) (Kd.N_mono HO230.out (fun k_ hk => (⟨hk, hk.2⟩ : _ ∧ k_ ≠ gb235))) (fun _ hk => hk.2) (.slice Ao12 t228.length co12)) (fun _ hk => hk.2) (.slice Ao16 t231.length co16)) (fun _ h_ => h_.1))) (fun k_ hk_ => (⟨hk_, hk_.1.2.2.2.2⟩ : _ ∧ k_ ≠ g))) hk (fun _ h => h.2)) (fun _ h => h.1)); have n3_ := am (Kd.N_mono (Kd.N_keep (Kd.N_mono (ok := fun k_ => ((((w.heap.size ≤ k_)) ∧ (some k_ ≠ (.slice Ao12 t228.length co12 : Value).ownBlock ∧ (some k_ ≠ (.slice Ao9 t224.length co9 : Value).ownBlock ∧ (k_ ≠ gb223 ∧ k_ ≠ g)))) ∧ k_ ≠ gb235)) (by (with_reducible repeat (first | apply Kd.N_alloc | apply Kd.N_drewN | apply Kd.N_drew)); exact (Kd.N_mono (Kd.N_far (p := ⟨gb235, 1, none⟩) (Kd.N_far (p := ⟨gb235, 0, none⟩) (Kd.N_mono HO233.out (fun k_ hk => (⟨hk, hk.2⟩ : _ ∧ k_ ≠ gb235))) (fun _ hk => hk.2) (.slice Ao12 t228.length co12)) (fun _ hk => hk.2) (.slice Ao16 t231.length co16)) (fun _ h_ => h_.1))) (fun k_ hk_ => (⟨hk_, hk_.1.2.2.2.2⟩ : _ ∧ k_ ≠ g))) hk (fun _ h => h.2)) (fun _ h => h.1)); have n4_ := am (KeepBut.blk hk (g' := gb235) (o := .cells #[.slice Ao12 t228.length co12, .slice Ao16 t231.length co16] 25 (0, 0)) (by (with_reducible repeat (first | refine blk_drewN ?_ _ | refine blk_drew ?_ | refine blk_alloc ?_ _)); refine blk_put (cs := #[.slice Ao12 t228.length co12, .slice none 0 0]) ?_ 1 _ rfl; (with_reducible repeat (first | refine blk_drewN ?_ _ | refine blk_drew ?_ | refine blk_alloc ?_ _)); refine blk_put (cs := #[.slice none 0 0, .slice none 0 0]) ?_ 0 _ rfl; (with_reducible repeat (first | refine blk_drewN ?_ _ | refine blk_drew ?_ | refine blk_alloc ?_ _)); exact BK235.out) NB235_0.out (by simp)); have n5_ := am (KeepBut.trans (by repeat (first | (with_reducible first | exact HK.out | apply KeepBut.set_ | apply keep_drewN | apply keep_drew | apply keep_alloc | refine keep_far ?_ GW223.out _ | refine keep_far ?_ GW235.out _) | exact HK.out)) hk (.inl rfl)); have n6_ := am (hb); have n7_ := am (hi); clear BK223 HO226 HO230 HO233 BK235 HK HB HI0; revert n0_ n1_ n2_ n3_ n4_ n5_ n6_ n7_; intro BK223 HO226 HO230 HO233 BK235 HK HB HI0; (try clear hb); (try clear hb2); (try clear hk); (try clear hi)))
 (try simp only [Act.put, List.setIfInBounds_toArray, List.set_cons_zero, List.set_cons_succ])
 go_cut [] (fun wc => ∃ (kq : Nat) (x1001_5 : Int) (x236000_5 : List (List Int)) (x236001_5 : List (List Int)) (u236000 : Value) (u236001 : Value), Aside0 (spec_l20Picture.j0 kq a1 s0_0 x1001_5 x236000_5 x236001_5 = some (r1, r2, r3)) ∧ Aside0 (kq ≤ k) ∧ Aside0 (Kd.N (Kd.slice 3 (Kd.int .i64)) 36 wc w.heap.size (fun k_ => (w.heap.size ≤ k_) ∧ some k_ ≠ (u236001 : Value).ownBlock ∧ k_ ≠ gb223 ∧ k_ ≠ gb235 ∧ k_ ≠ g) u236000 x236000_5) ∧ Aside0 (Kd.N (Kd.slice 3 (Kd.int .i64)) 36 wc w.heap.size (fun k_ => (w.heap.size ≤ k_) ∧ some k_ ≠ (u236000 : Value).ownBlock ∧ k_ ≠ gb223 ∧ k_ ≠ gb235 ∧ k_ ≠ g) u236001 x236001_5) ∧ Aside0 (wc.heap[gb223]? = some (.cells #[(.slice none 0 0), (.slice none 0 0)] 25 (0, 0))) ∧ Aside0 (wc.heap[gb235]? = some (.cells #[u236000, u236001] 25 (0, 0))) ∧ Aside0 (IsS80 w0 wc g s0_0 x1001_5) ∧ Aside0 (KeepBut w wc g none) ∧ Aside0 (Below w0.heap.size w0 wc))
 case first =>
  have H := HC6.out
  clear HC6
  by_cases c18 : t236 = true
  ·subst c18
   rw [if_pos rfl] at H
   replace H := Option.bind_eq_some_iff.mp H
   obtain ⟨⟨t238, t239⟩, A215, H⟩ := H
   replace H : ((spec_l20Rd_pick.f k s0_0 t239 2).bind fun bt249 => (if 0 ≤ t238 ∧ (bt249.1 = 0 ∨ bt249.1 = 1) then (if t238 < (t228.length : Int) then (spec_l20Picture.j0 k a1 s0_0 bt249.2 (t228.set (t238 : Int).toNat (lit2 bt249.1)) t231) else (none)) else (none))) = some (r1, r2, r3) := H
   have A19 := am A215
   clear A215
   replace H := Option.bind_eq_some_iff.mp H
   obtain ⟨⟨t249, t250⟩, A225, H⟩ := H
   replace H : (if 0 ≤ t238 ∧ (t249 = 0 ∨ t249 = 1) then (if t238 < (t228.length : Int) then (spec_l20Picture.j0 k a1 s0_0 t250 (t228.set (t238 : Int).toNat (lit2 t249)) t231) else (none)) else (none)) = some (r1, r2, r3) := H
   have A20 := am A225
   clear A225
   have q_ := ifs H
   clear H
   obtain ⟨c21, H⟩ := q_
   have HQ := am c21.2
   have c21b0 : decide (0 ≤ t238) = true := decide_eq_true c21.1
   clear c21
   (first | rw [c21b0] | (simp only [i64_w, i32_w]; rw [c21b0]) | skip)
   have q_ := ifs H
   clear H
   obtain ⟨c22, H⟩ := q_
   have c22b0 : decide (t238 < (t228.length : Int)) = true := decide_eq_true c22
   clear c22
   obtain ⟨y251, hy251⟩ : ∃ y_ : List (List Int), y_ = (t228.set (t238 : Int).toNat (lit2 t249)) := ⟨_, rfl⟩
   replace H : (spec_l20Picture.j0 k a1 s0_0 t250 y251 t231) = some (r1, r2, r3) := by first | (rw [hy251]; with_reducible exact H) | (have H2_ := (Option.bind_some _ _).symm.trans H; rw [hy251]; with_reducible exact H2_) | (have H2_ := (Option.bind_some _ _).symm.trans H; with_reducible exact H2_) | with_reducible exact H | (rw [hy251]; exact H) | exact H
   have Ny251 := am hy251
   clear hy251
   have H' := am H
   clear H
   try go_wp2
   have n0_ := am (Kd.N_drew HO226.out)
   have n1_ := am (Kd.N_drew HO230.out)
   have n2_ := am (Kd.N_drew HO233.out)
   have n3_ := am (blk_drew BK223.out)
   have n4_ := am (blk_drew BK235.out)
   have n5_ := am (IsS80.drew HI0.out)
   have n6_ := am (keep_drew HK.out)
   have n7_ := am (below_drew1 HB.out)
   clear HO226 HO230 HO233 BK223 BK235 HI0 HK HB
   revert n0_ n1_ n2_ n3_ n4_ n5_ n6_ n7_
   intro HO226 HO230 HO233 BK223 BK235 HI0 HK HB
   refine start_ (n := 16) (S := fun w' => w'.cell? ⟨gb235, 0, none⟩ = some (.slice Ao12 t228.length co12)) (ds := []) #[false, false, false, false, false, false, false, false, false, false, false, false, false, false, false, false] (by kernel_rfl) rfl rfl ((blk_cell BK235.out 0).trans rfl) (fun hHeld => ?_); refine with_tabW spec_l20Picture.tab3 spec_l20Picture.bits3 (fun HT_ HW_ => ?_)
   generalize w17.drew = w24 at HO226 HO230 HO233 BK223 BK235 HI0 HK HB hHeld ⊢
   obtain ⟨go23, co23, eo23, gb23, gl23, cl23, HG23⟩ := Kd.N_form HO230.out (by have h_ : 0 ≤ t238 := of_decide_eq_true c21b0; have h2_ : t238 < (t228.length : Int) := of_decide_eq_true c22b0; omega)
   (first | cases eo23 | (injection eo23 with ea_ en_ ec_; (first | subst ea_ | (injection ea_ with ea_; subst ea_)); subst ec_; clear en_))
   have p23 : 0 ≤ (t238 : Int) := of_decide_eq_true c21b0
   have q23 : (t238 : Int) < ((t228.length : Int) : Int) := of_decide_eq_true c22b0
   have LEAF : ∀ (W : World) (Aq : Option Addr) (cq : Nat), KeepBut w24 W g none → IsS80 w0 W g s0_0 t250 → Below w0.heap.size w0 W → Kd.R (Kd.int .i64) 3 W w24.heap.size (fun _ => True) (.slice Aq (lit2 t249).length cq) (lit2 t249) →
     (∃ ua un uc, W.cell? ⟨go23, t238.toNat, none⟩ = some (.slice ua un uc)) ∧ W.frozen? ⟨go23, t238.toNat, none⟩ = false ∧
     Aside0 (Kd.N (Kd.slice 3 (Kd.int .i64)) 36 (W.setCell ⟨go23, t238.toNat, none⟩ (.slice Aq (lit2 t249).length cq)) w.heap.size (fun k_ => (w.heap.size ≤ k_) ∧ some k_ ≠ ((.slice Ao16 t231.length co16) : Value).ownBlock ∧ k_ ≠ gb223 ∧ k_ ≠ gb235 ∧ k_ ≠ g) (.slice (some ⟨go23, 0, none⟩) t228.length co12) y251) ∧
     Aside0 (Kd.N (Kd.slice 3 (Kd.int .i64)) 36 (W.setCell ⟨go23, t238.toNat, none⟩ (.slice Aq (lit2 t249).length cq)) w.heap.size (fun k_ => (w.heap.size ≤ k_) ∧ some k_ ≠ ((.slice (some ⟨go23, 0, none⟩) t228.length co12) : Value).ownBlock ∧ k_ ≠ gb223 ∧ k_ ≠ gb235 ∧ k_ ≠ g) (.slice Ao16 t231.length co16) t231) ∧
     Aside0 ((W.setCell ⟨go23, t238.toNat, none⟩ (.slice Aq (lit2 t249).length cq)).heap[gb223]? = some (.cells #[(.slice none 0 0), (.slice none 0 0)] 25 (0, 0))) ∧
     Aside0 ((W.setCell ⟨go23, t238.toNat, none⟩ (.slice Aq (lit2 t249).length cq)).heap[gb235]? = some (.cells #[(.slice (some ⟨go23, 0, none⟩) t228.length co12), (.slice Ao16 t231.length co16)] 25 (0, 0))) ∧
     Aside0 (IsS80 w0 (W.setCell ⟨go23, t238.toNat, none⟩ (.slice Aq (lit2 t249).length cq)) g s0_0 t250) ∧
     Aside0 (KeepBut w (W.setCell ⟨go23, t238.toNat, none⟩ (.slice Aq (lit2 t249).length cq)) g none) ∧
     Aside0 (Below w0.heap.size w0 (W.setCell ⟨go23, t238.toNat, none⟩ (.slice Aq (lit2 t249).length cq))) := by
    intro W Aq cq hk hi hb hq
    have hw : w.heap.size ≤ w24.heap.size := HK.out.1
    have n1 : Kd.N (Kd.slice 3 (Kd.int .i64)) 36 W w.heap.size (fun k_ => (w.heap.size ≤ k_) ∧ some k_ ≠ ((.slice Ao16 t231.length co16) : Value).ownBlock ∧ k_ ≠ gb223 ∧ k_ ≠ gb235 ∧ k_ ≠ g) (.slice (some ⟨go23, 0, none⟩) t228.length co12) t228 := Kd.N_keep (Kd.N_mono HO230.out (fun k_ h => ⟨h.1.1, h.1.2.1, h.1.2.2.2.1, h.2, h.1.2.2.2.2⟩)) hk (fun _ h => h.2.2.2.2)
    have n2 : Kd.N (Kd.slice 3 (Kd.int .i64)) 36 W w.heap.size (fun k_ => (w.heap.size ≤ k_) ∧ some k_ ≠ ((.slice (some ⟨go23, 0, none⟩) t228.length co12) : Value).ownBlock ∧ k_ ≠ gb223 ∧ k_ ≠ gb235 ∧ k_ ≠ g) (.slice Ao16 t231.length co16) t231 := Kd.N_keep (Kd.N_mono HO233.out (fun k_ h => ⟨h.1.1, h.1.2.1, h.1.2.2.2.1, h.2, h.1.2.2.2.2⟩)) hk (fun _ h => h.2.2.2.2)
    obtain ⟨ce, hcl, hM, hcc, hfr⟩ := Kd.N_elem n1 [] (t238 : Int) p23 q23
    obtain ⟨ua, uc, rfl, ul, ge⟩ := Kd.FK_slice_open hM
    have hcx := hcc 0 _ rfl
    have hfx := hfr 0
    simp only [show ((Kd.slice 3 (Kd.int .i64))).sz = 1 from rfl, Nat.mul_one, Nat.add_zero] at hcx hfx
    have hq' : Kd.R (Kd.int .i64) 3 W w.heap.size (fun k_ => (fun k_ => (w.heap.size ≤ k_) ∧ some k_ ≠ ((.slice Ao16 t231.length co16) : Value).ownBlock ∧ k_ ≠ gb223 ∧ k_ ≠ gb235 ∧ k_ ≠ g) k_ ∧ k_ ≠ go23) (.slice Aq (lit2 t249).length cq) (lit2 t249) := by
     refine Kd.R_lower (Kd.R_mono (Kd.R_bound hq) (fun k_ h => ?_)) hw
     have h1 : w24.heap.size ≤ k_ := h.2.1
     have b1 := blk_lt BK223.out
     have b2 := blk_lt BK235.out
     have b3 := IsS80.lt HI0.out
     refine ⟨⟨by omega, ?_, by omega, by omega, by omega⟩, by omega⟩
     intro e_
     obtain ⟨cs, hcs⟩ := Kd.N_typed HO233.out k_ e_.symm
     have := blk_lt hcs
     omega
    have hp := (Kd.N_seg n1 (t238 : Int) p23 q23 (seg := [.slice Aq (lit2 t249).length cq]) (j := 0) hcl hcc (show 1 ≤ 1 from by decide) (x' := lit2 t249) (Kd.FK_slice_mk (Kd.R_reads' hq').2.1 (Kd.R_F hq')) (fun _ hk => hk)).1
    simp only [show ((Kd.slice 3 (Kd.int .i64))).sz = 1 from rfl, Nat.mul_one, Nat.add_zero] at hp
    rw [← Ny251.out] at hp
    have d1 : gb223 ≠ go23 := by have h_ := Kd.N_away n1 (fun _ hk => hk.2.2.1); intro e_; exact h_ (by rw [e_]; rfl)
    have d2 : gb235 ≠ go23 := by have h_ := Kd.N_away n1 (fun _ hk => hk.2.2.2.1); intro e_; exact h_ (by rw [e_]; rfl)
    have d3 : g ≠ go23 := by have h_ := IsS80.own_neN hi n1 (by decide); intro e_; exact h_ (by rw [e_]; rfl)
    refine ⟨⟨_, _, _, hcx⟩, hfx, ⟨hp⟩, ⟨?_⟩, ⟨?_⟩, ⟨?_⟩, ⟨?_⟩, ⟨?_⟩, ⟨?_⟩⟩
    ·exact Kd.N_mono (Kd.N_far (p := ⟨go23, t238.toNat, none⟩) (Kd.N_mono n2 (fun k_ hk => (⟨hk, fun e_ => hk.2.1 (by rw [e_]; rfl)⟩ : _ ∧ k_ ≠ go23))) (fun _ hk => hk.2) _) (fun _ hk => hk.1)
    ·exact blk_far (KeepBut.blk hk BK223.out NB223_0.out (by simp)) d1 _
    ·exact blk_far (KeepBut.blk hk BK235.out NB235_0.out (by simp)) d2 _
    ·exact IsS80.far hi d3 _
    ·exact keep_far (KeepBut.trans HK.out hk (.inl rfl)) gb23 _
    ·exact hb.setCell (Nat.le_trans HL.out gb23) _
   have HKd := am (KeepBut.refl w24 g none)
   replace p23 := eq_true p23
   replace q23 := eq_true q23
   refine pure_ (i := 0) (N := some 15) (v := ?_) (a' := ?_) #[true, false, false, false, false, false, false, false, false, false, false, false, false, false, false, false] rfl rfl (any_of HT_.out (by kernel_rfl)) (fun _ _ _ h => h) (Or.inl ⟨by rfl, ?_⟩) ?_ ?_
   rotate_left
   ·intro w'
    go_simp
    with_reducible rfl
   rotate_left
   ·simp only [Act.put, List.setIfInBounds_toArray, List.set_cons_zero, List.set_cons_succ, i64_w, i32_w]
    rfl
   refine pure_ (i := 2) (N := some 17) (v := ?_) (a' := ?_) #[true, false, true, false, false, false, false, false, false, false, false, false, false, false, false, false] rfl rfl (any_of HT_.out (by kernel_rfl)) (fun _ _ _ h => h) (Or.inl ⟨by rfl, ?_⟩) ?_ ?_
   rotate_left
   ·intro w'
    go_simp
    with_reducible rfl
   rotate_left
   ·simp only [Act.put, List.setIfInBounds_toArray, List.set_cons_zero, List.set_cons_succ, i64_w, i32_w]
    rfl
   refine pure_ (i := 3) (N := some 18) (v := ?_) (a' := ?_) #[true, false, true, true, false, false, false, false, false, false, false, false, false, false, false, false] rfl rfl (any_of HT_.out (by kernel_rfl)) (fun _ _ _ h => h) (Or.inl ⟨by rfl, ?_⟩) ?_ ?_
   rotate_left
   ·intro w'
    go_simp
    with_reducible rfl
   rotate_left
   ·simp only [Act.put, List.setIfInBounds_toArray, List.set_cons_zero, List.set_cons_succ, i64_w, i32_w]
    rfl
   refine pure_ (i := 10) (N := some 25) (v := ?_) (a' := ?_) #[true, false, true, true, false, false, false, false, false, false, true, false, false, false, false, false] rfl rfl (any_of HT_.out (by kernel_rfl)) (fun _ _ _ h => h) (Or.inl ⟨by rfl, ?_⟩) ?_ ?_
   rotate_left
   ·intro w'
    go_simp
    with_reducible rfl
   rotate_left
   ·simp only [Act.put, List.setIfInBounds_toArray, List.set_cons_zero, List.set_cons_succ, i64_w, i32_w]
    rfl
   refine take_ (i := 1) (N := some 16) (v := ?_) (a' := ?_) #[true, true, true, true, false, false, false, false, false, false, true, false, false, false, false, false] rfl rfl (take_ofW HT_.out HW_.out (by kernel_rfl)) (fun _ _ _ h => h) (Or.inl ⟨by rfl, ?_⟩) hHeld ?_ ?_
   rotate_left
   ·rintro w' hc
    go_simp
    with_reducible rfl
   rotate_left
   ·simp only [Act.put, List.setIfInBounds_toArray, List.set_cons_zero, List.set_cons_succ, i64_w, i32_w]
    rfl
   refine take_ (i := 4) (N := some 19) (v := ?_) (a' := ?_) #[true, true, true, true, true, false, false, false, false, false, true, false, false, false, false, false] rfl rfl (take_ofW HT_.out HW_.out (by kernel_rfl)) (fun _ _ _ h => h) (Or.inl ⟨by rfl, ?_⟩) hHeld ?_ ?_
   rotate_left
   ·rintro w' hc
    go_simp
    with_reducible rfl
   rotate_left
   ·simp only [Act.put, List.setIfInBounds_toArray, List.set_cons_zero, List.set_cons_succ, i64_w, i32_w]
    rfl
   refine pure_ (i := 5) (N := some 20) (v := ?_) (a' := ?_) #[true, true, true, true, true, true, false, false, false, false, true, false, false, false, false, false] rfl rfl (any_of HT_.out (by kernel_rfl)) (fun _ _ _ h => h) (Or.inl ⟨by rfl, ?_⟩) ?_ ?_
   rotate_left
   ·intro w'
    go_simp
    with_reducible rfl
   rotate_left
   ·simp only [Act.put, List.setIfInBounds_toArray, List.set_cons_zero, List.set_cons_succ, i64_w, i32_w]
    rfl
   refine join_ (σ := Option Addr × Nat × Option Addr × Nat × Nat) 4 #[true, true, true, true, true, true, true, true, true, true, true, true, false, false, false, false] (fun s_ => [(21, .int .i64 t238), (22, .slice s_.1 0 s_.2.1), (23, .slice s_.2.2.1 1 s_.2.2.2.1), (24, .slice (some ⟨s_.2.2.2.2, 0, none⟩) 2 2), (26, .int .i64 t249)]) (fun s_ w' => KeepBut w24 w' g none ∧ IsS80 w0 w' g s0_0 t250 ∧ Below w0.heap.size w0 w' ∧ w'.heap[gb235]? = some (.cells #[(.slice (some ⟨go23, 0, none⟩) t228.length co12), (.slice Ao16 t231.length co16)] 25 (0, 0)) ∧ w'.heap[s_.2.2.2.2]? = some (.cells #[.slice s_.1 0 s_.2.1, .slice s_.2.2.1 1 s_.2.2.2.1] 36 (0, 0)) ∧ Kd.R (Kd.int .i64) 3 w' w24.heap.size (fun _ => True) (.slice s_.1 0 s_.2.1) [] ∧ Kd.R (Kd.int .i64) 3 w' w24.heap.size (fun _ => True) (.slice s_.2.2.1 1 s_.2.2.2.1) [1]) ?_ ?_
   rotate_left
   ·intro hJ
    refine three_ (i := 6) (j := 7) (k := 8) (Ni := some 21) (Nj := some 22) (Nk := some 23) #[true, true, true, true, true, true, true, false, false, false, true, false, false, false, false, false] #[true, true, true, true, true, true, false, true, false, false, true, false, false, false, false, false] #[true, true, true, true, true, true, false, false, true, false, true, false, false, false, false, false] rfl rfl rfl rfl rfl rfl (three_of HT_.out (by kernel_rfl)) (by decide) (by decide) (by decide) (fun K hK => ?_) (fun K hK => ?_) (fun K hK => ?_)
    ·refine goes_ Try.func70 (by kernel_rfl) rfl #[.pointer (some ⟨g, 0, none⟩), .int .i64 (t228.length : Int)] (by rfl) rfl rfl (by (try simp only [List.map_toArray, List.map_cons, List.map_nil]); first | done | rfl) ?_
     with_reducible refine (spec_l20Rd_pick.calls k g s0_0 t237 (t228.length : Int) t238 t239 w0 w24 HI0.out HB.out A19.out).mono ?_
     rintro e w1_ ⟨rfl, hi, hb, hk⟩
     have FK1_ := am (KeepBut.trans HKd.out hk (.inl rfl))
     have FD1_ := am (KeepBut.blk hk BK235.out NB235_0.out (by simp))
     have FI1_ := am hi
     have FB1_ := am hb
     clear hi hb hk
     refine ⟨_, rfl, ?_⟩
     refine hK.out _ _ ((blk_cell FD1_.out 0).trans rfl) (fun hHeld => ?_)
     clear hK K
     refine norm_ (a' := ?_) ?_ ?_
     rotate_left
     ·show Act.put _ (some 21) _ = _
      simp only [Act.put, List.setIfInBounds_toArray, List.set_cons_zero, List.set_cons_succ, i64_w, i32_w]
      rfl
     refine three_ (i := 7) (j := 8) (k := 11) (Ni := some 22) (Nj := some 23) (Nk := some 26) #[true, true, true, true, true, true, true, true, false, false, true, false, false, false, false, false] #[true, true, true, true, true, true, true, false, true, false, true, false, false, false, false, false] #[true, true, true, true, true, true, true, false, false, false, true, true, false, false, false, false] rfl rfl rfl rfl rfl rfl (three_of HT_.out (by kernel_rfl)) (by decide) (by decide) (by decide) (fun K hK => ?_) (fun K hK => ?_) (fun K hK => ?_)
     ·refine Kd.R_lit_step (Kd.int .i64) (w0 := w1_) w1_.heap.size 3 (by rfl) (N := 22) rfl (xs := ([] : List Int)) (inner := []) (ok := fun _ => True) (okp := fun _ => True) (by first | (go_simp; done) | (go_simp; rfl)) (Reps.none _ _) (fun _ hk => hk) trivial (Below.refl _ _) (Nat.le_refl _) (by simp) ?_
      intro v7 w4_ ho hb hg_ hnew_
      obtain ⟨A7, c7, e7⟩ := Kd.R_slice ho
      subst e7
      have FK4_ := am (KeepBut.trans FK1_.out (KeepBut.of_below hb g none) (.inl rfl))
      have FD4_ := am (blk_below FD1_.out hb)
      have FI4_ := am (IsS80.below FI1_.out hb)
      have FB4_ := am (below_then FB1_.out FB1_.out.size hb)
      have F74_ := am (Kd.R_lower ho FK1_.out.1)
      clear ho hb hg_ hnew_
      refine hK.out _ _ ((blk_cell FD4_.out 0).trans rfl) (fun hHeld => ?_)
      clear hK K
      refine norm_ (a' := ?_) ?_ ?_
      rotate_left
      ·show Act.put _ (some 22) _ = _
       simp only [Act.put, List.setIfInBounds_toArray, List.set_cons_zero, List.set_cons_succ, i64_w, i32_w]
       rfl
      refine two_ (i := 8) (j := 11) (Ni := some 23) (Nj := some 26) #[true, true, true, true, true, true, true, true, true, false, true, false, false, false, false, false] #[true, true, true, true, true, true, true, true, false, false, true, true, false, false, false, false] rfl rfl rfl rfl (two_of HT_.out (by kernel_rfl)) (by decide) (by decide) (fun K hK => ?_) (fun K hK => ?_)
      ·refine Kd.R_lit_step (Kd.int .i64) (w0 := w4_) w4_.heap.size 3 (by rfl) (N := 23) rfl (xs := ([1] : List Int)) (inner := [.int .i64 1]) (ok := fun _ => True) (okp := fun _ => True) (by first | (go_simp; done) | (go_simp; rfl)) ((Reps.one (show Kd.M (Kd.int .i64) _ _ _ 1 [.int .i64 1] from rfl) (Reps.none _ _))) (fun _ hk => hk) trivial (Below.refl _ _) (Nat.le_refl _) (by simp) ?_
       intro v8 w7_ ho hb hg_ hnew_
       obtain ⟨A8, c8, e8⟩ := Kd.R_slice ho
       subst e8
       have FK7_ := am (KeepBut.trans FK4_.out (KeepBut.of_below hb g none) (.inl rfl))
       have FD7_ := am (blk_below FD4_.out hb)
       have FI7_ := am (IsS80.below FI4_.out hb)
       have FB7_ := am (below_then FB4_.out FB4_.out.size hb)
       have F77_ := am (Kd.R_below F74_.out hb)
       have F87_ := am (Kd.R_lower ho FK4_.out.1)
       clear ho hb hg_ hnew_
       refine hK.out _ _ ((blk_cell FD7_.out 0).trans rfl) (fun hHeld => ?_)
       clear hK K
       refine norm_ (a' := ?_) ?_ ?_
       rotate_left
       ·show Act.put _ (some 23) _ = _
        simp only [Act.put, List.setIfInBounds_toArray, List.set_cons_zero, List.set_cons_succ, i64_w, i32_w]
        rfl
       refine two_ (i := 9) (j := 11) (Ni := some 24) (Nj := some 26) #[true, true, true, true, true, true, true, true, true, true, true, false, false, false, false, false] #[true, true, true, true, true, true, true, true, true, false, true, true, false, false, false, false] rfl rfl rfl rfl (two_of HT_.out (by kernel_rfl)) (by decide) (by decide) (fun K hK => ?_) (fun K hK => ?_)
       ·refine event_step (v := .slice (some ⟨w7_.heap.size, 0, none⟩) 2 2) (w1 := w7_.alloc (Obj.cells #[.slice A7 0 c7, .slice A8 1 c8] 36)) (by rfl) ?_ ?_
        ·first | (go_simp; done) | (go_simp; rfl)
        have hb : Below w7_.heap.size w7_ (w7_.alloc (Obj.cells #[.slice A7 0 c7, .slice A8 1 c8] 36)) := (Below.refl _ _).alloc (Nat.le_refl _) _
        have FK9_ := am (KeepBut.trans FK7_.out (KeepBut.of_below hb g none) (.inl rfl))
        have FD9_ := am (blk_below FD7_.out hb)
        have FI9_ := am (IsS80.below FI7_.out hb)
        have FB9_ := am (below_then FB7_.out FB7_.out.size hb)
        have F79_ := am (Kd.R_below F77_.out hb)
        have F89_ := am (Kd.R_below F87_.out hb)
        have FX9_ := am (blk_new w7_ (Obj.cells #[.slice A7 0 c7, .slice A8 1 c8] 36))
        clear hb
        generalize w7_.alloc (Obj.cells #[.slice A7 0 c7, .slice A8 1 c8] 36) = w9_ at FK9_ FD9_ FI9_ FB9_ F79_ F89_ FX9_ ⊢
        obtain ⟨bx, hbx⟩ : ∃ bx, w7_.heap.size = bx := ⟨_, rfl⟩
        rw [hbx] at FX9_ ⊢
        clear hbx
        refine hK.out _ _ ((blk_cell FD9_.out 0).trans rfl) (fun hHeld => ?_)
        clear hK K
        refine norm_ (a' := ?_) ?_ ?_
        rotate_left
        ·show Act.put _ (some 24) _ = _
         simp only [Act.put, List.setIfInBounds_toArray, List.set_cons_zero, List.set_cons_succ, i64_w, i32_w]
         rfl
        refine one_ (i := 11) (N := some 26) #[true, true, true, true, true, true, true, true, true, true, true, true, false, false, false, false] rfl rfl (one_of HT_.out (by kernel_rfl)) (by decide) (fun K hK => ?_)
        refine goes_ Try.func70 (by kernel_rfl) rfl #[.pointer (some ⟨g, 0, none⟩), .int .i64 2] (by rfl) rfl rfl (by (try simp only [List.map_toArray, List.map_cons, List.map_nil]); first | done | rfl) ?_
        with_reducible refine (spec_l20Rd_pick.calls k g s0_0 t239 2 t249 t250 w0 w9_ FI9_.out FB9_.out A20.out).mono ?_
        rintro e w11_ ⟨rfl, hi, hb, hk⟩
        have FK11_ := am (KeepBut.trans FK9_.out hk (.inl rfl))
        have FD11_ := am (KeepBut.blk hk FD9_.out NB235_0.out (by simp))
        have F711_ := am (Kd.R_mono (Kd.R_keep (IsS80.apart FI9_.out F79_.out (by decide)) hk (fun _ h => h.2)) (fun _ h => h.1))
        have F811_ := am (Kd.R_mono (Kd.R_keep (IsS80.apart FI9_.out F89_.out (by decide)) hk (fun _ h => h.2)) (fun _ h => h.1))
        have FX11_ := am ((hk.2 bx (blk_lt FX9_.out) (IsS80.ne_blk FI9_.out FX9_.out (by decide)).symm (by simp)).trans FX9_.out)
        have FI11_ := am hi
        have FB11_ := am hb
        clear hi hb hk
        refine ⟨_, rfl, ?_⟩
        refine hK.out _ _ ((blk_cell FD11_.out 0).trans rfl) (fun hHeld => ?_)
        clear hK K
        refine norm_ (a' := ?_) ?_ ?_
        rotate_left
        ·show Act.put _ (some 26) _ = _
         simp only [Act.put, List.setIfInBounds_toArray, List.set_cons_zero, List.set_cons_succ, i64_w, i32_w]
         rfl
        exact norm_ (by first | (simp only [putAll, Act.put, List.setIfInBounds_toArray, List.set_cons_zero, List.set_cons_succ]; done) | (simp only [putAll, Act.put, List.setIfInBounds_toArray, List.set_cons_zero, List.set_cons_succ]; rfl)) (hJ (A7, c7, A8, c8, bx) _ ⟨FK11_.out, FI11_.out, FB11_.out, FD11_.out, FX11_.out, F711_.out, F811_.out⟩)
       ·refine goes_ Try.func70 (by kernel_rfl) rfl #[.pointer (some ⟨g, 0, none⟩), .int .i64 2] (by rfl) rfl rfl (by (try simp only [List.map_toArray, List.map_cons, List.map_nil]); first | done | rfl) ?_
        with_reducible refine (spec_l20Rd_pick.calls k g s0_0 t239 2 t249 t250 w0 w7_ FI7_.out FB7_.out A20.out).mono ?_
        rintro e w10_ ⟨rfl, hi, hb, hk⟩
        have FK10_ := am (KeepBut.trans FK7_.out hk (.inl rfl))
        have FD10_ := am (KeepBut.blk hk FD7_.out NB235_0.out (by simp))
        have F710_ := am (Kd.R_mono (Kd.R_keep (IsS80.apart FI7_.out F77_.out (by decide)) hk (fun _ h => h.2)) (fun _ h => h.1))
        have F810_ := am (Kd.R_mono (Kd.R_keep (IsS80.apart FI7_.out F87_.out (by decide)) hk (fun _ h => h.2)) (fun _ h => h.1))
        have FI10_ := am hi
        have FB10_ := am hb
        clear hi hb hk
        refine ⟨_, rfl, ?_⟩
        refine hK.out _ _ ((blk_cell FD10_.out 0).trans rfl) (fun hHeld => ?_)
        clear hK K
        refine norm_ (a' := ?_) ?_ ?_
        rotate_left
        ·show Act.put _ (some 26) _ = _
         simp only [Act.put, List.setIfInBounds_toArray, List.set_cons_zero, List.set_cons_succ, i64_w, i32_w]
         rfl
        refine one_ (i := 9) (N := some 24) #[true, true, true, true, true, true, true, true, true, true, true, true, false, false, false, false] rfl rfl (one_of HT_.out (by kernel_rfl)) (by decide) (fun K hK => ?_)
        refine event_step (v := .slice (some ⟨w10_.heap.size, 0, none⟩) 2 2) (w1 := w10_.alloc (Obj.cells #[.slice A7 0 c7, .slice A8 1 c8] 36)) (by rfl) ?_ ?_
        ·first | (go_simp; done) | (go_simp; rfl)
        have hb : Below w10_.heap.size w10_ (w10_.alloc (Obj.cells #[.slice A7 0 c7, .slice A8 1 c8] 36)) := (Below.refl _ _).alloc (Nat.le_refl _) _
        have FK12_ := am (KeepBut.trans FK10_.out (KeepBut.of_below hb g none) (.inl rfl))
        have FD12_ := am (blk_below FD10_.out hb)
        have F712_ := am (Kd.R_below F710_.out hb)
        have F812_ := am (Kd.R_below F810_.out hb)
        have FI12_ := am (IsS80.below FI10_.out hb)
        have FB12_ := am (below_then FB10_.out FB10_.out.size hb)
        have FX12_ := am (blk_new w10_ (Obj.cells #[.slice A7 0 c7, .slice A8 1 c8] 36))
        clear hb
        generalize w10_.alloc (Obj.cells #[.slice A7 0 c7, .slice A8 1 c8] 36) = w12_ at FK12_ FD12_ F712_ F812_ FI12_ FB12_ FX12_ ⊢
        obtain ⟨bx, hbx⟩ : ∃ bx, w10_.heap.size = bx := ⟨_, rfl⟩
        rw [hbx] at FX12_ ⊢
        clear hbx
        refine hK.out _ _ ((blk_cell FD12_.out 0).trans rfl) (fun hHeld => ?_)
        clear hK K
        refine norm_ (a' := ?_) ?_ ?_
        rotate_left
        ·show Act.put _ (some 24) _ = _
         simp only [Act.put, List.setIfInBounds_toArray, List.set_cons_zero, List.set_cons_succ, i64_w, i32_w]
         rfl
        exact norm_ (by first | (simp only [putAll, Act.put, List.setIfInBounds_toArray, List.set_cons_zero, List.set_cons_succ]; done) | (simp only [putAll, Act.put, List.setIfInBounds_toArray, List.set_cons_zero, List.set_cons_succ]; rfl)) (hJ (A7, c7, A8, c8, bx) _ ⟨FK12_.out, FI12_.out, FB12_.out, FD12_.out, FX12_.out, F712_.out, F812_.out⟩)
      ·refine goes_ Try.func70 (by kernel_rfl) rfl #[.pointer (some ⟨g, 0, none⟩), .int .i64 2] (by rfl) rfl rfl (by (try simp only [List.map_toArray, List.map_cons, List.map_nil]); first | done | rfl) ?_
       with_reducible refine (spec_l20Rd_pick.calls k g s0_0 t239 2 t249 t250 w0 w4_ FI4_.out FB4_.out A20.out).mono ?_
       rintro e w8_ ⟨rfl, hi, hb, hk⟩
       have FK8_ := am (KeepBut.trans FK4_.out hk (.inl rfl))
       have FD8_ := am (KeepBut.blk hk FD4_.out NB235_0.out (by simp))
       have F78_ := am (Kd.R_mono (Kd.R_keep (IsS80.apart FI4_.out F74_.out (by decide)) hk (fun _ h => h.2)) (fun _ h => h.1))
       have FI8_ := am hi
       have FB8_ := am hb
       clear hi hb hk
       refine ⟨_, rfl, ?_⟩
       refine hK.out _ _ ((blk_cell FD8_.out 0).trans rfl) (fun hHeld => ?_)
       clear hK K
       refine norm_ (a' := ?_) ?_ ?_
       rotate_left
       ·show Act.put _ (some 26) _ = _
        simp only [Act.put, List.setIfInBounds_toArray, List.set_cons_zero, List.set_cons_succ, i64_w, i32_w]
        rfl
       refine one_ (i := 8) (N := some 23) #[true, true, true, true, true, true, true, true, true, false, true, true, false, false, false, false] rfl rfl (one_of HT_.out (by kernel_rfl)) (by decide) (fun K hK => ?_)
       refine Kd.R_lit_step (Kd.int .i64) (w0 := w8_) w8_.heap.size 3 (by rfl) (N := 23) rfl (xs := ([1] : List Int)) (inner := [.int .i64 1]) (ok := fun _ => True) (okp := fun _ => True) (by first | (go_simp; done) | (go_simp; rfl)) ((Reps.one (show Kd.M (Kd.int .i64) _ _ _ 1 [.int .i64 1] from rfl) (Reps.none _ _))) (fun _ hk => hk) trivial (Below.refl _ _) (Nat.le_refl _) (by simp) ?_
       intro v8 w13_ ho hb hg_ hnew_
       obtain ⟨A8, c8, e8⟩ := Kd.R_slice ho
       subst e8
       have FK13_ := am (KeepBut.trans FK8_.out (KeepBut.of_below hb g none) (.inl rfl))
       have FD13_ := am (blk_below FD8_.out hb)
       have F713_ := am (Kd.R_below F78_.out hb)
       have FI13_ := am (IsS80.below FI8_.out hb)
       have FB13_ := am (below_then FB8_.out FB8_.out.size hb)
       have F813_ := am (Kd.R_lower ho FK8_.out.1)
       clear ho hb hg_ hnew_
       refine hK.out _ _ ((blk_cell FD13_.out 0).trans rfl) (fun hHeld => ?_)
       clear hK K
       refine norm_ (a' := ?_) ?_ ?_
       rotate_left
       ·show Act.put _ (some 23) _ = _
        simp only [Act.put, List.setIfInBounds_toArray, List.set_cons_zero, List.set_cons_succ, i64_w, i32_w]
        rfl
       refine one_ (i := 9) (N := some 24) #[true, true, true, true, true, true, true, true, true, true, true, true, false, false, false, false] rfl rfl (one_of HT_.out (by kernel_rfl)) (by decide) (fun K hK => ?_)
       refine event_step (v := .slice (some ⟨w13_.heap.size, 0, none⟩) 2 2) (w1 := w13_.alloc (Obj.cells #[.slice A7 0 c7, .slice A8 1 c8] 36)) (by rfl) ?_ ?_
       ·first | (go_simp; done) | (go_simp; rfl)
       have hb : Below w13_.heap.size w13_ (w13_.alloc (Obj.cells #[.slice A7 0 c7, .slice A8 1 c8] 36)) := (Below.refl _ _).alloc (Nat.le_refl _) _
       have FK14_ := am (KeepBut.trans FK13_.out (KeepBut.of_below hb g none) (.inl rfl))
       have FD14_ := am (blk_below FD13_.out hb)
       have F714_ := am (Kd.R_below F713_.out hb)
       have FI14_ := am (IsS80.below FI13_.out hb)
       have FB14_ := am (below_then FB13_.out FB13_.out.size hb)
       have F814_ := am (Kd.R_below F813_.out hb)
       have FX14_ := am (blk_new w13_ (Obj.cells #[.slice A7 0 c7, .slice A8 1 c8] 36))
       clear hb
       generalize w13_.alloc (Obj.cells #[.slice A7 0 c7, .slice A8 1 c8] 36) = w14_ at FK14_ FD14_ F714_ FI14_ FB14_ F814_ FX14_ ⊢
       obtain ⟨bx, hbx⟩ : ∃ bx, w13_.heap.size = bx := ⟨_, rfl⟩
       rw [hbx] at FX14_ ⊢
       clear hbx
       refine hK.out _ _ ((blk_cell FD14_.out 0).trans rfl) (fun hHeld => ?_)
       clear hK K
       refine norm_ (a' := ?_) ?_ ?_
       rotate_left
       ·show Act.put _ (some 24) _ = _
        simp only [Act.put, List.setIfInBounds_toArray, List.set_cons_zero, List.set_cons_succ, i64_w, i32_w]
        rfl
       exact norm_ (by first | (simp only [putAll, Act.put, List.setIfInBounds_toArray, List.set_cons_zero, List.set_cons_succ]; done) | (simp only [putAll, Act.put, List.setIfInBounds_toArray, List.set_cons_zero, List.set_cons_succ]; rfl)) (hJ (A7, c7, A8, c8, bx) _ ⟨FK14_.out, FI14_.out, FB14_.out, FD14_.out, FX14_.out, F714_.out, F814_.out⟩)
     ·refine Kd.R_lit_step (Kd.int .i64) (w0 := w1_) w1_.heap.size 3 (by rfl) (N := 23) rfl (xs := ([1] : List Int)) (inner := [.int .i64 1]) (ok := fun _ => True) (okp := fun _ => True) (by first | (go_simp; done) | (go_simp; rfl)) ((Reps.one (show Kd.M (Kd.int .i64) _ _ _ 1 [.int .i64 1] from rfl) (Reps.none _ _))) (fun _ hk => hk) trivial (Below.refl _ _) (Nat.le_refl _) (by simp) ?_
      intro v8 w5_ ho hb hg_ hnew_
      obtain ⟨A8, c8, e8⟩ := Kd.R_slice ho
      subst e8
      have FK5_ := am (KeepBut.trans FK1_.out (KeepBut.of_below hb g none) (.inl rfl))
      have FD5_ := am (blk_below FD1_.out hb)
      have FI5_ := am (IsS80.below FI1_.out hb)
      have FB5_ := am (below_then FB1_.out FB1_.out.size hb)
      have F85_ := am (Kd.R_lower ho FK1_.out.1)
      clear ho hb hg_ hnew_
      refine hK.out _ _ ((blk_cell FD5_.out 0).trans rfl) (fun hHeld => ?_)
      clear hK K
      refine norm_ (a' := ?_) ?_ ?_
      rotate_left
      ·show Act.put _ (some 23) _ = _
       simp only [Act.put, List.setIfInBounds_toArray, List.set_cons_zero, List.set_cons_succ, i64_w, i32_w]
       rfl
      refine two_ (i := 7) (j := 11) (Ni := some 22) (Nj := some 26) #[true, true, true, true, true, true, true, true, true, false, true, false, false, false, false, false] #[true, true, true, true, true, true, true, false, true, false, true, true, false, false, false, false] rfl rfl rfl rfl (two_of HT_.out (by kernel_rfl)) (by decide) (by decide) (fun K hK => ?_) (fun K hK => ?_)
      ·refine Kd.R_lit_step (Kd.int .i64) (w0 := w5_) w5_.heap.size 3 (by rfl) (N := 22) rfl (xs := ([] : List Int)) (inner := []) (ok := fun _ => True) (okp := fun _ => True) (by first | (go_simp; done) | (go_simp; rfl)) (Reps.none _ _) (fun _ hk => hk) trivial (Below.refl _ _) (Nat.le_refl _) (by simp) ?_
       intro v7 w15_ ho hb hg_ hnew_
       obtain ⟨A7, c7, e7⟩ := Kd.R_slice ho
       subst e7
       have FK15_ := am (KeepBut.trans FK5_.out (KeepBut.of_below hb g none) (.inl rfl))
       have FD15_ := am (blk_below FD5_.out hb)
       have FI15_ := am (IsS80.below FI5_.out hb)
       have FB15_ := am (below_then FB5_.out FB5_.out.size hb)
       have F815_ := am (Kd.R_below F85_.out hb)
       have F715_ := am (Kd.R_lower ho FK5_.out.1)
       clear ho hb hg_ hnew_
       refine hK.out _ _ ((blk_cell FD15_.out 0).trans rfl) (fun hHeld => ?_)
       clear hK K
       refine norm_ (a' := ?_) ?_ ?_
       rotate_left
       ·show Act.put _ (some 22) _ = _
        simp only [Act.put, List.setIfInBounds_toArray, List.set_cons_zero, List.set_cons_succ, i64_w, i32_w]
        rfl
       refine two_ (i := 9) (j := 11) (Ni := some 24) (Nj := some 26) #[true, true, true, true, true, true, true, true, true, true, true, false, false, false, false, false] #[true, true, true, true, true, true, true, true, true, false, true, true, false, false, false, false] rfl rfl rfl rfl (two_of HT_.out (by kernel_rfl)) (by decide) (by decide) (fun K hK => ?_) (fun K hK => ?_)
       ·refine event_step (v := .slice (some ⟨w15_.heap.size, 0, none⟩) 2 2) (w1 := w15_.alloc (Obj.cells #[.slice A7 0 c7, .slice A8 1 c8] 36)) (by rfl) ?_ ?_
        ·first | (go_simp; done) | (go_simp; rfl)
        have hb : Below w15_.heap.size w15_ (w15_.alloc (Obj.cells #[.slice A7 0 c7, .slice A8 1 c8] 36)) := (Below.refl _ _).alloc (Nat.le_refl _) _
        have FK17_ := am (KeepBut.trans FK15_.out (KeepBut.of_below hb g none) (.inl rfl))
        have FD17_ := am (blk_below FD15_.out hb)
        have FI17_ := am (IsS80.below FI15_.out hb)
        have FB17_ := am (below_then FB15_.out FB15_.out.size hb)
        have F817_ := am (Kd.R_below F815_.out hb)
        have F717_ := am (Kd.R_below F715_.out hb)
        have FX17_ := am (blk_new w15_ (Obj.cells #[.slice A7 0 c7, .slice A8 1 c8] 36))
        clear hb
        generalize w15_.alloc (Obj.cells #[.slice A7 0 c7, .slice A8 1 c8] 36) = w17_ at FK17_ FD17_ FI17_ FB17_ F817_ F717_ FX17_ ⊢
        obtain ⟨bx, hbx⟩ : ∃ bx, w15_.heap.size = bx := ⟨_, rfl⟩
        rw [hbx] at FX17_ ⊢
        clear hbx
        refine hK.out _ _ ((blk_cell FD17_.out 0).trans rfl) (fun hHeld => ?_)
        clear hK K
        refine norm_ (a' := ?_) ?_ ?_
        rotate_left
        ·show Act.put _ (some 24) _ = _
         simp only [Act.put, List.setIfInBounds_toArray, List.set_cons_zero, List.set_cons_succ, i64_w, i32_w]
         rfl
        refine one_ (i := 11) (N := some 26) #[true, true, true, true, true, true, true, true, true, true, true, true, false, false, false, false] rfl rfl (one_of HT_.out (by kernel_rfl)) (by decide) (fun K hK => ?_)
        refine goes_ Try.func70 (by kernel_rfl) rfl #[.pointer (some ⟨g, 0, none⟩), .int .i64 2] (by rfl) rfl rfl (by (try simp only [List.map_toArray, List.map_cons, List.map_nil]); first | done | rfl) ?_
        with_reducible refine (spec_l20Rd_pick.calls k g s0_0 t239 2 t249 t250 w0 w17_ FI17_.out FB17_.out A20.out).mono ?_
        rintro e w19_ ⟨rfl, hi, hb, hk⟩
        have FK19_ := am (KeepBut.trans FK17_.out hk (.inl rfl))
        have FD19_ := am (KeepBut.blk hk FD17_.out NB235_0.out (by simp))
        have F819_ := am (Kd.R_mono (Kd.R_keep (IsS80.apart FI17_.out F817_.out (by decide)) hk (fun _ h => h.2)) (fun _ h => h.1))
        have F719_ := am (Kd.R_mono (Kd.R_keep (IsS80.apart FI17_.out F717_.out (by decide)) hk (fun _ h => h.2)) (fun _ h => h.1))
        have FX19_ := am ((hk.2 bx (blk_lt FX17_.out) (IsS80.ne_blk FI17_.out FX17_.out (by decide)).symm (by simp)).trans FX17_.out)
        have FI19_ := am hi
        have FB19_ := am hb
        clear hi hb hk
        refine ⟨_, rfl, ?_⟩
        refine hK.out _ _ ((blk_cell FD19_.out 0).trans rfl) (fun hHeld => ?_)
        clear hK K
        refine norm_ (a' := ?_) ?_ ?_
        rotate_left
        ·show Act.put _ (some 26) _ = _
         simp only [Act.put, List.setIfInBounds_toArray, List.set_cons_zero, List.set_cons_succ, i64_w, i32_w]
         rfl
        exact norm_ (by first | (simp only [putAll, Act.put, List.setIfInBounds_toArray, List.set_cons_zero, List.set_cons_succ]; done) | (simp only [putAll, Act.put, List.setIfInBounds_toArray, List.set_cons_zero, List.set_cons_succ]; rfl)) (hJ (A7, c7, A8, c8, bx) _ ⟨FK19_.out, FI19_.out, FB19_.out, FD19_.out, FX19_.out, F719_.out, F819_.out⟩)
       ·refine goes_ Try.func70 (by kernel_rfl) rfl #[.pointer (some ⟨g, 0, none⟩), .int .i64 2] (by rfl) rfl rfl (by (try simp only [List.map_toArray, List.map_cons, List.map_nil]); first | done | rfl) ?_
        with_reducible refine (spec_l20Rd_pick.calls k g s0_0 t239 2 t249 t250 w0 w15_ FI15_.out FB15_.out A20.out).mono ?_
        rintro e w18_ ⟨rfl, hi, hb, hk⟩
        have FK18_ := am (KeepBut.trans FK15_.out hk (.inl rfl))
        have FD18_ := am (KeepBut.blk hk FD15_.out NB235_0.out (by simp))
        have F818_ := am (Kd.R_mono (Kd.R_keep (IsS80.apart FI15_.out F815_.out (by decide)) hk (fun _ h => h.2)) (fun _ h => h.1))
        have F718_ := am (Kd.R_mono (Kd.R_keep (IsS80.apart FI15_.out F715_.out (by decide)) hk (fun _ h => h.2)) (fun _ h => h.1))
        have FI18_ := am hi
        have FB18_ := am hb
        clear hi hb hk
        refine ⟨_, rfl, ?_⟩
        refine hK.out _ _ ((blk_cell FD18_.out 0).trans rfl) (fun hHeld => ?_)
        clear hK K
        refine norm_ (a' := ?_) ?_ ?_
        rotate_left
        ·show Act.put _ (some 26) _ = _
         simp only [Act.put, List.setIfInBounds_toArray, List.set_cons_zero, List.set_cons_succ, i64_w, i32_w]
         rfl
        refine one_ (i := 9) (N := some 24) #[true, true, true, true, true, true, true, true, true, true, true, true, false, false, false, false] rfl rfl (one_of HT_.out (by kernel_rfl)) (by decide) (fun K hK => ?_)
        refine event_step (v := .slice (some ⟨w18_.heap.size, 0, none⟩) 2 2) (w1 := w18_.alloc (Obj.cells #[.slice A7 0 c7, .slice A8 1 c8] 36)) (by rfl) ?_ ?_
        ·first | (go_simp; done) | (go_simp; rfl)
        have hb : Below w18_.heap.size w18_ (w18_.alloc (Obj.cells #[.slice A7 0 c7, .slice A8 1 c8] 36)) := (Below.refl _ _).alloc (Nat.le_refl _) _
        have FK20_ := am (KeepBut.trans FK18_.out (KeepBut.of_below hb g none) (.inl rfl))
        have FD20_ := am (blk_below FD18_.out hb)
        have F820_ := am (Kd.R_below F818_.out hb)
        have F720_ := am (Kd.R_below F718_.out hb)
        have FI20_ := am (IsS80.below FI18_.out hb)
        have FB20_ := am (below_then FB18_.out FB18_.out.size hb)
        have FX20_ := am (blk_new w18_ (Obj.cells #[.slice A7 0 c7, .slice A8 1 c8] 36))
        clear hb
        generalize w18_.alloc (Obj.cells #[.slice A7 0 c7, .slice A8 1 c8] 36) = w20_ at FK20_ FD20_ F820_ F720_ FI20_ FB20_ FX20_ ⊢
        obtain ⟨bx, hbx⟩ : ∃ bx, w18_.heap.size = bx := ⟨_, rfl⟩
        rw [hbx] at FX20_ ⊢
        clear hbx
        refine hK.out _ _ ((blk_cell FD20_.out 0).trans rfl) (fun hHeld => ?_)
        clear hK K
        refine norm_ (a' := ?_) ?_ ?_
        rotate_left
        ·show Act.put _ (some 24) _ = _
         simp only [Act.put, List.setIfInBounds_toArray, List.set_cons_zero, List.set_cons_succ, i64_w, i32_w]
         rfl
        exact norm_ (by first | (simp only [putAll, Act.put, List.setIfInBounds_toArray, List.set_cons_zero, List.set_cons_succ]; done) | (simp only [putAll, Act.put, List.setIfInBounds_toArray, List.set_cons_zero, List.set_cons_succ]; rfl)) (hJ (A7, c7, A8, c8, bx) _ ⟨FK20_.out, FI20_.out, FB20_.out, FD20_.out, FX20_.out, F720_.out, F820_.out⟩)
      ·refine goes_ Try.func70 (by kernel_rfl) rfl #[.pointer (some ⟨g, 0, none⟩), .int .i64 2] (by rfl) rfl rfl (by (try simp only [List.map_toArray, List.map_cons, List.map_nil]); first | done | rfl) ?_
       with_reducible refine (spec_l20Rd_pick.calls k g s0_0 t239 2 t249 t250 w0 w5_ FI5_.out FB5_.out A20.out).mono ?_
       rintro e w16_ ⟨rfl, hi, hb, hk⟩
       have FK16_ := am (KeepBut.trans FK5_.out hk (.inl rfl))
       have FD16_ := am (KeepBut.blk hk FD5_.out NB235_0.out (by simp))
       have F816_ := am (Kd.R_mono (Kd.R_keep (IsS80.apart FI5_.out F85_.out (by decide)) hk (fun _ h => h.2)) (fun _ h => h.1))
       have FI16_ := am hi
       have FB16_ := am hb
       clear hi hb hk
       refine ⟨_, rfl, ?_⟩
       refine hK.out _ _ ((blk_cell FD16_.out 0).trans rfl) (fun hHeld => ?_)
       clear hK K
       refine norm_ (a' := ?_) ?_ ?_
       rotate_left
       ·show Act.put _ (some 26) _ = _
        simp only [Act.put, List.setIfInBounds_toArray, List.set_cons_zero, List.set_cons_succ, i64_w, i32_w]
        rfl
       refine one_ (i := 7) (N := some 22) #[true, true, true, true, true, true, true, true, true, false, true, true, false, false, false, false] rfl rfl (one_of HT_.out (by kernel_rfl)) (by decide) (fun K hK => ?_)
       refine Kd.R_lit_step (Kd.int .i64) (w0 := w16_) w16_.heap.size 3 (by rfl) (N := 22) rfl (xs := ([] : List Int)) (inner := []) (ok := fun _ => True) (okp := fun _ => True) (by first | (go_simp; done) | (go_simp; rfl)) (Reps.none _ _) (fun _ hk => hk) trivial (Below.refl _ _) (Nat.le_refl _) (by simp) ?_
       intro v7 w21_ ho hb hg_ hnew_
       obtain ⟨A7, c7, e7⟩ := Kd.R_slice ho
       subst e7
       have FK21_ := am (KeepBut.trans FK16_.out (KeepBut.of_below hb g none) (.inl rfl))
       have FD21_ := am (blk_below FD16_.out hb)
       have F821_ := am (Kd.R_below F816_.out hb)
       have FI21_ := am (IsS80.below FI16_.out hb)
       have FB21_ := am (below_then FB16_.out FB16_.out.size hb)
       have F721_ := am (Kd.R_lower ho FK16_.out.1)
       clear ho hb hg_ hnew_
       refine hK.out _ _ ((blk_cell FD21_.out 0).trans rfl) (fun hHeld => ?_)
       clear hK K
       refine norm_ (a' := ?_) ?_ ?_
       rotate_left
       ·show Act.put _ (some 22) _ = _
        simp only [Act.put, List.setIfInBounds_toArray, List.set_cons_zero, List.set_cons_succ, i64_w, i32_w]
        rfl
       refine one_ (i := 9) (N := some 24) #[true, true, true, true, true, true, true, true, true, true, true, true, false, false, false, false] rfl rfl (one_of HT_.out (by kernel_rfl)) (by decide) (fun K hK => ?_)
       refine event_step (v := .slice (some ⟨w21_.heap.size, 0, none⟩) 2 2) (w1 := w21_.alloc (Obj.cells #[.slice A7 0 c7, .slice A8 1 c8] 36)) (by rfl) ?_ ?_
       ·first | (go_simp; done) | (go_simp; rfl)
       have hb : Below w21_.heap.size w21_ (w21_.alloc (Obj.cells #[.slice A7 0 c7, .slice A8 1 c8] 36)) := (Below.refl _ _).alloc (Nat.le_refl _) _
       have FK22_ := am (KeepBut.trans FK21_.out (KeepBut.of_below hb g none) (.inl rfl))
       have FD22_ := am (blk_below FD21_.out hb)
       have F822_ := am (Kd.R_below F821_.out hb)
       have FI22_ := am (IsS80.below FI21_.out hb)
       have FB22_ := am (below_then FB21_.out FB21_.out.size hb)
       have F722_ := am (Kd.R_below F721_.out hb)
       have FX22_ := am (blk_new w21_ (Obj.cells #[.slice A7 0 c7, .slice A8 1 c8] 36))
       clear hb
       generalize w21_.alloc (Obj.cells #[.slice A7 0 c7, .slice A8 1 c8] 36) = w22_ at FK22_ FD22_ F822_ FI22_ FB22_ F722_ FX22_ ⊢
       obtain ⟨bx, hbx⟩ : ∃ bx, w21_.heap.size = bx := ⟨_, rfl⟩
       rw [hbx] at FX22_ ⊢
       clear hbx
       refine hK.out _ _ ((blk_cell FD22_.out 0).trans rfl) (fun hHeld => ?_)
       clear hK K
       refine norm_ (a' := ?_) ?_ ?_
       rotate_left
       ·show Act.put _ (some 24) _ = _
        simp only [Act.put, List.setIfInBounds_toArray, List.set_cons_zero, List.set_cons_succ, i64_w, i32_w]
        rfl
       exact norm_ (by first | (simp only [putAll, Act.put, List.setIfInBounds_toArray, List.set_cons_zero, List.set_cons_succ]; done) | (simp only [putAll, Act.put, List.setIfInBounds_toArray, List.set_cons_zero, List.set_cons_succ]; rfl)) (hJ (A7, c7, A8, c8, bx) _ ⟨FK22_.out, FI22_.out, FB22_.out, FD22_.out, FX22_.out, F722_.out, F822_.out⟩)
     ·refine goes_ Try.func70 (by kernel_rfl) rfl #[.pointer (some ⟨g, 0, none⟩), .int .i64 2] (by rfl) rfl rfl (by (try simp only [List.map_toArray, List.map_cons, List.map_nil]); first | done | rfl) ?_
      with_reducible refine (spec_l20Rd_pick.calls k g s0_0 t239 2 t249 t250 w0 w1_ FI1_.out FB1_.out A20.out).mono ?_
      rintro e w6_ ⟨rfl, hi, hb, hk⟩
      have FK6_ := am (KeepBut.trans FK1_.out hk (.inl rfl))
      have FD6_ := am (KeepBut.blk hk FD1_.out NB235_0.out (by simp))
      have FI6_ := am hi
      have FB6_ := am hb
      clear hi hb hk
      refine ⟨_, rfl, ?_⟩
      refine hK.out _ _ ((blk_cell FD6_.out 0).trans rfl) (fun hHeld => ?_)
      clear hK K
      refine norm_ (a' := ?_) ?_ ?_
      rotate_left
      ·show Act.put _ (some 26) _ = _
       simp only [Act.put, List.setIfInBounds_toArray, List.set_cons_zero, List.set_cons_succ, i64_w, i32_w]
       rfl
      refine two_ (i := 7) (j := 8) (Ni := some 22) (Nj := some 23) #[true, true, true, true, true, true, true, true, false, false, true, true, false, false, false, false] #[true, true, true, true, true, true, true, false, true, false, true, true, false, false, false, false] rfl rfl rfl rfl (two_of HT_.out (by kernel_rfl)) (by decide) (by decide) (fun K hK => ?_) (fun K hK => ?_)
      ·refine Kd.R_lit_step (Kd.int .i64) (w0 := w6_) w6_.heap.size 3 (by rfl) (N := 22) rfl (xs := ([] : List Int)) (inner := []) (ok := fun _ => True) (okp := fun _ => True) (by first | (go_simp; done) | (go_simp; rfl)) (Reps.none _ _) (fun _ hk => hk) trivial (Below.refl _ _) (Nat.le_refl _) (by simp) ?_
       intro v7 w23_ ho hb hg_ hnew_
       obtain ⟨A7, c7, e7⟩ := Kd.R_slice ho
       subst e7
       have FK23_ := am (KeepBut.trans FK6_.out (KeepBut.of_below hb g none) (.inl rfl))
       have FD23_ := am (blk_below FD6_.out hb)
       have FI23_ := am (IsS80.below FI6_.out hb)
       have FB23_ := am (below_then FB6_.out FB6_.out.size hb)
       have F723_ := am (Kd.R_lower ho FK6_.out.1)
       clear ho hb hg_ hnew_
       refine hK.out _ _ ((blk_cell FD23_.out 0).trans rfl) (fun hHeld => ?_)
       clear hK K
       refine norm_ (a' := ?_) ?_ ?_
       rotate_left
       ·show Act.put _ (some 22) _ = _
        simp only [Act.put, List.setIfInBounds_toArray, List.set_cons_zero, List.set_cons_succ, i64_w, i32_w]
        rfl
       refine one_ (i := 8) (N := some 23) #[true, true, true, true, true, true, true, true, true, false, true, true, false, false, false, false] rfl rfl (one_of HT_.out (by kernel_rfl)) (by decide) (fun K hK => ?_)
       refine Kd.R_lit_step (Kd.int .i64) (w0 := w23_) w23_.heap.size 3 (by rfl) (N := 23) rfl (xs := ([1] : List Int)) (inner := [.int .i64 1]) (ok := fun _ => True) (okp := fun _ => True) (by first | (go_simp; done) | (go_simp; rfl)) ((Reps.one (show Kd.M (Kd.int .i64) _ _ _ 1 [.int .i64 1] from rfl) (Reps.none _ _))) (fun _ hk => hk) trivial (Below.refl _ _) (Nat.le_refl _) (by simp) ?_
       intro v8 w25_ ho hb hg_ hnew_
       obtain ⟨A8, c8, e8⟩ := Kd.R_slice ho
       subst e8
       have FK25_ := am (KeepBut.trans FK23_.out (KeepBut.of_below hb g none) (.inl rfl))
       have FD25_ := am (blk_below FD23_.out hb)
       have FI25_ := am (IsS80.below FI23_.out hb)
       have FB25_ := am (below_then FB23_.out FB23_.out.size hb)
       have F725_ := am (Kd.R_below F723_.out hb)
       have F825_ := am (Kd.R_lower ho FK23_.out.1)
       clear ho hb hg_ hnew_
       refine hK.out _ _ ((blk_cell FD25_.out 0).trans rfl) (fun hHeld => ?_)
       clear hK K
       refine norm_ (a' := ?_) ?_ ?_
       rotate_left
       ·show Act.put _ (some 23) _ = _
        simp only [Act.put, List.setIfInBounds_toArray, List.set_cons_zero, List.set_cons_succ, i64_w, i32_w]
        rfl
       refine one_ (i := 9) (N := some 24) #[true, true, true, true, true, true, true, true, true, true, true, true, false, false, false, false] rfl rfl (one_of HT_.out (by kernel_rfl)) (by decide) (fun K hK => ?_)
       refine event_step (v := .slice (some ⟨w25_.heap.size, 0, none⟩) 2 2) (w1 := w25_.alloc (Obj.cells #[.slice A7 0 c7, .slice A8 1 c8] 36)) (by rfl) ?_ ?_
       ·first | (go_simp; done) | (go_simp; rfl)
       have hb : Below w25_.heap.size w25_ (w25_.alloc (Obj.cells #[.slice A7 0 c7, .slice A8 1 c8] 36)) := (Below.refl _ _).alloc (Nat.le_refl _) _
       have FK26_ := am (KeepBut.trans FK25_.out (KeepBut.of_below hb g none) (.inl rfl))
       have FD26_ := am (blk_below FD25_.out hb)
       have FI26_ := am (IsS80.below FI25_.out hb)
       have FB26_ := am (below_then FB25_.out FB25_.out.size hb)
       have F726_ := am (Kd.R_below F725_.out hb)
       have F826_ := am (Kd.R_below F825_.out hb)
       have FX26_ := am (blk_new w25_ (Obj.cells #[.slice A7 0 c7, .slice A8 1 c8] 36))
       clear hb
       generalize w25_.alloc (Obj.cells #[.slice A7 0 c7, .slice A8 1 c8] 36) = w26_ at FK26_ FD26_ FI26_ FB26_ F726_ F826_ FX26_ ⊢
       obtain ⟨bx, hbx⟩ : ∃ bx, w25_.heap.size = bx := ⟨_, rfl⟩
       rw [hbx] at FX26_ ⊢
       clear hbx
       refine hK.out _ _ ((blk_cell FD26_.out 0).trans rfl) (fun hHeld => ?_)
       clear hK K
       refine norm_ (a' := ?_) ?_ ?_
       rotate_left
       ·show Act.put _ (some 24) _ = _
        simp only [Act.put, List.setIfInBounds_toArray, List.set_cons_zero, List.set_cons_succ, i64_w, i32_w]
        rfl
       exact norm_ (by first | (simp only [putAll, Act.put, List.setIfInBounds_toArray, List.set_cons_zero, List.set_cons_succ]; done) | (simp only [putAll, Act.put, List.setIfInBounds_toArray, List.set_cons_zero, List.set_cons_succ]; rfl)) (hJ (A7, c7, A8, c8, bx) _ ⟨FK26_.out, FI26_.out, FB26_.out, FD26_.out, FX26_.out, F726_.out, F826_.out⟩)
      ·refine Kd.R_lit_step (Kd.int .i64) (w0 := w6_) w6_.heap.size 3 (by rfl) (N := 23) rfl (xs := ([1] : List Int)) (inner := [.int .i64 1]) (ok := fun _ => True) (okp := fun _ => True) (by first | (go_simp; done) | (go_simp; rfl)) ((Reps.one (show Kd.M (Kd.int .i64) _ _ _ 1 [.int .i64 1] from rfl) (Reps.none _ _))) (fun _ hk => hk) trivial (Below.refl _ _) (Nat.le_refl _) (by simp) ?_
       intro v8 w24_ ho hb hg_ hnew_
       obtain ⟨A8, c8, e8⟩ := Kd.R_slice ho
       subst e8
       have FK24_ := am (KeepBut.trans FK6_.out (KeepBut.of_below hb g none) (.inl rfl))
       have FD24_ := am (blk_below FD6_.out hb)
       have FI24_ := am (IsS80.below FI6_.out hb)
       have FB24_ := am (below_then FB6_.out FB6_.out.size hb)
       have F824_ := am (Kd.R_lower ho FK6_.out.1)
       clear ho hb hg_ hnew_
       refine hK.out _ _ ((blk_cell FD24_.out 0).trans rfl) (fun hHeld => ?_)
       clear hK K
       refine norm_ (a' := ?_) ?_ ?_
       rotate_left
       ·show Act.put _ (some 23) _ = _
        simp only [Act.put, List.setIfInBounds_toArray, List.set_cons_zero, List.set_cons_succ, i64_w, i32_w]
        rfl
       refine one_ (i := 7) (N := some 22) #[true, true, true, true, true, true, true, true, true, false, true, true, false, false, false, false] rfl rfl (one_of HT_.out (by kernel_rfl)) (by decide) (fun K hK => ?_)
       refine Kd.R_lit_step (Kd.int .i64) (w0 := w24_) w24_.heap.size 3 (by rfl) (N := 22) rfl (xs := ([] : List Int)) (inner := []) (ok := fun _ => True) (okp := fun _ => True) (by first | (go_simp; done) | (go_simp; rfl)) (Reps.none _ _) (fun _ hk => hk) trivial (Below.refl _ _) (Nat.le_refl _) (by simp) ?_
       intro v7 w27_ ho hb hg_ hnew_
       obtain ⟨A7, c7, e7⟩ := Kd.R_slice ho
       subst e7
       have FK27_ := am (KeepBut.trans FK24_.out (KeepBut.of_below hb g none) (.inl rfl))
       have FD27_ := am (blk_below FD24_.out hb)
       have FI27_ := am (IsS80.below FI24_.out hb)
       have FB27_ := am (below_then FB24_.out FB24_.out.size hb)
       have F827_ := am (Kd.R_below F824_.out hb)
       have F727_ := am (Kd.R_lower ho FK24_.out.1)
       clear ho hb hg_ hnew_
       refine hK.out _ _ ((blk_cell FD27_.out 0).trans rfl) (fun hHeld => ?_)
       clear hK K
       refine norm_ (a' := ?_) ?_ ?_
       rotate_left
       ·show Act.put _ (some 22) _ = _
        simp only [Act.put, List.setIfInBounds_toArray, List.set_cons_zero, List.set_cons_succ, i64_w, i32_w]
        rfl
       refine one_ (i := 9) (N := some 24) #[true, true, true, true, true, true, true, true, true, true, true, true, false, false, false, false] rfl rfl (one_of HT_.out (by kernel_rfl)) (by decide) (fun K hK => ?_)
       refine event_step (v := .slice (some ⟨w27_.heap.size, 0, none⟩) 2 2) (w1 := w27_.alloc (Obj.cells #[.slice A7 0 c7, .slice A8 1 c8] 36)) (by rfl) ?_ ?_
       ·first | (go_simp; done) | (go_simp; rfl)
       have hb : Below w27_.heap.size w27_ (w27_.alloc (Obj.cells #[.slice A7 0 c7, .slice A8 1 c8] 36)) := (Below.refl _ _).alloc (Nat.le_refl _) _
       have FK28_ := am (KeepBut.trans FK27_.out (KeepBut.of_below hb g none) (.inl rfl))
       have FD28_ := am (blk_below FD27_.out hb)
       have FI28_ := am (IsS80.below FI27_.out hb)
       have FB28_ := am (below_then FB27_.out FB27_.out.size hb)
       have F828_ := am (Kd.R_below F827_.out hb)
       have F728_ := am (Kd.R_below F727_.out hb)
       have FX28_ := am (blk_new w27_ (Obj.cells #[.slice A7 0 c7, .slice A8 1 c8] 36))
       clear hb
       generalize w27_.alloc (Obj.cells #[.slice A7 0 c7, .slice A8 1 c8] 36) = w28_ at FK28_ FD28_ FI28_ FB28_ F828_ F728_ FX28_ ⊢
       obtain ⟨bx, hbx⟩ : ∃ bx, w27_.heap.size = bx := ⟨_, rfl⟩
       rw [hbx] at FX28_ ⊢
       clear hbx
       refine hK.out _ _ ((blk_cell FD28_.out 0).trans rfl) (fun hHeld => ?_)
       clear hK K
       refine norm_ (a' := ?_) ?_ ?_
       rotate_left
       ·show Act.put _ (some 24) _ = _
        simp only [Act.put, List.setIfInBounds_toArray, List.set_cons_zero, List.set_cons_succ, i64_w, i32_w]
        rfl
       exact norm_ (by first | (simp only [putAll, Act.put, List.setIfInBounds_toArray, List.set_cons_zero, List.set_cons_succ]; done) | (simp only [putAll, Act.put, List.setIfInBounds_toArray, List.set_cons_zero, List.set_cons_succ]; rfl)) (hJ (A7, c7, A8, c8, bx) _ ⟨FK28_.out, FI28_.out, FB28_.out, FD28_.out, FX28_.out, F728_.out, F828_.out⟩)
    ·refine Kd.R_lit_step (Kd.int .i64) (w0 := w24) w24.heap.size 3 (by rfl) (N := 22) rfl (xs := ([] : List Int)) (inner := []) (ok := fun _ => True) (okp := fun _ => True) (by first | (go_simp; done) | (go_simp; rfl)) (Reps.none _ _) (fun _ hk => hk) trivial (Below.refl _ _) (Nat.le_refl _) (by simp) ?_
     intro v7 w2_ ho hb hg_ hnew_
     obtain ⟨A7, c7, e7⟩ := Kd.R_slice ho
     subst e7
     have FI2_ := am (IsS80.below HI0.out hb)
     have FB2_ := am (below_then HB.out HB.out.size hb)
     have FK2_ := am (KeepBut.trans HKd.out (KeepBut.of_below hb g none) (.inl rfl))
     have FD2_ := am (blk_below BK235.out hb)
     have F72_ := am (Kd.R_lower ho HKd.out.1)
     clear ho hb hg_ hnew_
     refine hK.out _ _ ((blk_cell FD2_.out 0).trans rfl) (fun hHeld => ?_)
     clear hK K
     refine norm_ (a' := ?_) ?_ ?_
     rotate_left
     ·show Act.put _ (some 22) _ = _
      simp only [Act.put, List.setIfInBounds_toArray, List.set_cons_zero, List.set_cons_succ, i64_w, i32_w]
      rfl
     refine two_ (i := 6) (j := 8) (Ni := some 21) (Nj := some 23) #[true, true, true, true, true, true, true, true, false, false, true, false, false, false, false, false] #[true, true, true, true, true, true, false, true, true, false, true, false, false, false, false, false] rfl rfl rfl rfl (two_of HT_.out (by kernel_rfl)) (by decide) (by decide) (fun K hK => ?_) (fun K hK => ?_)
     ·refine goes_ Try.func70 (by kernel_rfl) rfl #[.pointer (some ⟨g, 0, none⟩), .int .i64 (t228.length : Int)] (by rfl) rfl rfl (by (try simp only [List.map_toArray, List.map_cons, List.map_nil]); first | done | rfl) ?_
      with_reducible refine (spec_l20Rd_pick.calls k g s0_0 t237 (t228.length : Int) t238 t239 w0 w2_ FI2_.out FB2_.out A19.out).mono ?_
      rintro e w29_ ⟨rfl, hi, hb, hk⟩
      have FK29_ := am (KeepBut.trans FK2_.out hk (.inl rfl))
      have FD29_ := am (KeepBut.blk hk FD2_.out NB235_0.out (by simp))
      have F729_ := am (Kd.R_mono (Kd.R_keep (IsS80.apart FI2_.out F72_.out (by decide)) hk (fun _ h => h.2)) (fun _ h => h.1))
      have FI29_ := am hi
      have FB29_ := am hb
      clear hi hb hk
      refine ⟨_, rfl, ?_⟩
      refine hK.out _ _ ((blk_cell FD29_.out 0).trans rfl) (fun hHeld => ?_)
      clear hK K
      refine norm_ (a' := ?_) ?_ ?_
      rotate_left
      ·show Act.put _ (some 21) _ = _
       simp only [Act.put, List.setIfInBounds_toArray, List.set_cons_zero, List.set_cons_succ, i64_w, i32_w]
       rfl
      refine two_ (i := 8) (j := 11) (Ni := some 23) (Nj := some 26) #[true, true, true, true, true, true, true, true, true, false, true, false, false, false, false, false] #[true, true, true, true, true, true, true, true, false, false, true, true, false, false, false, false] rfl rfl rfl rfl (two_of HT_.out (by kernel_rfl)) (by decide) (by decide) (fun K hK => ?_) (fun K hK => ?_)
      ·refine Kd.R_lit_step (Kd.int .i64) (w0 := w29_) w29_.heap.size 3 (by rfl) (N := 23) rfl (xs := ([1] : List Int)) (inner := [.int .i64 1]) (ok := fun _ => True) (okp := fun _ => True) (by first | (go_simp; done) | (go_simp; rfl)) ((Reps.one (show Kd.M (Kd.int .i64) _ _ _ 1 [.int .i64 1] from rfl) (Reps.none _ _))) (fun _ hk => hk) trivial (Below.refl _ _) (Nat.le_refl _) (by simp) ?_
       intro v8 w31_ ho hb hg_ hnew_
       obtain ⟨A8, c8, e8⟩ := Kd.R_slice ho
       subst e8
       have FK31_ := am (KeepBut.trans FK29_.out (KeepBut.of_below hb g none) (.inl rfl))
       have FD31_ := am (blk_below FD29_.out hb)
       have F731_ := am (Kd.R_below F729_.out hb)
       have FI31_ := am (IsS80.below FI29_.out hb)
       have FB31_ := am (below_then FB29_.out FB29_.out.size hb)
       have F831_ := am (Kd.R_lower ho FK29_.out.1)
       clear ho hb hg_ hnew_
       refine hK.out _ _ ((blk_cell FD31_.out 0).trans rfl) (fun hHeld => ?_)
       clear hK K
       refine norm_ (a' := ?_) ?_ ?_
       rotate_left
       ·show Act.put _ (some 23) _ = _
        simp only [Act.put, List.setIfInBounds_toArray, List.set_cons_zero, List.set_cons_succ, i64_w, i32_w]
        rfl
       refine two_ (i := 9) (j := 11) (Ni := some 24) (Nj := some 26) #[true, true, true, true, true, true, true, true, true, true, true, false, false, false, false, false] #[true, true, true, true, true, true, true, true, true, false, true, true, false, false, false, false] rfl rfl rfl rfl (two_of HT_.out (by kernel_rfl)) (by decide) (by decide) (fun K hK => ?_) (fun K hK => ?_)
       ·refine event_step (v := .slice (some ⟨w31_.heap.size, 0, none⟩) 2 2) (w1 := w31_.alloc (Obj.cells #[.slice A7 0 c7, .slice A8 1 c8] 36)) (by rfl) ?_ ?_
        ·first | (go_simp; done) | (go_simp; rfl)
        have hb : Below w31_.heap.size w31_ (w31_.alloc (Obj.cells #[.slice A7 0 c7, .slice A8 1 c8] 36)) := (Below.refl _ _).alloc (Nat.le_refl _) _
        have FK33_ := am (KeepBut.trans FK31_.out (KeepBut.of_below hb g none) (.inl rfl))
        have FD33_ := am (blk_below FD31_.out hb)
        have F733_ := am (Kd.R_below F731_.out hb)
        have FI33_ := am (IsS80.below FI31_.out hb)
        have FB33_ := am (below_then FB31_.out FB31_.out.size hb)
        have F833_ := am (Kd.R_below F831_.out hb)
        have FX33_ := am (blk_new w31_ (Obj.cells #[.slice A7 0 c7, .slice A8 1 c8] 36))
        clear hb
        generalize w31_.alloc (Obj.cells #[.slice A7 0 c7, .slice A8 1 c8] 36) = w33_ at FK33_ FD33_ F733_ FI33_ FB33_ F833_ FX33_ ⊢
        obtain ⟨bx, hbx⟩ : ∃ bx, w31_.heap.size = bx := ⟨_, rfl⟩
        rw [hbx] at FX33_ ⊢
        clear hbx
        refine hK.out _ _ ((blk_cell FD33_.out 0).trans rfl) (fun hHeld => ?_)
        clear hK K
        refine norm_ (a' := ?_) ?_ ?_
        rotate_left
        ·show Act.put _ (some 24) _ = _
         simp only [Act.put, List.setIfInBounds_toArray, List.set_cons_zero, List.set_cons_succ, i64_w, i32_w]
         rfl
        refine one_ (i := 11) (N := some 26) #[true, true, true, true, true, true, true, true, true, true, true, true, false, false, false, false] rfl rfl (one_of HT_.out (by kernel_rfl)) (by decide) (fun K hK => ?_)
        refine goes_ Try.func70 (by kernel_rfl) rfl #[.pointer (some ⟨g, 0, none⟩), .int .i64 2] (by rfl) rfl rfl (by (try simp only [List.map_toArray, List.map_cons, List.map_nil]); first | done | rfl) ?_
        with_reducible refine (spec_l20Rd_pick.calls k g s0_0 t239 2 t249 t250 w0 w33_ FI33_.out FB33_.out A20.out).mono ?_
        rintro e w35_ ⟨rfl, hi, hb, hk⟩
        have FK35_ := am (KeepBut.trans FK33_.out hk (.inl rfl))
        have FD35_ := am (KeepBut.blk hk FD33_.out NB235_0.out (by simp))
        have F735_ := am (Kd.R_mono (Kd.R_keep (IsS80.apart FI33_.out F733_.out (by decide)) hk (fun _ h => h.2)) (fun _ h => h.1))
        have F835_ := am (Kd.R_mono (Kd.R_keep (IsS80.apart FI33_.out F833_.out (by decide)) hk (fun _ h => h.2)) (fun _ h => h.1))
        have FX35_ := am ((hk.2 bx (blk_lt FX33_.out) (IsS80.ne_blk FI33_.out FX33_.out (by decide)).symm (by simp)).trans FX33_.out)
        have FI35_ := am hi
        have FB35_ := am hb
        clear hi hb hk
        refine ⟨_, rfl, ?_⟩
        refine hK.out _ _ ((blk_cell FD35_.out 0).trans rfl) (fun hHeld => ?_)
        clear hK K
        refine norm_ (a' := ?_) ?_ ?_
        rotate_left
        ·show Act.put _ (some 26) _ = _
         simp only [Act.put, List.setIfInBounds_toArray, List.set_cons_zero, List.set_cons_succ, i64_w, i32_w]
         rfl
        exact norm_ (by first | (simp only [putAll, Act.put, List.setIfInBounds_toArray, List.set_cons_zero, List.set_cons_succ]; done) | (simp only [putAll, Act.put, List.setIfInBounds_toArray, List.set_cons_zero, List.set_cons_succ]; rfl)) (hJ (A7, c7, A8, c8, bx) _ ⟨FK35_.out, FI35_.out, FB35_.out, FD35_.out, FX35_.out, F735_.out, F835_.out⟩)
       ·refine goes_ Try.func70 (by kernel_rfl) rfl #[.pointer (some ⟨g, 0, none⟩), .int .i64 2] (by rfl) rfl rfl (by (try simp only [List.map_toArray, List.map_cons, List.map_nil]); first | done | rfl) ?_
        with_reducible refine (spec_l20Rd_pick.calls k g s0_0 t239 2 t249 t250 w0 w31_ FI31_.out FB31_.out A20.out).mono ?_
        rintro e w34_ ⟨rfl, hi, hb, hk⟩
        have FK34_ := am (KeepBut.trans FK31_.out hk (.inl rfl))
        have FD34_ := am (KeepBut.blk hk FD31_.out NB235_0.out (by simp))
        have F734_ := am (Kd.R_mono (Kd.R_keep (IsS80.apart FI31_.out F731_.out (by decide)) hk (fun _ h => h.2)) (fun _ h => h.1))
        have F834_ := am (Kd.R_mono (Kd.R_keep (IsS80.apart FI31_.out F831_.out (by decide)) hk (fun _ h => h.2)) (fun _ h => h.1))
        have FI34_ := am hi
        have FB34_ := am hb
        clear hi hb hk
        refine ⟨_, rfl, ?_⟩
        refine hK.out _ _ ((blk_cell FD34_.out 0).trans rfl) (fun hHeld => ?_)
        clear hK K
        refine norm_ (a' := ?_) ?_ ?_
        rotate_left
        ·show Act.put _ (some 26) _ = _
         simp only [Act.put, List.setIfInBounds_toArray, List.set_cons_zero, List.set_cons_succ, i64_w, i32_w]
         rfl
        refine one_ (i := 9) (N := some 24) #[true, true, true, true, true, true, true, true, true, true, true, true, false, false, false, false] rfl rfl (one_of HT_.out (by kernel_rfl)) (by decide) (fun K hK => ?_)
        refine event_step (v := .slice (some ⟨w34_.heap.size, 0, none⟩) 2 2) (w1 := w34_.alloc (Obj.cells #[.slice A7 0 c7, .slice A8 1 c8] 36)) (by rfl) ?_ ?_
        ·first | (go_simp; done) | (go_simp; rfl)
        have hb : Below w34_.heap.size w34_ (w34_.alloc (Obj.cells #[.slice A7 0 c7, .slice A8 1 c8] 36)) := (Below.refl _ _).alloc (Nat.le_refl _) _
        have FK36_ := am (KeepBut.trans FK34_.out (KeepBut.of_below hb g none) (.inl rfl))
        have FD36_ := am (blk_below FD34_.out hb)
        have F736_ := am (Kd.R_below F734_.out hb)
        have F836_ := am (Kd.R_below F834_.out hb)
        have FI36_ := am (IsS80.below FI34_.out hb)
        have FB36_ := am (below_then FB34_.out FB34_.out.size hb)
        have FX36_ := am (blk_new w34_ (Obj.cells #[.slice A7 0 c7, .slice A8 1 c8] 36))
        clear hb
        generalize w34_.alloc (Obj.cells #[.slice A7 0 c7, .slice A8 1 c8] 36) = w36_ at FK36_ FD36_ F736_ F836_ FI36_ FB36_ FX36_ ⊢
        obtain ⟨bx, hbx⟩ : ∃ bx, w34_.heap.size = bx := ⟨_, rfl⟩
        rw [hbx] at FX36_ ⊢
        clear hbx
        refine hK.out _ _ ((blk_cell FD36_.out 0).trans rfl) (fun hHeld => ?_)
        clear hK K
        refine norm_ (a' := ?_) ?_ ?_
        rotate_left
        ·show Act.put _ (some 24) _ = _
         simp only [Act.put, List.setIfInBounds_toArray, List.set_cons_zero, List.set_cons_succ, i64_w, i32_w]
         rfl
        exact norm_ (by first | (simp only [putAll, Act.put, List.setIfInBounds_toArray, List.set_cons_zero, List.set_cons_succ]; done) | (simp only [putAll, Act.put, List.setIfInBounds_toArray, List.set_cons_zero, List.set_cons_succ]; rfl)) (hJ (A7, c7, A8, c8, bx) _ ⟨FK36_.out, FI36_.out, FB36_.out, FD36_.out, FX36_.out, F736_.out, F836_.out⟩)
      ·refine goes_ Try.func70 (by kernel_rfl) rfl #[.pointer (some ⟨g, 0, none⟩), .int .i64 2] (by rfl) rfl rfl (by (try simp only [List.map_toArray, List.map_cons, List.map_nil]); first | done | rfl) ?_
       with_reducible refine (spec_l20Rd_pick.calls k g s0_0 t239 2 t249 t250 w0 w29_ FI29_.out FB29_.out A20.out).mono ?_
       rintro e w32_ ⟨rfl, hi, hb, hk⟩
       have FK32_ := am (KeepBut.trans FK29_.out hk (.inl rfl))
       have FD32_ := am (KeepBut.blk hk FD29_.out NB235_0.out (by simp))
       have F732_ := am (Kd.R_mono (Kd.R_keep (IsS80.apart FI29_.out F729_.out (by decide)) hk (fun _ h => h.2)) (fun _ h => h.1))
       have FI32_ := am hi
       have FB32_ := am hb
       clear hi hb hk
       refine ⟨_, rfl, ?_⟩
       refine hK.out _ _ ((blk_cell FD32_.out 0).trans rfl) (fun hHeld => ?_)
       clear hK K
       refine norm_ (a' := ?_) ?_ ?_
       rotate_left
       ·show Act.put _ (some 26) _ = _
        simp only [Act.put, List.setIfInBounds_toArray, List.set_cons_zero, List.set_cons_succ, i64_w, i32_w]
        rfl
       refine one_ (i := 8) (N := some 23) #[true, true, true, true, true, true, true, true, true, false, true, true, false, false, false, false] rfl rfl (one_of HT_.out (by kernel_rfl)) (by decide) (fun K hK => ?_)
       refine Kd.R_lit_step (Kd.int .i64) (w0 := w32_) w32_.heap.size 3 (by rfl) (N := 23) rfl (xs := ([1] : List Int)) (inner := [.int .i64 1]) (ok := fun _ => True) (okp := fun _ => True) (by first | (go_simp; done) | (go_simp; rfl)) ((Reps.one (show Kd.M (Kd.int .i64) _ _ _ 1 [.int .i64 1] from rfl) (Reps.none _ _))) (fun _ hk => hk) trivial (Below.refl _ _) (Nat.le_refl _) (by simp) ?_
       intro v8 w37_ ho hb hg_ hnew_
       obtain ⟨A8, c8, e8⟩ := Kd.R_slice ho
       subst e8
       have FK37_ := am (KeepBut.trans FK32_.out (KeepBut.of_below hb g none) (.inl rfl))
       have FD37_ := am (blk_below FD32_.out hb)
       have F737_ := am (Kd.R_below F732_.out hb)
       have FI37_ := am (IsS80.below FI32_.out hb)
       have FB37_ := am (below_then FB32_.out FB32_.out.size hb)
       have F837_ := am (Kd.R_lower ho FK32_.out.1)
       clear ho hb hg_ hnew_
       refine hK.out _ _ ((blk_cell FD37_.out 0).trans rfl) (fun hHeld => ?_)
       clear hK K
       refine norm_ (a' := ?_) ?_ ?_
       rotate_left
       ·show Act.put _ (some 23) _ = _
        simp only [Act.put, List.setIfInBounds_toArray, List.set_cons_zero, List.set_cons_succ, i64_w, i32_w]
        rfl
       refine one_ (i := 9) (N := some 24) #[true, true, true, true, true, true, true, true, true, true, true, true, false, false, false, false] rfl rfl (one_of HT_.out (by kernel_rfl)) (by decide) (fun K hK => ?_)
       refine event_step (v := .slice (some ⟨w37_.heap.size, 0, none⟩) 2 2) (w1 := w37_.alloc (Obj.cells #[.slice A7 0 c7, .slice A8 1 c8] 36)) (by rfl) ?_ ?_
       ·first | (go_simp; done) | (go_simp; rfl)
       have hb : Below w37_.heap.size w37_ (w37_.alloc (Obj.cells #[.slice A7 0 c7, .slice A8 1 c8] 36)) := (Below.refl _ _).alloc (Nat.le_refl _) _
       have FK38_ := am (KeepBut.trans FK37_.out (KeepBut.of_below hb g none) (.inl rfl))
       have FD38_ := am (blk_below FD37_.out hb)
       have F738_ := am (Kd.R_below F737_.out hb)
       have FI38_ := am (IsS80.below FI37_.out hb)
       have FB38_ := am (below_then FB37_.out FB37_.out.size hb)
       have F838_ := am (Kd.R_below F837_.out hb)
       have FX38_ := am (blk_new w37_ (Obj.cells #[.slice A7 0 c7, .slice A8 1 c8] 36))
       clear hb
       generalize w37_.alloc (Obj.cells #[.slice A7 0 c7, .slice A8 1 c8] 36) = w38_ at FK38_ FD38_ F738_ FI38_ FB38_ F838_ FX38_ ⊢
       obtain ⟨bx, hbx⟩ : ∃ bx, w37_.heap.size = bx := ⟨_, rfl⟩
       rw [hbx] at FX38_ ⊢
       clear hbx
       refine hK.out _ _ ((blk_cell FD38_.out 0).trans rfl) (fun hHeld => ?_)
       clear hK K
       refine norm_ (a' := ?_) ?_ ?_
       rotate_left
       ·show Act.put _ (some 24) _ = _
        simp only [Act.put, List.setIfInBounds_toArray, List.set_cons_zero, List.set_cons_succ, i64_w, i32_w]
        rfl
       exact norm_ (by first | (simp only [putAll, Act.put, List.setIfInBounds_toArray, List.set_cons_zero, List.set_cons_succ]; done) | (simp only [putAll, Act.put, List.setIfInBounds_toArray, List.set_cons_zero, List.set_cons_succ]; rfl)) (hJ (A7, c7, A8, c8, bx) _ ⟨FK38_.out, FI38_.out, FB38_.out, FD38_.out, FX38_.out, F738_.out, F838_.out⟩)
     ·refine Kd.R_lit_step (Kd.int .i64) (w0 := w2_) w2_.heap.size 3 (by rfl) (N := 23) rfl (xs := ([1] : List Int)) (inner := [.int .i64 1]) (ok := fun _ => True) (okp := fun _ => True) (by first | (go_simp; done) | (go_simp; rfl)) ((Reps.one (show Kd.M (Kd.int .i64) _ _ _ 1 [.int .i64 1] from rfl) (Reps.none _ _))) (fun _ hk => hk) trivial (Below.refl _ _) (Nat.le_refl _) (by simp) ?_
      intro v8 w30_ ho hb hg_ hnew_
      obtain ⟨A8, c8, e8⟩ := Kd.R_slice ho
      subst e8
      have FI30_ := am (IsS80.below FI2_.out hb)
      have FB30_ := am (below_then FB2_.out FB2_.out.size hb)
      have FK30_ := am (KeepBut.trans FK2_.out (KeepBut.of_below hb g none) (.inl rfl))
      have FD30_ := am (blk_below FD2_.out hb)
      have F730_ := am (Kd.R_below F72_.out hb)
      have F830_ := am (Kd.R_lower ho FK2_.out.1)
      clear ho hb hg_ hnew_
      refine hK.out _ _ ((blk_cell FD30_.out 0).trans rfl) (fun hHeld => ?_)
      clear hK K
      refine norm_ (a' := ?_) ?_ ?_
      rotate_left
      ·show Act.put _ (some 23) _ = _
       simp only [Act.put, List.setIfInBounds_toArray, List.set_cons_zero, List.set_cons_succ, i64_w, i32_w]
       rfl
      refine two_ (i := 6) (j := 9) (Ni := some 21) (Nj := some 24) #[true, true, true, true, true, true, true, true, true, false, true, false, false, false, false, false] #[true, true, true, true, true, true, false, true, true, true, true, false, false, false, false, false] rfl rfl rfl rfl (two_of HT_.out (by kernel_rfl)) (by decide) (by decide) (fun K hK => ?_) (fun K hK => ?_)
      ·refine goes_ Try.func70 (by kernel_rfl) rfl #[.pointer (some ⟨g, 0, none⟩), .int .i64 (t228.length : Int)] (by rfl) rfl rfl (by (try simp only [List.map_toArray, List.map_cons, List.map_nil]); first | done | rfl) ?_
       with_reducible refine (spec_l20Rd_pick.calls k g s0_0 t237 (t228.length : Int) t238 t239 w0 w30_ FI30_.out FB30_.out A19.out).mono ?_
       rintro e w39_ ⟨rfl, hi, hb, hk⟩
       have FK39_ := am (KeepBut.trans FK30_.out hk (.inl rfl))
       have FD39_ := am (KeepBut.blk hk FD30_.out NB235_0.out (by simp))
       have F739_ := am (Kd.R_mono (Kd.R_keep (IsS80.apart FI30_.out F730_.out (by decide)) hk (fun _ h => h.2)) (fun _ h => h.1))
       have F839_ := am (Kd.R_mono (Kd.R_keep (IsS80.apart FI30_.out F830_.out (by decide)) hk (fun _ h => h.2)) (fun _ h => h.1))
       have FI39_ := am hi
       have FB39_ := am hb
       clear hi hb hk
       refine ⟨_, rfl, ?_⟩
       refine hK.out _ _ ((blk_cell FD39_.out 0).trans rfl) (fun hHeld => ?_)
       clear hK K
       refine norm_ (a' := ?_) ?_ ?_
       rotate_left
       ·show Act.put _ (some 21) _ = _
        simp only [Act.put, List.setIfInBounds_toArray, List.set_cons_zero, List.set_cons_succ, i64_w, i32_w]
        rfl
       refine two_ (i := 9) (j := 11) (Ni := some 24) (Nj := some 26) #[true, true, true, true, true, true, true, true, true, true, true, false, false, false, false, false] #[true, true, true, true, true, true, true, true, true, false, true, true, false, false, false, false] rfl rfl rfl rfl (two_of HT_.out (by kernel_rfl)) (by decide) (by decide) (fun K hK => ?_) (fun K hK => ?_)
       ·refine event_step (v := .slice (some ⟨w39_.heap.size, 0, none⟩) 2 2) (w1 := w39_.alloc (Obj.cells #[.slice A7 0 c7, .slice A8 1 c8] 36)) (by rfl) ?_ ?_
        ·first | (go_simp; done) | (go_simp; rfl)
        have hb : Below w39_.heap.size w39_ (w39_.alloc (Obj.cells #[.slice A7 0 c7, .slice A8 1 c8] 36)) := (Below.refl _ _).alloc (Nat.le_refl _) _
        have FK41_ := am (KeepBut.trans FK39_.out (KeepBut.of_below hb g none) (.inl rfl))
        have FD41_ := am (blk_below FD39_.out hb)
        have F741_ := am (Kd.R_below F739_.out hb)
        have F841_ := am (Kd.R_below F839_.out hb)
        have FI41_ := am (IsS80.below FI39_.out hb)
        have FB41_ := am (below_then FB39_.out FB39_.out.size hb)
        have FX41_ := am (blk_new w39_ (Obj.cells #[.slice A7 0 c7, .slice A8 1 c8] 36))
        clear hb
        generalize w39_.alloc (Obj.cells #[.slice A7 0 c7, .slice A8 1 c8] 36) = w41_ at FK41_ FD41_ F741_ F841_ FI41_ FB41_ FX41_ ⊢
        obtain ⟨bx, hbx⟩ : ∃ bx, w39_.heap.size = bx := ⟨_, rfl⟩
        rw [hbx] at FX41_ ⊢
        clear hbx
        refine hK.out _ _ ((blk_cell FD41_.out 0).trans rfl) (fun hHeld => ?_)
        clear hK K
        refine norm_ (a' := ?_) ?_ ?_
        rotate_left
        ·show Act.put _ (some 24) _ = _
         simp only [Act.put, List.setIfInBounds_toArray, List.set_cons_zero, List.set_cons_succ, i64_w, i32_w]
         rfl
        refine one_ (i := 11) (N := some 26) #[true, true, true, true, true, true, true, true, true, true, true, true, false, false, false, false] rfl rfl (one_of HT_.out (by kernel_rfl)) (by decide) (fun K hK => ?_)
        refine goes_ Try.func70 (by kernel_rfl) rfl #[.pointer (some ⟨g, 0, none⟩), .int .i64 2] (by rfl) rfl rfl (by (try simp only [List.map_toArray, List.map_cons, List.map_nil]); first | done | rfl) ?_
        with_reducible refine (spec_l20Rd_pick.calls k g s0_0 t239 2 t249 t250 w0 w41_ FI41_.out FB41_.out A20.out).mono ?_
        rintro e w43_ ⟨rfl, hi, hb, hk⟩
        have FK43_ := am (KeepBut.trans FK41_.out hk (.inl rfl))
        have FD43_ := am (KeepBut.blk hk FD41_.out NB235_0.out (by simp))
        have F743_ := am (Kd.R_mono (Kd.R_keep (IsS80.apart FI41_.out F741_.out (by decide)) hk (fun _ h => h.2)) (fun _ h => h.1))
        have F843_ := am (Kd.R_mono (Kd.R_keep (IsS80.apart FI41_.out F841_.out (by decide)) hk (fun _ h => h.2)) (fun _ h => h.1))
        have FX43_ := am ((hk.2 bx (blk_lt FX41_.out) (IsS80.ne_blk FI41_.out FX41_.out (by decide)).symm (by simp)).trans FX41_.out)
        have FI43_ := am hi
        have FB43_ := am hb
        clear hi hb hk
        refine ⟨_, rfl, ?_⟩
        refine hK.out _ _ ((blk_cell FD43_.out 0).trans rfl) (fun hHeld => ?_)
        clear hK K
        refine norm_ (a' := ?_) ?_ ?_
        rotate_left
        ·show Act.put _ (some 26) _ = _
         simp only [Act.put, List.setIfInBounds_toArray, List.set_cons_zero, List.set_cons_succ, i64_w, i32_w]
         rfl
        exact norm_ (by first | (simp only [putAll, Act.put, List.setIfInBounds_toArray, List.set_cons_zero, List.set_cons_succ]; done) | (simp only [putAll, Act.put, List.setIfInBounds_toArray, List.set_cons_zero, List.set_cons_succ]; rfl)) (hJ (A7, c7, A8, c8, bx) _ ⟨FK43_.out, FI43_.out, FB43_.out, FD43_.out, FX43_.out, F743_.out, F843_.out⟩)
       ·refine goes_ Try.func70 (by kernel_rfl) rfl #[.pointer (some ⟨g, 0, none⟩), .int .i64 2] (by rfl) rfl rfl (by (try simp only [List.map_toArray, List.map_cons, List.map_nil]); first | done | rfl) ?_
        with_reducible refine (spec_l20Rd_pick.calls k g s0_0 t239 2 t249 t250 w0 w39_ FI39_.out FB39_.out A20.out).mono ?_
        rintro e w42_ ⟨rfl, hi, hb, hk⟩
        have FK42_ := am (KeepBut.trans FK39_.out hk (.inl rfl))
        have FD42_ := am (KeepBut.blk hk FD39_.out NB235_0.out (by simp))
        have F742_ := am (Kd.R_mono (Kd.R_keep (IsS80.apart FI39_.out F739_.out (by decide)) hk (fun _ h => h.2)) (fun _ h => h.1))
        have F842_ := am (Kd.R_mono (Kd.R_keep (IsS80.apart FI39_.out F839_.out (by decide)) hk (fun _ h => h.2)) (fun _ h => h.1))
        have FI42_ := am hi
        have FB42_ := am hb
        clear hi hb hk
        refine ⟨_, rfl, ?_⟩
        refine hK.out _ _ ((blk_cell FD42_.out 0).trans rfl) (fun hHeld => ?_)
        clear hK K
        refine norm_ (a' := ?_) ?_ ?_
        rotate_left
        ·show Act.put _ (some 26) _ = _
         simp only [Act.put, List.setIfInBounds_toArray, List.set_cons_zero, List.set_cons_succ, i64_w, i32_w]
         rfl
        refine one_ (i := 9) (N := some 24) #[true, true, true, true, true, true, true, true, true, true, true, true, false, false, false, false] rfl rfl (one_of HT_.out (by kernel_rfl)) (by decide) (fun K hK => ?_)
        refine event_step (v := .slice (some ⟨w42_.heap.size, 0, none⟩) 2 2) (w1 := w42_.alloc (Obj.cells #[.slice A7 0 c7, .slice A8 1 c8] 36)) (by rfl) ?_ ?_
        ·first | (go_simp; done) | (go_simp; rfl)
        have hb : Below w42_.heap.size w42_ (w42_.alloc (Obj.cells #[.slice A7 0 c7, .slice A8 1 c8] 36)) := (Below.refl _ _).alloc (Nat.le_refl _) _
        have FK44_ := am (KeepBut.trans FK42_.out (KeepBut.of_below hb g none) (.inl rfl))
        have FD44_ := am (blk_below FD42_.out hb)
        have F744_ := am (Kd.R_below F742_.out hb)
        have F844_ := am (Kd.R_below F842_.out hb)
        have FI44_ := am (IsS80.below FI42_.out hb)
        have FB44_ := am (below_then FB42_.out FB42_.out.size hb)
        have FX44_ := am (blk_new w42_ (Obj.cells #[.slice A7 0 c7, .slice A8 1 c8] 36))
        clear hb
        generalize w42_.alloc (Obj.cells #[.slice A7 0 c7, .slice A8 1 c8] 36) = w44_ at FK44_ FD44_ F744_ F844_ FI44_ FB44_ FX44_ ⊢
        obtain ⟨bx, hbx⟩ : ∃ bx, w42_.heap.size = bx := ⟨_, rfl⟩
        rw [hbx] at FX44_ ⊢
        clear hbx
        refine hK.out _ _ ((blk_cell FD44_.out 0).trans rfl) (fun hHeld => ?_)
        clear hK K
        refine norm_ (a' := ?_) ?_ ?_
        rotate_left
        ·show Act.put _ (some 24) _ = _
         simp only [Act.put, List.setIfInBounds_toArray, List.set_cons_zero, List.set_cons_succ, i64_w, i32_w]
         rfl
        exact norm_ (by first | (simp only [putAll, Act.put, List.setIfInBounds_toArray, List.set_cons_zero, List.set_cons_succ]; done) | (simp only [putAll, Act.put, List.setIfInBounds_toArray, List.set_cons_zero, List.set_cons_succ]; rfl)) (hJ (A7, c7, A8, c8, bx) _ ⟨FK44_.out, FI44_.out, FB44_.out, FD44_.out, FX44_.out, F744_.out, F844_.out⟩)
      ·refine event_step (v := .slice (some ⟨w30_.heap.size, 0, none⟩) 2 2) (w1 := w30_.alloc (Obj.cells #[.slice A7 0 c7, .slice A8 1 c8] 36)) (by rfl) ?_ ?_
       ·first | (go_simp; done) | (go_simp; rfl)
       have hb : Below w30_.heap.size w30_ (w30_.alloc (Obj.cells #[.slice A7 0 c7, .slice A8 1 c8] 36)) := (Below.refl _ _).alloc (Nat.le_refl _) _
       have FI40_ := am (IsS80.below FI30_.out hb)
       have FB40_ := am (below_then FB30_.out FB30_.out.size hb)
       have FK40_ := am (KeepBut.trans FK30_.out (KeepBut.of_below hb g none) (.inl rfl))
       have FD40_ := am (blk_below FD30_.out hb)
       have F740_ := am (Kd.R_below F730_.out hb)
       have F840_ := am (Kd.R_below F830_.out hb)
       have FX40_ := am (blk_new w30_ (Obj.cells #[.slice A7 0 c7, .slice A8 1 c8] 36))
       clear hb
       generalize w30_.alloc (Obj.cells #[.slice A7 0 c7, .slice A8 1 c8] 36) = w40_ at FI40_ FB40_ FK40_ FD40_ F740_ F840_ FX40_ ⊢
       obtain ⟨bx, hbx⟩ : ∃ bx, w30_.heap.size = bx := ⟨_, rfl⟩
       rw [hbx] at FX40_ ⊢
       clear hbx
       refine hK.out _ _ ((blk_cell FD40_.out 0).trans rfl) (fun hHeld => ?_)
       clear hK K
       refine norm_ (a' := ?_) ?_ ?_
       rotate_left
       ·show Act.put _ (some 24) _ = _
        simp only [Act.put, List.setIfInBounds_toArray, List.set_cons_zero, List.set_cons_succ, i64_w, i32_w]
        rfl
       refine one_ (i := 6) (N := some 21) #[true, true, true, true, true, true, true, true, true, true, true, false, false, false, false, false] rfl rfl (one_of HT_.out (by kernel_rfl)) (by decide) (fun K hK => ?_)
       refine goes_ Try.func70 (by kernel_rfl) rfl #[.pointer (some ⟨g, 0, none⟩), .int .i64 (t228.length : Int)] (by rfl) rfl rfl (by (try simp only [List.map_toArray, List.map_cons, List.map_nil]); first | done | rfl) ?_
       with_reducible refine (spec_l20Rd_pick.calls k g s0_0 t237 (t228.length : Int) t238 t239 w0 w40_ FI40_.out FB40_.out A19.out).mono ?_
       rintro e w45_ ⟨rfl, hi, hb, hk⟩
       have FK45_ := am (KeepBut.trans FK40_.out hk (.inl rfl))
       have FD45_ := am (KeepBut.blk hk FD40_.out NB235_0.out (by simp))
       have F745_ := am (Kd.R_mono (Kd.R_keep (IsS80.apart FI40_.out F740_.out (by decide)) hk (fun _ h => h.2)) (fun _ h => h.1))
       have F845_ := am (Kd.R_mono (Kd.R_keep (IsS80.apart FI40_.out F840_.out (by decide)) hk (fun _ h => h.2)) (fun _ h => h.1))
       have FX45_ := am ((hk.2 bx (blk_lt FX40_.out) (IsS80.ne_blk FI40_.out FX40_.out (by decide)).symm (by simp)).trans FX40_.out)
       have FI45_ := am hi
       have FB45_ := am hb
       clear hi hb hk
       refine ⟨_, rfl, ?_⟩
       refine hK.out _ _ ((blk_cell FD45_.out 0).trans rfl) (fun hHeld => ?_)
       clear hK K
       refine norm_ (a' := ?_) ?_ ?_
       rotate_left
       ·show Act.put _ (some 21) _ = _
        simp only [Act.put, List.setIfInBounds_toArray, List.set_cons_zero, List.set_cons_succ, i64_w, i32_w]
        rfl
       refine one_ (i := 11) (N := some 26) #[true, true, true, true, true, true, true, true, true, true, true, true, false, false, false, false] rfl rfl (one_of HT_.out (by kernel_rfl)) (by decide) (fun K hK => ?_)
       refine goes_ Try.func70 (by kernel_rfl) rfl #[.pointer (some ⟨g, 0, none⟩), .int .i64 2] (by rfl) rfl rfl (by (try simp only [List.map_toArray, List.map_cons, List.map_nil]); first | done | rfl) ?_
       with_reducible refine (spec_l20Rd_pick.calls k g s0_0 t239 2 t249 t250 w0 w45_ FI45_.out FB45_.out A20.out).mono ?_
       rintro e w46_ ⟨rfl, hi, hb, hk⟩
       have FK46_ := am (KeepBut.trans FK45_.out hk (.inl rfl))
       have FD46_ := am (KeepBut.blk hk FD45_.out NB235_0.out (by simp))
       have F746_ := am (Kd.R_mono (Kd.R_keep (IsS80.apart FI45_.out F745_.out (by decide)) hk (fun _ h => h.2)) (fun _ h => h.1))
       have F846_ := am (Kd.R_mono (Kd.R_keep (IsS80.apart FI45_.out F845_.out (by decide)) hk (fun _ h => h.2)) (fun _ h => h.1))
       have FX46_ := am ((hk.2 bx (blk_lt FX45_.out) (IsS80.ne_blk FI45_.out FX45_.out (by decide)).symm (by simp)).trans FX45_.out)
       have FI46_ := am hi
       have FB46_ := am hb
       clear hi hb hk
       refine ⟨_, rfl, ?_⟩
       refine hK.out _ _ ((blk_cell FD46_.out 0).trans rfl) (fun hHeld => ?_)
       clear hK K
       refine norm_ (a' := ?_) ?_ ?_
       rotate_left
       ·show Act.put _ (some 26) _ = _
        simp only [Act.put, List.setIfInBounds_toArray, List.set_cons_zero, List.set_cons_succ, i64_w, i32_w]
        rfl
       exact norm_ (by first | (simp only [putAll, Act.put, List.setIfInBounds_toArray, List.set_cons_zero, List.set_cons_succ]; done) | (simp only [putAll, Act.put, List.setIfInBounds_toArray, List.set_cons_zero, List.set_cons_succ]; rfl)) (hJ (A7, c7, A8, c8, bx) _ ⟨FK46_.out, FI46_.out, FB46_.out, FD46_.out, FX46_.out, F746_.out, F846_.out⟩)
    ·refine Kd.R_lit_step (Kd.int .i64) (w0 := w24) w24.heap.size 3 (by rfl) (N := 23) rfl (xs := ([1] : List Int)) (inner := [.int .i64 1]) (ok := fun _ => True) (okp := fun _ => True) (by first | (go_simp; done) | (go_simp; rfl)) ((Reps.one (show Kd.M (Kd.int .i64) _ _ _ 1 [.int .i64 1] from rfl) (Reps.none _ _))) (fun _ hk => hk) trivial (Below.refl _ _) (Nat.le_refl _) (by simp) ?_
     intro v8 w3_ ho hb hg_ hnew_
     obtain ⟨A8, c8, e8⟩ := Kd.R_slice ho
     subst e8
     have FI3_ := am (IsS80.below HI0.out hb)
     have FB3_ := am (below_then HB.out HB.out.size hb)
     have FK3_ := am (KeepBut.trans HKd.out (KeepBut.of_below hb g none) (.inl rfl))
     have FD3_ := am (blk_below BK235.out hb)
     have F83_ := am (Kd.R_lower ho HKd.out.1)
     clear ho hb hg_ hnew_
     refine hK.out _ _ ((blk_cell FD3_.out 0).trans rfl) (fun hHeld => ?_)
     clear hK K
     refine norm_ (a' := ?_) ?_ ?_
     rotate_left
     ·show Act.put _ (some 23) _ = _
      simp only [Act.put, List.setIfInBounds_toArray, List.set_cons_zero, List.set_cons_succ, i64_w, i32_w]
      rfl
     refine two_ (i := 6) (j := 7) (Ni := some 21) (Nj := some 22) #[true, true, true, true, true, true, true, false, true, false, true, false, false, false, false, false] #[true, true, true, true, true, true, false, true, true, false, true, false, false, false, false, false] rfl rfl rfl rfl (two_of HT_.out (by kernel_rfl)) (by decide) (by decide) (fun K hK => ?_) (fun K hK => ?_)
     ·refine goes_ Try.func70 (by kernel_rfl) rfl #[.pointer (some ⟨g, 0, none⟩), .int .i64 (t228.length : Int)] (by rfl) rfl rfl (by (try simp only [List.map_toArray, List.map_cons, List.map_nil]); first | done | rfl) ?_
      with_reducible refine (spec_l20Rd_pick.calls k g s0_0 t237 (t228.length : Int) t238 t239 w0 w3_ FI3_.out FB3_.out A19.out).mono ?_
      rintro e w47_ ⟨rfl, hi, hb, hk⟩
      have FK47_ := am (KeepBut.trans FK3_.out hk (.inl rfl))
      have FD47_ := am (KeepBut.blk hk FD3_.out NB235_0.out (by simp))
      have F847_ := am (Kd.R_mono (Kd.R_keep (IsS80.apart FI3_.out F83_.out (by decide)) hk (fun _ h => h.2)) (fun _ h => h.1))
      have FI47_ := am hi
      have FB47_ := am hb
      clear hi hb hk
      refine ⟨_, rfl, ?_⟩
      refine hK.out _ _ ((blk_cell FD47_.out 0).trans rfl) (fun hHeld => ?_)
      clear hK K
      refine norm_ (a' := ?_) ?_ ?_
      rotate_left
      ·show Act.put _ (some 21) _ = _
       simp only [Act.put, List.setIfInBounds_toArray, List.set_cons_zero, List.set_cons_succ, i64_w, i32_w]
       rfl
      refine two_ (i := 7) (j := 11) (Ni := some 22) (Nj := some 26) #[true, true, true, true, true, true, true, true, true, false, true, false, false, false, false, false] #[true, true, true, true, true, true, true, false, true, false, true, true, false, false, false, false] rfl rfl rfl rfl (two_of HT_.out (by kernel_rfl)) (by decide) (by decide) (fun K hK => ?_) (fun K hK => ?_)
      ·refine Kd.R_lit_step (Kd.int .i64) (w0 := w47_) w47_.heap.size 3 (by rfl) (N := 22) rfl (xs := ([] : List Int)) (inner := []) (ok := fun _ => True) (okp := fun _ => True) (by first | (go_simp; done) | (go_simp; rfl)) (Reps.none _ _) (fun _ hk => hk) trivial (Below.refl _ _) (Nat.le_refl _) (by simp) ?_
       intro v7 w49_ ho hb hg_ hnew_
       obtain ⟨A7, c7, e7⟩ := Kd.R_slice ho
       subst e7
       have FK49_ := am (KeepBut.trans FK47_.out (KeepBut.of_below hb g none) (.inl rfl))
       have FD49_ := am (blk_below FD47_.out hb)
       have F849_ := am (Kd.R_below F847_.out hb)
       have FI49_ := am (IsS80.below FI47_.out hb)
       have FB49_ := am (below_then FB47_.out FB47_.out.size hb)
       have F749_ := am (Kd.R_lower ho FK47_.out.1)
       clear ho hb hg_ hnew_
       refine hK.out _ _ ((blk_cell FD49_.out 0).trans rfl) (fun hHeld => ?_)
       clear hK K
       refine norm_ (a' := ?_) ?_ ?_
       rotate_left
       ·show Act.put _ (some 22) _ = _
        simp only [Act.put, List.setIfInBounds_toArray, List.set_cons_zero, List.set_cons_succ, i64_w, i32_w]
        rfl
       refine two_ (i := 9) (j := 11) (Ni := some 24) (Nj := some 26) #[true, true, true, true, true, true, true, true, true, true, true, false, false, false, false, false] #[true, true, true, true, true, true, true, true, true, false, true, true, false, false, false, false] rfl rfl rfl rfl (two_of HT_.out (by kernel_rfl)) (by decide) (by decide) (fun K hK => ?_) (fun K hK => ?_)
       ·refine event_step (v := .slice (some ⟨w49_.heap.size, 0, none⟩) 2 2) (w1 := w49_.alloc (Obj.cells #[.slice A7 0 c7, .slice A8 1 c8] 36)) (by rfl) ?_ ?_
        ·first | (go_simp; done) | (go_simp; rfl)
        have hb : Below w49_.heap.size w49_ (w49_.alloc (Obj.cells #[.slice A7 0 c7, .slice A8 1 c8] 36)) := (Below.refl _ _).alloc (Nat.le_refl _) _
        have FK51_ := am (KeepBut.trans FK49_.out (KeepBut.of_below hb g none) (.inl rfl))
        have FD51_ := am (blk_below FD49_.out hb)
        have F851_ := am (Kd.R_below F849_.out hb)
        have FI51_ := am (IsS80.below FI49_.out hb)
        have FB51_ := am (below_then FB49_.out FB49_.out.size hb)
        have F751_ := am (Kd.R_below F749_.out hb)
        have FX51_ := am (blk_new w49_ (Obj.cells #[.slice A7 0 c7, .slice A8 1 c8] 36))
        clear hb
        generalize w49_.alloc (Obj.cells #[.slice A7 0 c7, .slice A8 1 c8] 36) = w51_ at FK51_ FD51_ F851_ FI51_ FB51_ F751_ FX51_ ⊢
        obtain ⟨bx, hbx⟩ : ∃ bx, w49_.heap.size = bx := ⟨_, rfl⟩
        rw [hbx] at FX51_ ⊢
        clear hbx
        refine hK.out _ _ ((blk_cell FD51_.out 0).trans rfl) (fun hHeld => ?_)
        clear hK K
        refine norm_ (a' := ?_) ?_ ?_
        rotate_left
        ·show Act.put _ (some 24) _ = _
         simp only [Act.put, List.setIfInBounds_toArray, List.set_cons_zero, List.set_cons_succ, i64_w, i32_w]
         rfl
        refine one_ (i := 11) (N := some 26) #[true, true, true, true, true, true, true, true, true, true, true, true, false, false, false, false] rfl rfl (one_of HT_.out (by kernel_rfl)) (by decide) (fun K hK => ?_)
        refine goes_ Try.func70 (by kernel_rfl) rfl #[.pointer (some ⟨g, 0, none⟩), .int .i64 2] (by rfl) rfl rfl (by (try simp only [List.map_toArray, List.map_cons, List.map_nil]); first | done | rfl) ?_
        with_reducible refine (spec_l20Rd_pick.calls k g s0_0 t239 2 t249 t250 w0 w51_ FI51_.out FB51_.out A20.out).mono ?_
        rintro e w53_ ⟨rfl, hi, hb, hk⟩
        have FK53_ := am (KeepBut.trans FK51_.out hk (.inl rfl))
        have FD53_ := am (KeepBut.blk hk FD51_.out NB235_0.out (by simp))
        have F853_ := am (Kd.R_mono (Kd.R_keep (IsS80.apart FI51_.out F851_.out (by decide)) hk (fun _ h => h.2)) (fun _ h => h.1))
        have F753_ := am (Kd.R_mono (Kd.R_keep (IsS80.apart FI51_.out F751_.out (by decide)) hk (fun _ h => h.2)) (fun _ h => h.1))
        have FX53_ := am ((hk.2 bx (blk_lt FX51_.out) (IsS80.ne_blk FI51_.out FX51_.out (by decide)).symm (by simp)).trans FX51_.out)
        have FI53_ := am hi
        have FB53_ := am hb
        clear hi hb hk
        refine ⟨_, rfl, ?_⟩
        refine hK.out _ _ ((blk_cell FD53_.out 0).trans rfl) (fun hHeld => ?_)
        clear hK K
        refine norm_ (a' := ?_) ?_ ?_
        rotate_left
        ·show Act.put _ (some 26) _ = _
         simp only [Act.put, List.setIfInBounds_toArray, List.set_cons_zero, List.set_cons_succ, i64_w, i32_w]
         rfl
        exact norm_ (by first | (simp only [putAll, Act.put, List.setIfInBounds_toArray, List.set_cons_zero, List.set_cons_succ]; done) | (simp only [putAll, Act.put, List.setIfInBounds_toArray, List.set_cons_zero, List.set_cons_succ]; rfl)) (hJ (A7, c7, A8, c8, bx) _ ⟨FK53_.out, FI53_.out, FB53_.out, FD53_.out, FX53_.out, F753_.out, F853_.out⟩)
       ·refine goes_ Try.func70 (by kernel_rfl) rfl #[.pointer (some ⟨g, 0, none⟩), .int .i64 2] (by rfl) rfl rfl (by (try simp only [List.map_toArray, List.map_cons, List.map_nil]); first | done | rfl) ?_
        with_reducible refine (spec_l20Rd_pick.calls k g s0_0 t239 2 t249 t250 w0 w49_ FI49_.out FB49_.out A20.out).mono ?_
        rintro e w52_ ⟨rfl, hi, hb, hk⟩
        have FK52_ := am (KeepBut.trans FK49_.out hk (.inl rfl))
        have FD52_ := am (KeepBut.blk hk FD49_.out NB235_0.out (by simp))
        have F852_ := am (Kd.R_mono (Kd.R_keep (IsS80.apart FI49_.out F849_.out (by decide)) hk (fun _ h => h.2)) (fun _ h => h.1))
        have F752_ := am (Kd.R_mono (Kd.R_keep (IsS80.apart FI49_.out F749_.out (by decide)) hk (fun _ h => h.2)) (fun _ h => h.1))
        have FI52_ := am hi
        have FB52_ := am hb
        clear hi hb hk
        refine ⟨_, rfl, ?_⟩
        refine hK.out _ _ ((blk_cell FD52_.out 0).trans rfl) (fun hHeld => ?_)
        clear hK K
        refine norm_ (a' := ?_) ?_ ?_
        rotate_left
        ·show Act.put _ (some 26) _ = _
         simp only [Act.put, List.setIfInBounds_toArray, List.set_cons_zero, List.set_cons_succ, i64_w, i32_w]
         rfl
        refine one_ (i := 9) (N := some 24) #[true, true, true, true, true, true, true, true, true, true, true, true, false, false, false, false] rfl rfl (one_of HT_.out (by kernel_rfl)) (by decide) (fun K hK => ?_)
        refine event_step (v := .slice (some ⟨w52_.heap.size, 0, none⟩) 2 2) (w1 := w52_.alloc (Obj.cells #[.slice A7 0 c7, .slice A8 1 c8] 36)) (by rfl) ?_ ?_
        ·first | (go_simp; done) | (go_simp; rfl)
        have hb : Below w52_.heap.size w52_ (w52_.alloc (Obj.cells #[.slice A7 0 c7, .slice A8 1 c8] 36)) := (Below.refl _ _).alloc (Nat.le_refl _) _
        have FK54_ := am (KeepBut.trans FK52_.out (KeepBut.of_below hb g none) (.inl rfl))
        have FD54_ := am (blk_below FD52_.out hb)
        have F854_ := am (Kd.R_below F852_.out hb)
        have F754_ := am (Kd.R_below F752_.out hb)
        have FI54_ := am (IsS80.below FI52_.out hb)
        have FB54_ := am (below_then FB52_.out FB52_.out.size hb)
        have FX54_ := am (blk_new w52_ (Obj.cells #[.slice A7 0 c7, .slice A8 1 c8] 36))
        clear hb
        generalize w52_.alloc (Obj.cells #[.slice A7 0 c7, .slice A8 1 c8] 36) = w54_ at FK54_ FD54_ F854_ F754_ FI54_ FB54_ FX54_ ⊢
        obtain ⟨bx, hbx⟩ : ∃ bx, w52_.heap.size = bx := ⟨_, rfl⟩
        rw [hbx] at FX54_ ⊢
        clear hbx
        refine hK.out _ _ ((blk_cell FD54_.out 0).trans rfl) (fun hHeld => ?_)
        clear hK K
        refine norm_ (a' := ?_) ?_ ?_
        rotate_left
        ·show Act.put _ (some 24) _ = _
         simp only [Act.put, List.setIfInBounds_toArray, List.set_cons_zero, List.set_cons_succ, i64_w, i32_w]
         rfl
        exact norm_ (by first | (simp only [putAll, Act.put, List.setIfInBounds_toArray, List.set_cons_zero, List.set_cons_succ]; done) | (simp only [putAll, Act.put, List.setIfInBounds_toArray, List.set_cons_zero, List.set_cons_succ]; rfl)) (hJ (A7, c7, A8, c8, bx) _ ⟨FK54_.out, FI54_.out, FB54_.out, FD54_.out, FX54_.out, F754_.out, F854_.out⟩)
      ·refine goes_ Try.func70 (by kernel_rfl) rfl #[.pointer (some ⟨g, 0, none⟩), .int .i64 2] (by rfl) rfl rfl (by (try simp only [List.map_toArray, List.map_cons, List.map_nil]); first | done | rfl) ?_
       with_reducible refine (spec_l20Rd_pick.calls k g s0_0 t239 2 t249 t250 w0 w47_ FI47_.out FB47_.out A20.out).mono ?_
       rintro e w50_ ⟨rfl, hi, hb, hk⟩
       have FK50_ := am (KeepBut.trans FK47_.out hk (.inl rfl))
       have FD50_ := am (KeepBut.blk hk FD47_.out NB235_0.out (by simp))
       have F850_ := am (Kd.R_mono (Kd.R_keep (IsS80.apart FI47_.out F847_.out (by decide)) hk (fun _ h => h.2)) (fun _ h => h.1))
       have FI50_ := am hi
       have FB50_ := am hb
       clear hi hb hk
       refine ⟨_, rfl, ?_⟩
       refine hK.out _ _ ((blk_cell FD50_.out 0).trans rfl) (fun hHeld => ?_)
       clear hK K
       refine norm_ (a' := ?_) ?_ ?_
       rotate_left
       ·show Act.put _ (some 26) _ = _
        simp only [Act.put, List.setIfInBounds_toArray, List.set_cons_zero, List.set_cons_succ, i64_w, i32_w]
        rfl
       refine one_ (i := 7) (N := some 22) #[true, true, true, true, true, true, true, true, true, false, true, true, false, false, false, false] rfl rfl (one_of HT_.out (by kernel_rfl)) (by decide) (fun K hK => ?_)
       refine Kd.R_lit_step (Kd.int .i64) (w0 := w50_) w50_.heap.size 3 (by rfl) (N := 22) rfl (xs := ([] : List Int)) (inner := []) (ok := fun _ => True) (okp := fun _ => True) (by first | (go_simp; done) | (go_simp; rfl)) (Reps.none _ _) (fun _ hk => hk) trivial (Below.refl _ _) (Nat.le_refl _) (by simp) ?_
       intro v7 w55_ ho hb hg_ hnew_
       obtain ⟨A7, c7, e7⟩ := Kd.R_slice ho
       subst e7
       have FK55_ := am (KeepBut.trans FK50_.out (KeepBut.of_below hb g none) (.inl rfl))
       have FD55_ := am (blk_below FD50_.out hb)
       have F855_ := am (Kd.R_below F850_.out hb)
       have FI55_ := am (IsS80.below FI50_.out hb)
       have FB55_ := am (below_then FB50_.out FB50_.out.size hb)
       have F755_ := am (Kd.R_lower ho FK50_.out.1)
       clear ho hb hg_ hnew_
       refine hK.out _ _ ((blk_cell FD55_.out 0).trans rfl) (fun hHeld => ?_)
       clear hK K
       refine norm_ (a' := ?_) ?_ ?_
       rotate_left
       ·show Act.put _ (some 22) _ = _
        simp only [Act.put, List.setIfInBounds_toArray, List.set_cons_zero, List.set_cons_succ, i64_w, i32_w]
        rfl
       refine one_ (i := 9) (N := some 24) #[true, true, true, true, true, true, true, true, true, true, true, true, false, false, false, false] rfl rfl (one_of HT_.out (by kernel_rfl)) (by decide) (fun K hK => ?_)
       refine event_step (v := .slice (some ⟨w55_.heap.size, 0, none⟩) 2 2) (w1 := w55_.alloc (Obj.cells #[.slice A7 0 c7, .slice A8 1 c8] 36)) (by rfl) ?_ ?_
       ·first | (go_simp; done) | (go_simp; rfl)
       have hb : Below w55_.heap.size w55_ (w55_.alloc (Obj.cells #[.slice A7 0 c7, .slice A8 1 c8] 36)) := (Below.refl _ _).alloc (Nat.le_refl _) _
       have FK56_ := am (KeepBut.trans FK55_.out (KeepBut.of_below hb g none) (.inl rfl))
       have FD56_ := am (blk_below FD55_.out hb)
       have F856_ := am (Kd.R_below F855_.out hb)
       have FI56_ := am (IsS80.below FI55_.out hb)
       have FB56_ := am (below_then FB55_.out FB55_.out.size hb)
       have F756_ := am (Kd.R_below F755_.out hb)
       have FX56_ := am (blk_new w55_ (Obj.cells #[.slice A7 0 c7, .slice A8 1 c8] 36))
       clear hb
       generalize w55_.alloc (Obj.cells #[.slice A7 0 c7, .slice A8 1 c8] 36) = w56_ at FK56_ FD56_ F856_ FI56_ FB56_ F756_ FX56_ ⊢
       obtain ⟨bx, hbx⟩ : ∃ bx, w55_.heap.size = bx := ⟨_, rfl⟩
       rw [hbx] at FX56_ ⊢
       clear hbx
       refine hK.out _ _ ((blk_cell FD56_.out 0).trans rfl) (fun hHeld => ?_)
       clear hK K
       refine norm_ (a' := ?_) ?_ ?_
       rotate_left
       ·show Act.put _ (some 24) _ = _
        simp only [Act.put, List.setIfInBounds_toArray, List.set_cons_zero, List.set_cons_succ, i64_w, i32_w]
        rfl
       exact norm_ (by first | (simp only [putAll, Act.put, List.setIfInBounds_toArray, List.set_cons_zero, List.set_cons_succ]; done) | (simp only [putAll, Act.put, List.setIfInBounds_toArray, List.set_cons_zero, List.set_cons_succ]; rfl)) (hJ (A7, c7, A8, c8, bx) _ ⟨FK56_.out, FI56_.out, FB56_.out, FD56_.out, FX56_.out, F756_.out, F856_.out⟩)
     ·refine Kd.R_lit_step (Kd.int .i64) (w0 := w3_) w3_.heap.size 3 (by rfl) (N := 22) rfl (xs := ([] : List Int)) (inner := []) (ok := fun _ => True) (okp := fun _ => True) (by first | (go_simp; done) | (go_simp; rfl)) (Reps.none _ _) (fun _ hk => hk) trivial (Below.refl _ _) (Nat.le_refl _) (by simp) ?_
      intro v7 w48_ ho hb hg_ hnew_
      obtain ⟨A7, c7, e7⟩ := Kd.R_slice ho
      subst e7
      have FI48_ := am (IsS80.below FI3_.out hb)
      have FB48_ := am (below_then FB3_.out FB3_.out.size hb)
      have FK48_ := am (KeepBut.trans FK3_.out (KeepBut.of_below hb g none) (.inl rfl))
      have FD48_ := am (blk_below FD3_.out hb)
      have F848_ := am (Kd.R_below F83_.out hb)
      have F748_ := am (Kd.R_lower ho FK3_.out.1)
      clear ho hb hg_ hnew_
      refine hK.out _ _ ((blk_cell FD48_.out 0).trans rfl) (fun hHeld => ?_)
      clear hK K
      refine norm_ (a' := ?_) ?_ ?_
      rotate_left
      ·show Act.put _ (some 22) _ = _
       simp only [Act.put, List.setIfInBounds_toArray, List.set_cons_zero, List.set_cons_succ, i64_w, i32_w]
       rfl
      refine two_ (i := 6) (j := 9) (Ni := some 21) (Nj := some 24) #[true, true, true, true, true, true, true, true, true, false, true, false, false, false, false, false] #[true, true, true, true, true, true, false, true, true, true, true, false, false, false, false, false] rfl rfl rfl rfl (two_of HT_.out (by kernel_rfl)) (by decide) (by decide) (fun K hK => ?_) (fun K hK => ?_)
      ·refine goes_ Try.func70 (by kernel_rfl) rfl #[.pointer (some ⟨g, 0, none⟩), .int .i64 (t228.length : Int)] (by rfl) rfl rfl (by (try simp only [List.map_toArray, List.map_cons, List.map_nil]); first | done | rfl) ?_
       with_reducible refine (spec_l20Rd_pick.calls k g s0_0 t237 (t228.length : Int) t238 t239 w0 w48_ FI48_.out FB48_.out A19.out).mono ?_
       rintro e w57_ ⟨rfl, hi, hb, hk⟩
       have FK57_ := am (KeepBut.trans FK48_.out hk (.inl rfl))
       have FD57_ := am (KeepBut.blk hk FD48_.out NB235_0.out (by simp))
       have F857_ := am (Kd.R_mono (Kd.R_keep (IsS80.apart FI48_.out F848_.out (by decide)) hk (fun _ h => h.2)) (fun _ h => h.1))
       have F757_ := am (Kd.R_mono (Kd.R_keep (IsS80.apart FI48_.out F748_.out (by decide)) hk (fun _ h => h.2)) (fun _ h => h.1))
       have FI57_ := am hi
       have FB57_ := am hb
       clear hi hb hk
       refine ⟨_, rfl, ?_⟩
       refine hK.out _ _ ((blk_cell FD57_.out 0).trans rfl) (fun hHeld => ?_)
       clear hK K
       refine norm_ (a' := ?_) ?_ ?_
       rotate_left
       ·show Act.put _ (some 21) _ = _
        simp only [Act.put, List.setIfInBounds_toArray, List.set_cons_zero, List.set_cons_succ, i64_w, i32_w]
        rfl
       refine two_ (i := 9) (j := 11) (Ni := some 24) (Nj := some 26) #[true, true, true, true, true, true, true, true, true, true, true, false, false, false, false, false] #[true, true, true, true, true, true, true, true, true, false, true, true, false, false, false, false] rfl rfl rfl rfl (two_of HT_.out (by kernel_rfl)) (by decide) (by decide) (fun K hK => ?_) (fun K hK => ?_)
       ·refine event_step (v := .slice (some ⟨w57_.heap.size, 0, none⟩) 2 2) (w1 := w57_.alloc (Obj.cells #[.slice A7 0 c7, .slice A8 1 c8] 36)) (by rfl) ?_ ?_
        ·first | (go_simp; done) | (go_simp; rfl)
        have hb : Below w57_.heap.size w57_ (w57_.alloc (Obj.cells #[.slice A7 0 c7, .slice A8 1 c8] 36)) := (Below.refl _ _).alloc (Nat.le_refl _) _
        have FK59_ := am (KeepBut.trans FK57_.out (KeepBut.of_below hb g none) (.inl rfl))
        have FD59_ := am (blk_below FD57_.out hb)
        have F859_ := am (Kd.R_below F857_.out hb)
        have F759_ := am (Kd.R_below F757_.out hb)
        have FI59_ := am (IsS80.below FI57_.out hb)
        have FB59_ := am (below_then FB57_.out FB57_.out.size hb)
        have FX59_ := am (blk_new w57_ (Obj.cells #[.slice A7 0 c7, .slice A8 1 c8] 36))
        clear hb
        generalize w57_.alloc (Obj.cells #[.slice A7 0 c7, .slice A8 1 c8] 36) = w59_ at FK59_ FD59_ F859_ F759_ FI59_ FB59_ FX59_ ⊢
        obtain ⟨bx, hbx⟩ : ∃ bx, w57_.heap.size = bx := ⟨_, rfl⟩
        rw [hbx] at FX59_ ⊢
        clear hbx
        refine hK.out _ _ ((blk_cell FD59_.out 0).trans rfl) (fun hHeld => ?_)
        clear hK K
        refine norm_ (a' := ?_) ?_ ?_
        rotate_left
        ·show Act.put _ (some 24) _ = _
         simp only [Act.put, List.setIfInBounds_toArray, List.set_cons_zero, List.set_cons_succ, i64_w, i32_w]
         rfl
        refine one_ (i := 11) (N := some 26) #[true, true, true, true, true, true, true, true, true, true, true, true, false, false, false, false] rfl rfl (one_of HT_.out (by kernel_rfl)) (by decide) (fun K hK => ?_)
        refine goes_ Try.func70 (by kernel_rfl) rfl #[.pointer (some ⟨g, 0, none⟩), .int .i64 2] (by rfl) rfl rfl (by (try simp only [List.map_toArray, List.map_cons, List.map_nil]); first | done | rfl) ?_
        with_reducible refine (spec_l20Rd_pick.calls k g s0_0 t239 2 t249 t250 w0 w59_ FI59_.out FB59_.out A20.out).mono ?_
        rintro e w61_ ⟨rfl, hi, hb, hk⟩
        have FK61_ := am (KeepBut.trans FK59_.out hk (.inl rfl))
        have FD61_ := am (KeepBut.blk hk FD59_.out NB235_0.out (by simp))
        have F861_ := am (Kd.R_mono (Kd.R_keep (IsS80.apart FI59_.out F859_.out (by decide)) hk (fun _ h => h.2)) (fun _ h => h.1))
        have F761_ := am (Kd.R_mono (Kd.R_keep (IsS80.apart FI59_.out F759_.out (by decide)) hk (fun _ h => h.2)) (fun _ h => h.1))
        have FX61_ := am ((hk.2 bx (blk_lt FX59_.out) (IsS80.ne_blk FI59_.out FX59_.out (by decide)).symm (by simp)).trans FX59_.out)
        have FI61_ := am hi
        have FB61_ := am hb
        clear hi hb hk
        refine ⟨_, rfl, ?_⟩
        refine hK.out _ _ ((blk_cell FD61_.out 0).trans rfl) (fun hHeld => ?_)
        clear hK K
        refine norm_ (a' := ?_) ?_ ?_
        rotate_left
        ·show Act.put _ (some 26) _ = _
         simp only [Act.put, List.setIfInBounds_toArray, List.set_cons_zero, List.set_cons_succ, i64_w, i32_w]
         rfl
        exact norm_ (by first | (simp only [putAll, Act.put, List.setIfInBounds_toArray, List.set_cons_zero, List.set_cons_succ]; done) | (simp only [putAll, Act.put, List.setIfInBounds_toArray, List.set_cons_zero, List.set_cons_succ]; rfl)) (hJ (A7, c7, A8, c8, bx) _ ⟨FK61_.out, FI61_.out, FB61_.out, FD61_.out, FX61_.out, F761_.out, F861_.out⟩)
       ·refine goes_ Try.func70 (by kernel_rfl) rfl #[.pointer (some ⟨g, 0, none⟩), .int .i64 2] (by rfl) rfl rfl (by (try simp only [List.map_toArray, List.map_cons, List.map_nil]); first | done | rfl) ?_
        with_reducible refine (spec_l20Rd_pick.calls k g s0_0 t239 2 t249 t250 w0 w57_ FI57_.out FB57_.out A20.out).mono ?_
        rintro e w60_ ⟨rfl, hi, hb, hk⟩
        have FK60_ := am (KeepBut.trans FK57_.out hk (.inl rfl))
        have FD60_ := am (KeepBut.blk hk FD57_.out NB235_0.out (by simp))
        have F860_ := am (Kd.R_mono (Kd.R_keep (IsS80.apart FI57_.out F857_.out (by decide)) hk (fun _ h => h.2)) (fun _ h => h.1))
        have F760_ := am (Kd.R_mono (Kd.R_keep (IsS80.apart FI57_.out F757_.out (by decide)) hk (fun _ h => h.2)) (fun _ h => h.1))
        have FI60_ := am hi
        have FB60_ := am hb
        clear hi hb hk
        refine ⟨_, rfl, ?_⟩
        refine hK.out _ _ ((blk_cell FD60_.out 0).trans rfl) (fun hHeld => ?_)
        clear hK K
        refine norm_ (a' := ?_) ?_ ?_
        rotate_left
        ·show Act.put _ (some 26) _ = _
         simp only [Act.put, List.setIfInBounds_toArray, List.set_cons_zero, List.set_cons_succ, i64_w, i32_w]
         rfl
        refine one_ (i := 9) (N := some 24) #[true, true, true, true, true, true, true, true, true, true, true, true, false, false, false, false] rfl rfl (one_of HT_.out (by kernel_rfl)) (by decide) (fun K hK => ?_)
        refine event_step (v := .slice (some ⟨w60_.heap.size, 0, none⟩) 2 2) (w1 := w60_.alloc (Obj.cells #[.slice A7 0 c7, .slice A8 1 c8] 36)) (by rfl) ?_ ?_
        ·first | (go_simp; done) | (go_simp; rfl)
        have hb : Below w60_.heap.size w60_ (w60_.alloc (Obj.cells #[.slice A7 0 c7, .slice A8 1 c8] 36)) := (Below.refl _ _).alloc (Nat.le_refl _) _
        have FK62_ := am (KeepBut.trans FK60_.out (KeepBut.of_below hb g none) (.inl rfl))
        have FD62_ := am (blk_below FD60_.out hb)
        have F862_ := am (Kd.R_below F860_.out hb)
        have F762_ := am (Kd.R_below F760_.out hb)
        have FI62_ := am (IsS80.below FI60_.out hb)
        have FB62_ := am (below_then FB60_.out FB60_.out.size hb)
        have FX62_ := am (blk_new w60_ (Obj.cells #[.slice A7 0 c7, .slice A8 1 c8] 36))
        clear hb
        generalize w60_.alloc (Obj.cells #[.slice A7 0 c7, .slice A8 1 c8] 36) = w62_ at FK62_ FD62_ F862_ F762_ FI62_ FB62_ FX62_ ⊢
        obtain ⟨bx, hbx⟩ : ∃ bx, w60_.heap.size = bx := ⟨_, rfl⟩
        rw [hbx] at FX62_ ⊢
        clear hbx
        refine hK.out _ _ ((blk_cell FD62_.out 0).trans rfl) (fun hHeld => ?_)
        clear hK K
        refine norm_ (a' := ?_) ?_ ?_
        rotate_left
        ·show Act.put _ (some 24) _ = _
         simp only [Act.put, List.setIfInBounds_toArray, List.set_cons_zero, List.set_cons_succ, i64_w, i32_w]
         rfl
        exact norm_ (by first | (simp only [putAll, Act.put, List.setIfInBounds_toArray, List.set_cons_zero, List.set_cons_succ]; done) | (simp only [putAll, Act.put, List.setIfInBounds_toArray, List.set_cons_zero, List.set_cons_succ]; rfl)) (hJ (A7, c7, A8, c8, bx) _ ⟨FK62_.out, FI62_.out, FB62_.out, FD62_.out, FX62_.out, F762_.out, F862_.out⟩)
      ·refine event_step (v := .slice (some ⟨w48_.heap.size, 0, none⟩) 2 2) (w1 := w48_.alloc (Obj.cells #[.slice A7 0 c7, .slice A8 1 c8] 36)) (by rfl) ?_ ?_
       ·first | (go_simp; done) | (go_simp; rfl)
       have hb : Below w48_.heap.size w48_ (w48_.alloc (Obj.cells #[.slice A7 0 c7, .slice A8 1 c8] 36)) := (Below.refl _ _).alloc (Nat.le_refl _) _
       have FI58_ := am (IsS80.below FI48_.out hb)
       have FB58_ := am (below_then FB48_.out FB48_.out.size hb)
       have FK58_ := am (KeepBut.trans FK48_.out (KeepBut.of_below hb g none) (.inl rfl))
       have FD58_ := am (blk_below FD48_.out hb)
       have F858_ := am (Kd.R_below F848_.out hb)
       have F758_ := am (Kd.R_below F748_.out hb)
       have FX58_ := am (blk_new w48_ (Obj.cells #[.slice A7 0 c7, .slice A8 1 c8] 36))
       clear hb
       generalize w48_.alloc (Obj.cells #[.slice A7 0 c7, .slice A8 1 c8] 36) = w58_ at FI58_ FB58_ FK58_ FD58_ F858_ F758_ FX58_ ⊢
       obtain ⟨bx, hbx⟩ : ∃ bx, w48_.heap.size = bx := ⟨_, rfl⟩
       rw [hbx] at FX58_ ⊢
       clear hbx
       refine hK.out _ _ ((blk_cell FD58_.out 0).trans rfl) (fun hHeld => ?_)
       clear hK K
       refine norm_ (a' := ?_) ?_ ?_
       rotate_left
       ·show Act.put _ (some 24) _ = _
        simp only [Act.put, List.setIfInBounds_toArray, List.set_cons_zero, List.set_cons_succ, i64_w, i32_w]
        rfl
       refine one_ (i := 6) (N := some 21) #[true, true, true, true, true, true, true, true, true, true, true, false, false, false, false, false] rfl rfl (one_of HT_.out (by kernel_rfl)) (by decide) (fun K hK => ?_)
       refine goes_ Try.func70 (by kernel_rfl) rfl #[.pointer (some ⟨g, 0, none⟩), .int .i64 (t228.length : Int)] (by rfl) rfl rfl (by (try simp only [List.map_toArray, List.map_cons, List.map_nil]); first | done | rfl) ?_
       with_reducible refine (spec_l20Rd_pick.calls k g s0_0 t237 (t228.length : Int) t238 t239 w0 w58_ FI58_.out FB58_.out A19.out).mono ?_
       rintro e w63_ ⟨rfl, hi, hb, hk⟩
       have FK63_ := am (KeepBut.trans FK58_.out hk (.inl rfl))
       have FD63_ := am (KeepBut.blk hk FD58_.out NB235_0.out (by simp))
       have F863_ := am (Kd.R_mono (Kd.R_keep (IsS80.apart FI58_.out F858_.out (by decide)) hk (fun _ h => h.2)) (fun _ h => h.1))
       have F763_ := am (Kd.R_mono (Kd.R_keep (IsS80.apart FI58_.out F758_.out (by decide)) hk (fun _ h => h.2)) (fun _ h => h.1))
       have FX63_ := am ((hk.2 bx (blk_lt FX58_.out) (IsS80.ne_blk FI58_.out FX58_.out (by decide)).symm (by simp)).trans FX58_.out)
       have FI63_ := am hi
       have FB63_ := am hb
       clear hi hb hk
       refine ⟨_, rfl, ?_⟩
       refine hK.out _ _ ((blk_cell FD63_.out 0).trans rfl) (fun hHeld => ?_)
       clear hK K
       refine norm_ (a' := ?_) ?_ ?_
       rotate_left
       ·show Act.put _ (some 21) _ = _
        simp only [Act.put, List.setIfInBounds_toArray, List.set_cons_zero, List.set_cons_succ, i64_w, i32_w]
        rfl
       refine one_ (i := 11) (N := some 26) #[true, true, true, true, true, true, true, true, true, true, true, true, false, false, false, false] rfl rfl (one_of HT_.out (by kernel_rfl)) (by decide) (fun K hK => ?_)
       refine goes_ Try.func70 (by kernel_rfl) rfl #[.pointer (some ⟨g, 0, none⟩), .int .i64 2] (by rfl) rfl rfl (by (try simp only [List.map_toArray, List.map_cons, List.map_nil]); first | done | rfl) ?_
       with_reducible refine (spec_l20Rd_pick.calls k g s0_0 t239 2 t249 t250 w0 w63_ FI63_.out FB63_.out A20.out).mono ?_
       rintro e w64_ ⟨rfl, hi, hb, hk⟩
       have FK64_ := am (KeepBut.trans FK63_.out hk (.inl rfl))
       have FD64_ := am (KeepBut.blk hk FD63_.out NB235_0.out (by simp))
       have F864_ := am (Kd.R_mono (Kd.R_keep (IsS80.apart FI63_.out F863_.out (by decide)) hk (fun _ h => h.2)) (fun _ h => h.1))
       have F764_ := am (Kd.R_mono (Kd.R_keep (IsS80.apart FI63_.out F763_.out (by decide)) hk (fun _ h => h.2)) (fun _ h => h.1))
       have FX64_ := am ((hk.2 bx (blk_lt FX63_.out) (IsS80.ne_blk FI63_.out FX63_.out (by decide)).symm (by simp)).trans FX63_.out)
       have FI64_ := am hi
       have FB64_ := am hb
       clear hi hb hk
       refine ⟨_, rfl, ?_⟩
       refine hK.out _ _ ((blk_cell FD64_.out 0).trans rfl) (fun hHeld => ?_)
       clear hK K
       refine norm_ (a' := ?_) ?_ ?_
       rotate_left
       ·show Act.put _ (some 26) _ = _
        simp only [Act.put, List.setIfInBounds_toArray, List.set_cons_zero, List.set_cons_succ, i64_w, i32_w]
        rfl
       exact norm_ (by first | (simp only [putAll, Act.put, List.setIfInBounds_toArray, List.set_cons_zero, List.set_cons_succ]; done) | (simp only [putAll, Act.put, List.setIfInBounds_toArray, List.set_cons_zero, List.set_cons_succ]; rfl)) (hJ (A7, c7, A8, c8, bx) _ ⟨FK64_.out, FI64_.out, FB64_.out, FD64_.out, FX64_.out, F764_.out, F864_.out⟩)
   rintro ⟨A7, c7, A8, c8, bx⟩ W_ ⟨fK, fI, fB, fD, fX, f7, f8⟩
   refine norm_ (a' := ?_) ?_ ?_
   rotate_left
   ·simp only [putAll, Act.put, List.setIfInBounds_toArray, List.set_cons_zero, List.set_cons_succ]
    rfl
   rcases HQ.out with e1_ | e1_
   ·subst e1_
    have L_ := LEAF W_ A7 c7 fK fI fB f7
    rw [show lit2 0 = ([] : List Int) from rfl] at L_
    obtain ⟨⟨ua_, un_, uc_, hcx_⟩, hfx_, L1, L2, L3, L4, L5, L6, L7⟩ := L_
    have hlx : W_.cell? ⟨bx, 0, none⟩ = some (.slice A7 0 c7) := blk_cell fX 0
    refine pure_ (i := 12) (N := some 27) (v := ?_) (a' := ?_) #[true, true, true, true, true, true, true, true, true, true, true, true, true, false, false, false] rfl rfl (any_of HT_.out (by kernel_rfl)) (fun _ _ _ h => h) (Or.inl ⟨by rfl, ?_⟩) ?_ ?_
    rotate_left
    ·intro w'
     go_simp
     with_reducible rfl
    rotate_left
    ·simp only [Act.put, List.setIfInBounds_toArray, List.set_cons_zero, List.set_cons_succ, i64_w, i32_w]
     rfl
    refine one_ (i := 13) (N := some 28) #[true, true, true, true, true, true, true, true, true, true, true, true, true, true, false, false] rfl rfl (one_of HT_.out (by kernel_rfl)) (by decide) (fun K hK => ?_)
    refine event_step (v := (.slice A7 0 c7)) (w1 := W_) (by rfl) ?_ ?_
    ·first | (go_simp; done) | (go_simp; rfl)
    refine hK.out _ _ ((blk_cell fD 0).trans rfl) (fun hHeld => ?_)
    clear hK K
    refine norm_ (a' := ?_) ?_ ?_
    rotate_left
    ·show Act.put _ (some 28) _ = _
     simp only [Act.put, List.setIfInBounds_toArray, List.set_cons_zero, List.set_cons_succ, i64_w, i32_w]
     rfl
    refine pure_ (i := 14) (N := some 29) (v := ?_) (a' := ?_) #[true, true, true, true, true, true, true, true, true, true, true, true, true, true, true, false] rfl rfl (any_of HT_.out (by kernel_rfl)) (fun _ _ _ h => h) (Or.inl ⟨by rfl, ?_⟩) ?_ ?_
    rotate_left
    ·intro w'
     go_simp
     with_reducible rfl
    rotate_left
    ·simp only [Act.put, List.setIfInBounds_toArray, List.set_cons_zero, List.set_cons_succ, i64_w, i32_w]
     rfl
    refine one_ (i := 15) (N := none) #[true, true, true, true, true, true, true, true, true, true, true, true, true, true, true, true] rfl rfl (one_of HT_.out (by kernel_rfl)) (by decide) (fun K hK => ?_)
    refine skip_ (w1 := W_.setCell ⟨go23, t238.toNat, none⟩ (.slice A7 0 c7)) (by rfl) rfl ?_ ?_
    ·first | (go_simp; done) | (go_simp; rfl)
    refine hK.out _ _ ((blk_cell L4.out 0).trans rfl) (fun hHeld => ?_)
    clear hK K
    refine done_ (done_of HT_.out (by kernel_rfl)) ?_
    try go_wp2
    go_meet
    case rel => exact ⟨_, t250, y251, t231, (.slice (some ⟨go23, 0, none⟩) t228.length co12), (.slice Ao16 t231.length co16), H', ⟨Nat.le_refl _⟩, L1, L2, L3, L4, L5, L6, L7⟩
   ·subst e1_
    have L_ := LEAF W_ A8 c8 fK fI fB f8
    rw [show lit2 1 = ([1] : List Int) from rfl] at L_
    obtain ⟨⟨ua_, un_, uc_, hcx_⟩, hfx_, L1, L2, L3, L4, L5, L6, L7⟩ := L_
    have hlx : W_.cell? ⟨bx, 1, none⟩ = some (.slice A8 1 c8) := blk_cell fX 1
    refine pure_ (i := 12) (N := some 27) (v := ?_) (a' := ?_) #[true, true, true, true, true, true, true, true, true, true, true, true, true, false, false, false] rfl rfl (any_of HT_.out (by kernel_rfl)) (fun _ _ _ h => h) (Or.inl ⟨by rfl, ?_⟩) ?_ ?_
    rotate_left
    ·intro w'
     go_simp
     with_reducible rfl
    rotate_left
    ·simp only [Act.put, List.setIfInBounds_toArray, List.set_cons_zero, List.set_cons_succ, i64_w, i32_w]
     rfl
    refine one_ (i := 13) (N := some 28) #[true, true, true, true, true, true, true, true, true, true, true, true, true, true, false, false] rfl rfl (one_of HT_.out (by kernel_rfl)) (by decide) (fun K hK => ?_)
    refine event_step (v := (.slice A8 1 c8)) (w1 := W_) (by rfl) ?_ ?_
    ·first | (go_simp; done) | (go_simp; rfl)
    refine hK.out _ _ ((blk_cell fD 0).trans rfl) (fun hHeld => ?_)
    clear hK K
    refine norm_ (a' := ?_) ?_ ?_
    rotate_left
    ·show Act.put _ (some 28) _ = _
     simp only [Act.put, List.setIfInBounds_toArray, List.set_cons_zero, List.set_cons_succ, i64_w, i32_w]
     rfl
    refine pure_ (i := 14) (N := some 29) (v := ?_) (a' := ?_) #[true, true, true, true, true, true, true, true, true, true, true, true, true, true, true, false] rfl rfl (any_of HT_.out (by kernel_rfl)) (fun _ _ _ h => h) (Or.inl ⟨by rfl, ?_⟩) ?_ ?_
    rotate_left
    ·intro w'
     go_simp
     with_reducible rfl
    rotate_left
    ·simp only [Act.put, List.setIfInBounds_toArray, List.set_cons_zero, List.set_cons_succ, i64_w, i32_w]
     rfl
    refine one_ (i := 15) (N := none) #[true, true, true, true, true, true, true, true, true, true, true, true, true, true, true, true] rfl rfl (one_of HT_.out (by kernel_rfl)) (by decide) (fun K hK => ?_)
    refine skip_ (w1 := W_.setCell ⟨go23, t238.toNat, none⟩ (.slice A8 1 c8)) (by rfl) rfl ?_ ?_
    ·first | (go_simp; done) | (go_simp; rfl)
    refine hK.out _ _ ((blk_cell L4.out 0).trans rfl) (fun hHeld => ?_)
    clear hK K
    refine done_ (done_of HT_.out (by kernel_rfl)) ?_
    try go_wp2
    go_meet
    case rel => exact ⟨_, t250, y251, t231, (.slice (some ⟨go23, 0, none⟩) t228.length co12), (.slice Ao16 t231.length co16), H', ⟨Nat.le_refl _⟩, L1, L2, L3, L4, L5, L6, L7⟩
  ·replace c18 := Bool.eq_false_iff.mpr c18
   subst c18
   rw [if_neg (show ¬ (false = true) by decide)] at H
   have H' := am H
   clear H
   go_wp2
   go_meet
   case rel => exact ⟨_, (t237), (t228), (t231), (.slice Ao12 t228.length co12), (.slice Ao16 t231.length co16), H', ⟨by first | omega | exact Nat.le_refl _⟩, ⟨by (with_reducible repeat (first | apply Kd.N_alloc | apply Kd.N_drewN | apply Kd.N_drew)); exact Kd.N_mono HO230.out (fun _ hk => ⟨hk.1.1, ⟨hk.1.2.1, ⟨hk.1.2.2.2.1, ⟨hk.2, hk.1.2.2.2.2⟩⟩⟩⟩)⟩, ⟨by (with_reducible repeat (first | apply Kd.N_alloc | apply Kd.N_drewN | apply Kd.N_drew)); exact Kd.N_mono HO233.out (fun _ hk => ⟨hk.1.1, ⟨hk.1.2.1, ⟨hk.1.2.2.2.1, ⟨hk.2, hk.1.2.2.2.2⟩⟩⟩⟩)⟩, ⟨bv BK223.out⟩, ⟨bv BK235.out⟩, ⟨by repeat (first | (with_reducible first | exact HI0.out | apply IsS80.alloc | apply IsS80.drewN | apply IsS80.drew | apply IsS80.set_1 | refine IsS80.far ?_ NB0_223.out _ | refine IsS80.far ?_ NB0_235.out _) | exact HI0.out)⟩, ⟨by repeat (first | (with_reducible first | exact HK.out | apply KeepBut.set_ | apply keep_drewN | apply keep_drew | apply keep_alloc | refine keep_far ?_ GW223.out _ | refine keep_far ?_ GW235.out _) | exact HK.out)⟩, ⟨by repeat (first | (with_reducible first | exact HB.out | apply below_alloc | apply pw_below_drewN | apply below_drew1 | refine below_set ?_ (IsS80.ge HI0.out) | refine below_set ?_ GE223.out | refine below_set ?_ GE235.out) | exact HB.out)⟩⟩
 case rest =>
  clear HC6
  try clear c1
  try clear c2
  try clear p2
  try clear q2
  try clear hx2
  try clear hf2
  try clear c3
  try clear c7
  try clear c18
  try clear c21
  try clear c22
  try clear c23
  try clear p23
  try clear q23
  try clear hx23
  try clear hf23
  try clear c34
  try clear hx23_0
  try clear p23
  try clear q23
  obtain ⟨kq, x1001_5, x236000_5, x236001_5, u236000, u236001, HA, HJ5, HO_236000, HO_236001, BK223, BK235, HI0, HK, HB⟩ := hcut
  cases kq with
  | zero => exact absurd HA.out (by simp [spec_l20Picture.j0])
  | succ kj5 =>
   have H := HA.out
   clear HA
   simp only [spec_l20Picture.j0] at H
   replace H := Option.bind_eq_some_iff.mp H
   obtain ⟨⟨t252, t253⟩, A375, H⟩ := H
   replace H : (if t252 = true then ((spec_l20Rd_pick.f kj5 s0_0 t253 3).bind fun bt254 => (if bt254.1 = 0 then (some ((([] : List (List Int))), x236001_5, bt254.2)) else (if bt254.1 = 1 then (if 0 < (x236001_5.length : Int) then (some (x236000_5, (x236001_5.set (0 : Int).toNat (([6] : List Int))), bt254.2)) else (none)) else (if 0 < (x236000_5.length : Int) then (some ((x236000_5.set (0 : Int).toNat (([0] : List Int))), x236001_5, bt254.2)) else (none))))) else (some (x236000_5, x236001_5, t253))) = some (r1, r2, r3) := H
   have A35 := am A375
   clear A375
   by_cases c36 : t252 = true
   ·subst c36
    rw [if_pos rfl] at H
    replace H := Option.bind_eq_some_iff.mp H
    obtain ⟨⟨t254, t255⟩, A395, H⟩ := H
    replace H : (if t254 = 0 then (some ((([] : List (List Int))), x236001_5, t255)) else (if t254 = 1 then (if 0 < (x236001_5.length : Int) then (some (x236000_5, (x236001_5.set (0 : Int).toNat (([6] : List Int))), t255)) else (none)) else (if 0 < (x236000_5.length : Int) then (some ((x236000_5.set (0 : Int).toNat (([0] : List Int))), x236001_5, t255)) else (none)))) = some (r1, r2, r3) := H
    have A37 := am A395
    clear A395
    by_cases c38 : t254 = 0
    ·rw [if_pos c38] at H
     have c38b0 : (t254 == 0) = true := beq_iff_eq.mpr c38
     have c38b1 : (t254 != 0) = false := bne_eq_false_iff_eq.mpr c38
     clear c38
     obtain ⟨y256, hy256⟩ : ∃ y_ : List (List Int), y_ = (([] : List (List Int))) := ⟨_, rfl⟩
     replace H : (some (y256, x236001_5, t255)) = some (r1, r2, r3) := by first | (rw [hy256]; with_reducible exact H) | (have H2_ := (Option.bind_some _ _).symm.trans H; rw [hy256]; with_reducible exact H2_) | (have H2_ := (Option.bind_some _ _).symm.trans H; with_reducible exact H2_) | with_reducible exact H | (rw [hy256]; exact H) | exact H
     have Ny256 := am hy256
     clear hy256
     simp only [Option.some.injEq, Prod.mk.injEq] at H
     obtain ⟨rfl, rfl, rfl⟩ := H
     go_wp2_with (first | ((with_reducible refine gate_callee (f := 76) rfl ?_); refine goesL_ (some 32) rfl rfl Try.func76 (by kernel_rfl) rfl #[.pointer (some ⟨g, 0, none⟩), .int .i64 a1] rfl (by (try simp only [List.map_toArray, List.map_cons, List.map_nil]); first | done | rfl | (simp only [List.length_drop, List.length_take]; rfl)) ?_; (with_reducible refine (spec_l20Rd_odd.calls kj5 g s0_0 x1001_5 a1 true t253 w0 _ ?side1 ?side2 A35.out).mono ?_); (case side1 => repeat (first | (with_reducible first | exact HI0.out | apply IsS80.alloc | apply IsS80.drewN | apply IsS80.drew | apply IsS80.set_1 | refine IsS80.far ?_ NB0_223.out _ | refine IsS80.far ?_ NB0_235.out _) | exact HI0.out)); (case side2 => repeat (first | (with_reducible first | exact HB.out | apply below_alloc | apply pw_below_drewN | apply below_drew1 | refine below_set ?_ (IsS80.ge HI0.out) | refine below_set ?_ GE223.out | refine below_set ?_ GE235.out) | exact HB.out)); rintro e w39 ⟨rfl, hi, hb, hk⟩; refine ⟨_, rfl, ?_⟩; have n0_ := am (Kd.N_mono (Kd.N_keep (Kd.N_mono (ok := fun k_ => (((w.heap.size ≤ k_)) ∧ (some k_ ≠ (u236001 : Value).ownBlock ∧ (k_ ≠ gb223 ∧ (k_ ≠ gb235 ∧ k_ ≠ g))))) (Kd.nv HO_236000.out) (fun k_ hk_ => (⟨hk_, hk_.2.2.2.2⟩ : _ ∧ k_ ≠ g))) hk (fun _ h => h.2)) (fun _ h => h.1)); have n1_ := am (Kd.N_mono (Kd.N_keep (Kd.N_mono (ok := fun k_ => (((w.heap.size ≤ k_)) ∧ (some k_ ≠ (u236000 : Value).ownBlock ∧ (k_ ≠ gb223 ∧ (k_ ≠ gb235 ∧ k_ ≠ g))))) (Kd.nv HO_236001.out) (fun k_ hk_ => (⟨hk_, hk_.2.2.2.2⟩ : _ ∧ k_ ≠ g))) hk (fun _ h => h.2)) (fun _ h => h.1)); have n2_ := am (KeepBut.blk hk (g' := gb223) (o := .cells #[.slice none 0 0, .slice none 0 0] 25 (0, 0)) (bv BK223.out) NB223_0.out (by simp)); have n3_ := am (KeepBut.blk hk (g' := gb235) (o := .cells #[u236000, u236001] 25 (0, 0)) (bv BK235.out) NB235_0.out (by simp)); have n4_ := am (KeepBut.trans (by repeat (first | (with_reducible first | exact HK.out | apply KeepBut.set_ | apply keep_drewN | apply keep_drew | apply keep_alloc | refine keep_far ?_ GW223.out _ | refine keep_far ?_ GW235.out _) | exact HK.out)) hk (.inl rfl)); have n5_ := am (hb); have n6_ := am (hi); clear HO_236000 HO_236001 BK223 BK235 HK HB HI0; revert n0_ n1_ n2_ n3_ n4_ n5_ n6_; intro HO_236000 HO_236001 BK223 BK235 HK HB HI0; (try clear hb); (try clear hb2); (try clear hk); (try clear hi)) | ((with_reducible refine gate_callee (f := 70) rfl ?_); refine goesL_ (some 34) rfl rfl Try.func70 (by kernel_rfl) rfl #[.pointer (some ⟨g, 0, none⟩), .int .i64 3] rfl (by (try simp only [List.map_toArray, List.map_cons, List.map_nil]); first | done | rfl | (simp only [List.length_drop, List.length_take]; rfl)) ?_; (with_reducible refine (spec_l20Rd_pick.calls kj5 g s0_0 t253 3 t254 t255 w0 _ ?side1 ?side2 A37.out).mono ?_); (case side1 => repeat (first | (with_reducible first | exact HI0.out | apply IsS80.alloc | apply IsS80.drewN | apply IsS80.drew | apply IsS80.set_1 | refine IsS80.far ?_ NB0_223.out _ | refine IsS80.far ?_ NB0_235.out _) | exact HI0.out)); (case side2 => repeat (first | (with_reducible first | exact HB.out | apply below_alloc | apply pw_below_drewN | apply below_drew1 | refine below_set ?_ (IsS80.ge HI0.out) | refine below_set ?_ GE223.out | refine below_set ?_ GE235.out) | exact HB.out)); rintro e w40 ⟨rfl, hi, hb, hk⟩; refine ⟨_, rfl, ?_⟩; have n0_ := am (Kd.N_mono (Kd.N_keep (Kd.N_mono (ok := fun k_ => (((w.heap.size ≤ k_)) ∧ (some k_ ≠ (u236001 : Value).ownBlock ∧ (k_ ≠ gb223 ∧ (k_ ≠ gb235 ∧ k_ ≠ g))))) (Kd.nv HO_236000.out) (fun k_ hk_ => (⟨hk_, hk_.2.2.2.2⟩ : _ ∧ k_ ≠ g))) hk (fun _ h => h.2)) (fun _ h => h.1)); have n1_ := am (Kd.N_mono (Kd.N_keep (Kd.N_mono (ok := fun k_ => (((w.heap.size ≤ k_)) ∧ (some k_ ≠ (u236000 : Value).ownBlock ∧ (k_ ≠ gb223 ∧ (k_ ≠ gb235 ∧ k_ ≠ g))))) (Kd.nv HO_236001.out) (fun k_ hk_ => (⟨hk_, hk_.2.2.2.2⟩ : _ ∧ k_ ≠ g))) hk (fun _ h => h.2)) (fun _ h => h.1)); have n2_ := am (KeepBut.blk hk (g' := gb223) (o := .cells #[.slice none 0 0, .slice none 0 0] 25 (0, 0)) (bv BK223.out) NB223_0.out (by simp)); have n3_ := am (KeepBut.blk hk (g' := gb235) (o := .cells #[u236000, u236001] 25 (0, 0)) (bv BK235.out) NB235_0.out (by simp)); have n4_ := am (KeepBut.trans (by repeat (first | (with_reducible first | exact HK.out | apply KeepBut.set_ | apply keep_drewN | apply keep_drew | apply keep_alloc | refine keep_far ?_ GW223.out _ | refine keep_far ?_ GW235.out _) | exact HK.out)) hk (.inl rfl)); have n5_ := am (hb); have n6_ := am (hi); clear HO_236000 HO_236001 BK223 BK235 HK HB HI0; revert n0_ n1_ n2_ n3_ n4_ n5_ n6_; intro HO_236000 HO_236001 BK223 BK235 HK HB HI0; (try clear hb); (try clear hb2); (try clear hk); (try clear hi)) | ((with_reducible refine gate_dst (N := 41) rfl ?_); refine Kd.N_lit (Kd.slice 3 (Kd.int .i64)) _ 36 ?hg (N' := 41) ?hd (xs := ([] : List (List Int))) (inner := []) (ok := (fun k_ => (w.heap.size ≤ k_) ∧ some k_ ≠ (u236000 : Value).ownBlock ∧ some k_ ≠ (u236001 : Value).ownBlock ∧ k_ ≠ gb223 ∧ k_ ≠ gb235 ∧ k_ ≠ g)) (okp := (fun k_ => (w.heap.size ≤ k_) ∧ some k_ ≠ (u236000 : Value).ownBlock ∧ some k_ ≠ (u236001 : Value).ownBlock ∧ k_ ≠ gb223 ∧ k_ ≠ gb235 ∧ k_ ≠ g)) ?hr ?hp (fun _ hk => hk) ((show ∀ k_, w40.heap.size ≤ k_ → (fun k_ => (w.heap.size ≤ k_) ∧ some k_ ≠ (u236000 : Value).ownBlock ∧ some k_ ≠ (u236001 : Value).ownBlock ∧ k_ ≠ gb223 ∧ k_ ≠ gb235 ∧ k_ ≠ g) k_ from fun k_ hk => ⟨(Nat.le_trans (keep_size (w := w) (g := g) (row := none) (by repeat (first | (with_reducible first | exact HK.out | apply KeepBut.set_ | apply keep_drewN | apply keep_drew | apply keep_alloc | refine keep_far ?_ GW223.out _ | refine keep_far ?_ GW235.out _) | exact HK.out))) hk), Kd.fresh' (Kd.N_lt (Kd.nv HO_236000.out)) k_ hk, Kd.fresh' (Kd.N_lt (Kd.nv HO_236001.out)) k_ hk, Kd.freshB (g := gb223) (o := .cells #[.slice none 0 0, .slice none 0 0] 25 (0, 0)) (bv BK223.out) k_ hk, Kd.freshB (g := gb235) (o := .cells #[u236000, u236001] 25 (0, 0)) (bv BK235.out) k_ hk, IsS80.fresh (by repeat (first | (with_reducible first | exact HI0.out | apply IsS80.alloc | apply IsS80.drewN | apply IsS80.drew | apply IsS80.set_1 | refine IsS80.far ?_ NB0_223.out _ | refine IsS80.far ?_ NB0_235.out _) | exact HI0.out)) k_ hk⟩) _ (Nat.le_refl _)) (Below.refl _ _) (Nat.le_refl _) (by simp) ?_; (case hd => rfl); (case hg => rfl); (case hr => first | (go_simp; done) | (go_simp; rfl)); (case hp => exact (Reps.none _ _)); intro v257 w41 ho42 hb hg_ hnew_; clear hg_ hnew_; (first | rw [← Ny256.out] at ho42 | (simp only [Int.reduceToNat] at ho42; rw [← Ny256.out] at ho42)); have n0_ := am (Kd.N_elder' (Kd.nv HO_236000.out) (Kd.N_base ho42) hb); have n1_ := am (Kd.N_elder' (Kd.nv HO_236001.out) (Kd.N_base ho42) hb); have n2_ := am (Kd.N_lower ho42 (keep_size (w := w) (g := g) (row := none) (by repeat (first | (with_reducible first | exact HK.out | apply KeepBut.set_ | apply keep_drewN | apply keep_drew | apply keep_alloc | refine keep_far ?_ GW223.out _ | refine keep_far ?_ GW235.out _) | exact HK.out)))); have n3_ := am (blk_below (g := gb223) (o := .cells #[.slice none 0 0, .slice none 0 0] 25 (0, 0)) (bv BK223.out) hb); have n4_ := am (blk_below (g := gb235) (o := .cells #[u236000, u236001] 25 (0, 0)) (bv BK235.out) hb); have n5_ := am (IsS80.below (by repeat (first | (with_reducible first | exact HI0.out | apply IsS80.alloc | apply IsS80.drewN | apply IsS80.drew | apply IsS80.set_1 | refine IsS80.far ?_ NB0_223.out _ | refine IsS80.far ?_ NB0_235.out _) | exact HI0.out)) hb); have n6_ := am (KeepBut.trans (by repeat (first | (with_reducible first | exact HK.out | apply KeepBut.set_ | apply keep_drewN | apply keep_drew | apply keep_alloc | refine keep_far ?_ GW223.out _ | refine keep_far ?_ GW235.out _) | exact HK.out)) (KeepBut.of_below hb g none) (.inl rfl)); have n7_ := am (below_step (by repeat (first | (with_reducible first | exact HB.out | apply below_alloc | apply pw_below_drewN | apply below_drew1 | refine below_set ?_ (IsS80.ge HI0.out) | refine below_set ?_ GE223.out | refine below_set ?_ GE235.out) | exact HB.out)) hb); clear HO_236000 HO_236001 BK223 BK235 HI0 HK HB; revert n0_ n1_ n2_ n3_ n4_ n5_ n6_ n7_; intro HO_236000 HO_236001 HO258 BK223 BK235 HI0 HK HB; clear hb ho42; obtain ⟨Ao43, co43, eo43⟩ := Kd.N_slice HO258.out; subst eo43; have hnb44 := NB235_223.out; have hnc44 := NB223_235.out; have hnb45 := NB235_0.out; have hnc45 := NB0_235.out; have hcz46_0 : w41.cell? ⟨gb235, 0, none⟩ = some (u236000) := (blk_cell BK235.out 0).trans rfl; have hcz46_1 : w41.cell? ⟨gb235, 1, none⟩ = some (u236001) := (blk_cell BK235.out 1).trans rfl; have hfz46_0 := blk_frozen BK235.out 0; have hfz46_1 := blk_frozen BK235.out 1; have hnb47 := NB223_0.out; have hnc47 := NB0_223.out; have hcz48_0 : w41.cell? ⟨gb223, 0, none⟩ = some (.slice none 0 0) := (blk_cell BK223.out 0).trans rfl; have hcz48_1 : w41.cell? ⟨gb223, 1, none⟩ = some (.slice none 0 0) := (blk_cell BK223.out 1).trans rfl; have hfz48_0 := blk_frozen BK223.out 0; have hfz48_1 := blk_frozen BK223.out 1; obtain ⟨Ao49, co49, eo49⟩ := Kd.N_slice HO_236001.out; subst eo49))
     refine bodyPost_ret (results_cell_row rfl _ _ gb223 25 #[.slice Ao43 y256.length co43, .slice Ao49 x236001_5.length co49] (0, 0) _ rfl (by (with_reducible repeat (first | refine blk_drewN ?_ _ | refine blk_drew ?_ | refine blk_alloc ?_ _)); refine blk_put (cs := #[.slice Ao43 y256.length co43, .slice none 0 0]) ?_ 1 _ rfl; (with_reducible repeat (first | refine blk_drewN ?_ _ | refine blk_drew ?_ | refine blk_alloc ?_ _)); refine blk_put (cs := #[.slice none 0 0, .slice none 0 0]) ?_ 0 _ rfl; (with_reducible repeat (first | refine blk_drewN ?_ _ | refine blk_drew ?_ | refine blk_alloc ?_ _)); refine blk_far ?_ NB223_235.out _; (with_reducible repeat (first | refine blk_drewN ?_ _ | refine blk_drew ?_ | refine blk_alloc ?_ _)); exact BK223.out) Try.underlying25 rfl (by kernel_rfl)) rfl ?_
     exact ⟨_, _, rfl, by (with_reducible repeat (first | apply Kd.N_alloc | apply Kd.N_drewN | apply Kd.N_drew)); exact Kd.N_mono (Kd.N_far (p := ⟨gb223, 1, none⟩) (Kd.N_far (p := ⟨gb223, 0, none⟩) (Kd.N_far (p := ⟨gb235, 0, none⟩) (Kd.N_mono (Kd.N_mono HO258.out (fun k_ hk => (⟨hk, hk.2.2.2.2.1⟩ : _ ∧ k_ ≠ gb235))) (fun k_ hk => (⟨hk, hk.1.2.2.2.1⟩ : _ ∧ k_ ≠ gb223))) (fun _ hk => hk.1.2) (.slice Ao43 y256.length co43)) (fun _ hk => hk.2) (.slice Ao43 y256.length co43)) (fun _ hk => hk.2) (.slice Ao49 x236001_5.length co49)) (fun _ hk => ⟨hk.1.1.1, hk.1.1.2.2.1⟩), by (with_reducible repeat (first | apply Kd.N_alloc | apply Kd.N_drewN | apply Kd.N_drew)); exact Kd.N_mono (Kd.N_far (p := ⟨gb223, 1, none⟩) (Kd.N_far (p := ⟨gb223, 0, none⟩) (Kd.N_far (p := ⟨gb235, 0, none⟩) (Kd.N_mono (Kd.N_mono HO_236001.out (fun k_ hk => (⟨hk, hk.1.2.2.2.1⟩ : _ ∧ k_ ≠ gb235))) (fun k_ hk => (⟨hk, hk.1.1.2.2.1⟩ : _ ∧ k_ ≠ gb223))) (fun _ hk => hk.1.2) (.slice Ao43 y256.length co43)) (fun _ hk => hk.2) (.slice Ao43 y256.length co43)) (fun _ hk => hk.2) (.slice Ao49 x236001_5.length co49)) (fun _ hk => ⟨hk.1.1.1.1, hk.1.1.2⟩), by repeat (first | (with_reducible first | exact HI0.out | apply IsS80.alloc | apply IsS80.drewN | apply IsS80.drew | apply IsS80.set_1 | refine IsS80.far ?_ NB0_223.out _ | refine IsS80.far ?_ NB0_235.out _) | exact HI0.out), by repeat (first | (with_reducible first | exact HB.out | apply below_alloc | apply pw_below_drewN | apply below_drew1 | refine below_set ?_ (IsS80.ge HI0.out) | refine below_set ?_ GE223.out | refine below_set ?_ GE235.out) | exact HB.out), by repeat (first | (with_reducible first | exact HK.out | apply KeepBut.set_ | apply keep_drewN | apply keep_drew | apply keep_alloc | refine keep_far ?_ GW223.out _ | refine keep_far ?_ GW235.out _) | exact HK.out)⟩
    ·rw [if_neg c38] at H
     have c38b0 : (t254 == 0) = false := beq_eq_false_iff_ne.mpr c38
     have c38b1 : (t254 != 0) = true := bne_iff_ne.mpr c38
     by_cases c50 : t254 = 1
     ·rw [if_pos c50] at H
      have c50b0 : (t254 == 1) = true := beq_iff_eq.mpr c50
      have c50b1 : (t254 != 1) = false := bne_eq_false_iff_eq.mpr c50
      clear c50
      obtain ⟨y259, hy259⟩ : ∃ y_ : List Int, y_ = (([6] : List Int)) := ⟨_, rfl⟩
      replace H : (if 0 < (x236001_5.length : Int) then (some (x236000_5, (x236001_5.set (0 : Int).toNat y259), t255)) else (none)) = some (r1, r2, r3) := by first | (rw [hy259]; with_reducible exact H) | (have H2_ := (Option.bind_some _ _).symm.trans H; rw [hy259]; with_reducible exact H2_) | (have H2_ := (Option.bind_some _ _).symm.trans H; with_reducible exact H2_) | with_reducible exact H | (rw [hy259]; exact H) | exact H
      have Ny259 := am hy259
      clear hy259
      have q_ := ifs H
      clear H
      obtain ⟨c51, H⟩ := q_
      have c51b0 : decide (0 < (x236001_5.length : Int)) = true := decide_eq_true c51
      have c51b1 : decide (0 < x236001_5.length) = true := decide_eq_true (by omega)
      clear c51
      obtain ⟨y262, hy262⟩ : ∃ y_ : List (List Int), y_ = (x236001_5.set (0 : Int).toNat y259) := ⟨_, rfl⟩
      replace H : (some (x236000_5, y262, t255)) = some (r1, r2, r3) := by first | (rw [hy262]; with_reducible exact H) | (have H2_ := (Option.bind_some _ _).symm.trans H; rw [hy262]; with_reducible exact H2_) | (have H2_ := (Option.bind_some _ _).symm.trans H; with_reducible exact H2_) | with_reducible exact H | (rw [hy262]; exact H) | exact H
      have Ny262 := am hy262
      clear hy262
      simp only [Option.some.injEq, Prod.mk.injEq] at H
      obtain ⟨rfl, rfl, rfl⟩ := H
      go_wp2_with (first | ((with_reducible refine gate_callee (f := 76) rfl ?_); refine goesL_ (some 32) rfl rfl Try.func76 (by kernel_rfl) rfl #[.pointer (some ⟨g, 0, none⟩), .int .i64 a1] rfl (by (try simp only [List.map_toArray, List.map_cons, List.map_nil]); first | done | rfl | (simp only [List.length_drop, List.length_take]; rfl)) ?_; (with_reducible refine (spec_l20Rd_odd.calls kj5 g s0_0 x1001_5 a1 true t253 w0 _ ?side1 ?side2 A35.out).mono ?_); (case side1 => repeat (first | (with_reducible first | exact HI0.out | apply IsS80.alloc | apply IsS80.drewN | apply IsS80.drew | apply IsS80.set_1 | refine IsS80.far ?_ NB0_223.out _ | refine IsS80.far ?_ NB0_235.out _) | exact HI0.out)); (case side2 => repeat (first | (with_reducible first | exact HB.out | apply below_alloc | apply pw_below_drewN | apply below_drew1 | refine below_set ?_ (IsS80.ge HI0.out) | refine below_set ?_ GE223.out | refine below_set ?_ GE235.out) | exact HB.out)); rintro e w53 ⟨rfl, hi, hb, hk⟩; refine ⟨_, rfl, ?_⟩; have n0_ := am (Kd.N_mono (Kd.N_keep (Kd.N_mono (ok := fun k_ => (((w.heap.size ≤ k_)) ∧ (some k_ ≠ (u236001 : Value).ownBlock ∧ (k_ ≠ gb223 ∧ (k_ ≠ gb235 ∧ k_ ≠ g))))) (Kd.nv HO_236000.out) (fun k_ hk_ => (⟨hk_, hk_.2.2.2.2⟩ : _ ∧ k_ ≠ g))) hk (fun _ h => h.2)) (fun _ h => h.1)); have n1_ := am (Kd.N_mono (Kd.N_keep (Kd.N_mono (ok := fun k_ => (((w.heap.size ≤ k_)) ∧ (some k_ ≠ (u236000 : Value).ownBlock ∧ (k_ ≠ gb223 ∧ (k_ ≠ gb235 ∧ k_ ≠ g))))) (Kd.nv HO_236001.out) (fun k_ hk_ => (⟨hk_, hk_.2.2.2.2⟩ : _ ∧ k_ ≠ g))) hk (fun _ h => h.2)) (fun _ h => h.1)); have n2_ := am (KeepBut.blk hk (g' := gb223) (o := .cells #[.slice none 0 0, .slice none 0 0] 25 (0, 0)) (bv BK223.out) NB223_0.out (by simp)); have n3_ := am (KeepBut.blk hk (g' := gb235) (o := .cells #[u236000, u236001] 25 (0, 0)) (bv BK235.out) NB235_0.out (by simp)); have n4_ := am (KeepBut.trans (by repeat (first | (with_reducible first | exact HK.out | apply KeepBut.set_ | apply keep_drewN | apply keep_drew | apply keep_alloc | refine keep_far ?_ GW223.out _ | refine keep_far ?_ GW235.out _) | exact HK.out)) hk (.inl rfl)); have n5_ := am (hb); have n6_ := am (hi); clear HO_236000 HO_236001 BK223 BK235 HK HB HI0; revert n0_ n1_ n2_ n3_ n4_ n5_ n6_; intro HO_236000 HO_236001 BK223 BK235 HK HB HI0; (try clear hb); (try clear hb2); (try clear hk); (try clear hi)) | ((with_reducible refine gate_callee (f := 70) rfl ?_); refine goesL_ (some 34) rfl rfl Try.func70 (by kernel_rfl) rfl #[.pointer (some ⟨g, 0, none⟩), .int .i64 3] rfl (by (try simp only [List.map_toArray, List.map_cons, List.map_nil]); first | done | rfl | (simp only [List.length_drop, List.length_take]; rfl)) ?_; (with_reducible refine (spec_l20Rd_pick.calls kj5 g s0_0 t253 3 t254 t255 w0 _ ?side1 ?side2 A37.out).mono ?_); (case side1 => repeat (first | (with_reducible first | exact HI0.out | apply IsS80.alloc | apply IsS80.drewN | apply IsS80.drew | apply IsS80.set_1 | refine IsS80.far ?_ NB0_223.out _ | refine IsS80.far ?_ NB0_235.out _) | exact HI0.out)); (case side2 => repeat (first | (with_reducible first | exact HB.out | apply below_alloc | apply pw_below_drewN | apply below_drew1 | refine below_set ?_ (IsS80.ge HI0.out) | refine below_set ?_ GE223.out | refine below_set ?_ GE235.out) | exact HB.out)); rintro e w54 ⟨rfl, hi, hb, hk⟩; refine ⟨_, rfl, ?_⟩; have n0_ := am (Kd.N_mono (Kd.N_keep (Kd.N_mono (ok := fun k_ => (((w.heap.size ≤ k_)) ∧ (some k_ ≠ (u236001 : Value).ownBlock ∧ (k_ ≠ gb223 ∧ (k_ ≠ gb235 ∧ k_ ≠ g))))) (Kd.nv HO_236000.out) (fun k_ hk_ => (⟨hk_, hk_.2.2.2.2⟩ : _ ∧ k_ ≠ g))) hk (fun _ h => h.2)) (fun _ h => h.1)); have n1_ := am (Kd.N_mono (Kd.N_keep (Kd.N_mono (ok := fun k_ => (((w.heap.size ≤ k_)) ∧ (some k_ ≠ (u236000 : Value).ownBlock ∧ (k_ ≠ gb223 ∧ (k_ ≠ gb235 ∧ k_ ≠ g))))) (Kd.nv HO_236001.out) (fun k_ hk_ => (⟨hk_, hk_.2.2.2.2⟩ : _ ∧ k_ ≠ g))) hk (fun _ h => h.2)) (fun _ h => h.1)); have n2_ := am (KeepBut.blk hk (g' := gb223) (o := .cells #[.slice none 0 0, .slice none 0 0] 25 (0, 0)) (bv BK223.out) NB223_0.out (by simp)); have n3_ := am (KeepBut.blk hk (g' := gb235) (o := .cells #[u236000, u236001] 25 (0, 0)) (bv BK235.out) NB235_0.out (by simp)); have n4_ := am (KeepBut.trans (by repeat (first | (with_reducible first | exact HK.out | apply KeepBut.set_ | apply keep_drewN | apply keep_drew | apply keep_alloc | refine keep_far ?_ GW223.out _ | refine keep_far ?_ GW235.out _) | exact HK.out)) hk (.inl rfl)); have n5_ := am (hb); have n6_ := am (hi); clear HO_236000 HO_236001 BK223 BK235 HK HB HI0; revert n0_ n1_ n2_ n3_ n4_ n5_ n6_; intro HO_236000 HO_236001 BK223 BK235 HK HB HI0; (try clear hb); (try clear hb2); (try clear hk); (try clear hi); have hnb55 := NB235_223.out; have hnc55 := NB223_235.out; have hnb56 := NB235_0.out; have hnc56 := NB0_235.out; have hcz57_0 : w54.cell? ⟨gb235, 0, none⟩ = some (u236000) := (blk_cell BK235.out 0).trans rfl; have hcz57_1 : w54.cell? ⟨gb235, 1, none⟩ = some (u236001) := (blk_cell BK235.out 1).trans rfl; have hfz57_0 := blk_frozen BK235.out 0; have hfz57_1 := blk_frozen BK235.out 1) | ((with_reducible refine gate_dst (N := 47) rfl ?_); refine Kd.R_lit (Kd.int .i64) _ 3 ?hg (N := 47) ?hd (xs := ([6] : List Int)) (inner := [.int .i64 6]) (ok := fun _ => True) (okp := fun _ => True) ?hr ?hp (fun _ hk => hk) trivial (Below.refl _ _) (Nat.le_refl _) (by simp) ?_; (case hd => rfl); (case hg => rfl); (case hr => first | (go_simp; done) | (go_simp; rfl) | (obtain ⟨A_, c_, e_⟩ := Kd.R_slice HO261.out; rw [e_]; go_simp; done) | (obtain ⟨A_, c_, e_⟩ := Kd.R_slice HO261.out; rw [e_]; go_simp; rfl)); (case hp => exact (Reps.one (show Kd.M (Kd.int .i64) _ _ _ 6 [.int .i64 6] from rfl) (Reps.none _ _))); intro v260 w58 ho59 hb hg_ hnew_; clear hg_ hnew_; (first | rw [← Ny259.out] at ho59 | (simp only [Int.reduceToNat] at ho59; rw [← Ny259.out] at ho59)); have n0_ := am (Kd.N_elder' (Kd.nv HO_236000.out) (Kd.R_base ho59) hb); have n1_ := am (Kd.N_elder' (Kd.nv HO_236001.out) (Kd.R_base ho59) hb); have n2_ := am (Kd.R_lower (Kd.R_newM (M := fun k_ => (w.heap.size ≤ k_)) ho59 (keep_size (w := w) (g := g) (row := none) (by repeat (first | (with_reducible first | exact HK.out | apply KeepBut.set_ | apply keep_drewN | apply keep_drew | apply keep_alloc | refine keep_far ?_ GW223.out _ | refine keep_far ?_ GW235.out _) | exact HK.out))) (fun k_ h_ => h_)) (keep_size (w := w) (g := g) (row := none) (by repeat (first | (with_reducible first | exact HK.out | apply KeepBut.set_ | apply keep_drewN | apply keep_drew | apply keep_alloc | refine keep_far ?_ GW223.out _ | refine keep_far ?_ GW235.out _) | exact HK.out)))); have n3_ := am (blk_below (g := gb223) (o := .cells #[.slice none 0 0, .slice none 0 0] 25 (0, 0)) (bv BK223.out) hb); have n4_ := am (blk_below (g := gb235) (o := .cells #[u236000, u236001] 25 (0, 0)) (bv BK235.out) hb); have n5_ := am (IsS80.below (by repeat (first | (with_reducible first | exact HI0.out | apply IsS80.alloc | apply IsS80.drewN | apply IsS80.drew | apply IsS80.set_1 | refine IsS80.far ?_ NB0_223.out _ | refine IsS80.far ?_ NB0_235.out _) | exact HI0.out)) hb); have n6_ := am (KeepBut.trans (by repeat (first | (with_reducible first | exact HK.out | apply KeepBut.set_ | apply keep_drewN | apply keep_drew | apply keep_alloc | refine keep_far ?_ GW223.out _ | refine keep_far ?_ GW235.out _) | exact HK.out)) (KeepBut.of_below hb g none) (.inl rfl)); have n7_ := am (below_step (by repeat (first | (with_reducible first | exact HB.out | apply below_alloc | apply pw_below_drewN | apply below_drew1 | refine below_set ?_ (IsS80.ge HI0.out) | refine below_set ?_ GE223.out | refine below_set ?_ GE235.out) | exact HB.out)) hb); clear HO_236000 HO_236001 BK223 BK235 HI0 HK HB; revert n0_ n1_ n2_ n3_ n4_ n5_ n6_ n7_; intro HO_236000 HO_236001 HO261 BK223 BK235 HI0 HK HB; clear hb ho59; have p52 : 0 ≤ (0 : Int) := (by omega); have q52 : (0 : Int) < ((x236001_5.length : Int) : Int) := da; have qi52 : (0 < x236001_5.length) = True := eq_true (by omega); obtain ⟨go52, co52, eo52, gb52, gl52, cl52, HG52⟩ := Kd.N_form HO_236001.out (by omega); (first | cases eo52 | (injection eo52 with ea_ en_ ec_; (first | subst ea_ | (injection ea_ with ea_; subst ea_)); subst ec_; clear en_)); have GB52 := am gb52; have GG52 := am HG52; clear gb52 gl52 HG52; obtain ⟨ce52, hcl52, hM52, hcc52, hfr52⟩ := Kd.N_elem HO_236001.out [] (0 : Int) p52 q52; obtain ⟨ua52_0, uc52_0, rfl, ul52_0, ge52_0⟩ := Kd.FK_slice_open hM52; have hx52_0 := hcc52 0 _ rfl; have hf52_0 := hfr52 0; (try simp only [show ((Kd.slice 3 (Kd.int .i64))).sz = 1 from rfl, Nat.mul_one, Nat.add_zero] at hx52_0); (try simp only [show ((Kd.slice 3 (Kd.int .i64))).sz = 1 from rfl, Nat.mul_one, Nat.add_zero] at hf52_0); clear hcl52 hcc52 hfr52 hM52; (try rw [show ((0 : Int)).toNat = 0 from rfl] at hx52_0); (try simp only [Nat.reduceMul, Nat.zero_mul, Nat.zero_add, Nat.reduceAdd] at hx52_0); (try rw [show ((0 : Int)).toNat = 0 from rfl] at hf52_0); (try simp only [Nat.reduceMul, Nat.zero_mul, Nat.zero_add, Nat.reduceAdd] at hf52_0); replace p52 := eq_true p52; replace q52 := eq_true q52; have n_ := am (Kd.N_mono (ok' := (fun k_ => (w.heap.size ≤ k_) ∧ some k_ ≠ (u236000 : Value).ownBlock ∧ some k_ ≠ (v260 : Value).ownBlock ∧ k_ ≠ gb223 ∧ k_ ≠ gb235)) HO_236001.out (fun k_ hk => ⟨hk.1.1, ⟨hk.1.2.1, ⟨hk.2, ⟨hk.1.2.2.1, hk.1.2.2.2.1⟩⟩⟩⟩)); clear HO_236001; have HO_236001 := n_; clear n_; have HX60 := am (show Kd.N (Kd.slice 3 (Kd.int .i64)) 36 w58 w.heap.size (fun k_ => (w.heap.size ≤ k_) ∧ some k_ ≠ (u236000 : Value).ownBlock ∧ k_ ≠ gb223 ∧ k_ ≠ gb235) (.slice (some ⟨go52, 0, none⟩) x236001_5.length co52) x236001_5 from (by (with_reducible repeat (first | apply Kd.N_alloc | apply Kd.N_drewN | apply Kd.N_drew)); exact Kd.N_mono HO_236001.out (fun _ hk => ⟨hk.1, ⟨hk.2.1, ⟨hk.2.2.2.1, hk.2.2.2.2⟩⟩⟩))); obtain ⟨ce60, hcl60, hM60, hcc60, hfr60⟩ := Kd.N_elem HX60.out [] (0 : Int) (by omega) (by have h_ : (0 : Int) < ((x236001_5.length : Int) : Int) := da; first | exact h_ | (have e_ := (Kd.N_reads' HO_236001.out).1; omega) | simpa using h_); obtain ⟨ua60_0, uc60_0, rfl, ul60_0, ge60_0⟩ := Kd.FK_slice_open hM60; have HP60 := Kd.N_seg HX60.out (0 : Int) (by omega) (by have h_ : (0 : Int) < ((x236001_5.length : Int) : Int) := da; first | exact h_ | (have e_ := (Kd.N_reads' HO_236001.out).1; omega) | simpa using h_) (seg := [v260]) (j := 0) hcl60 hcc60 (show 1 ≤ 1 from by decide) (x' := y259) (by obtain ⟨A_, c_, e0_⟩ := Kd.R_slice HO261.out; have h_ := (Kd.R_mono (ok' := (fun k_ => ((fun k_ => (w.heap.size ≤ k_) ∧ some k_ ≠ (u236000 : Value).ownBlock ∧ k_ ≠ gb223 ∧ k_ ≠ gb235)) k_ ∧ k_ ≠ go52)) (Kd.R_types (Kd.R_types (Kd.R_apart' (Kd.R_apart' (HO261.out) (Kd.N_typed HO_236000.out) (by decide)) (Kd.N_typed HO_236001.out) (by decide)) BK223.out (by decide)) BK235.out (by decide)) (fun k_ hk => ⟨⟨hk.1.1.1.1.1, ⟨hk.1.1.1.2, ⟨hk.1.2, hk.2⟩⟩⟩, fun e_ => (hk.1.1.2) (by rw [e_]; rfl)⟩)); rw [e0_] at h_ ⊢; exact Kd.FK_slice_mk (Kd.R_reads' h_).2.1 (Kd.R_F h_)) (fun _ hk => hk); have hx60_0 := hcc60 0 _ rfl; (try simp only [show ((Kd.slice 3 (Kd.int .i64))).sz = 1 from rfl, Nat.mul_one, Nat.add_zero] at hx60_0); (try rw [show ((0 : Int)).toNat = 0 from rfl] at hx60_0); (try simp only [Nat.reduceMul, Nat.zero_mul, Nat.zero_add, Nat.reduceAdd] at hx60_0); have hf60_0 := hfr60 0; (try simp only [show ((Kd.slice 3 (Kd.int .i64))).sz = 1 from rfl, Nat.mul_one, Nat.add_zero] at hf60_0); (try rw [show ((0 : Int)).toNat = 0 from rfl] at hf60_0); (try simp only [Nat.reduceMul, Nat.zero_mul, Nat.zero_add, Nat.reduceAdd] at hf60_0); clear hcl60 hcc60 hfr60 hM60; (try simp only [show ((Kd.slice 3 (Kd.int .i64))).sz = 1 from rfl, Nat.mul_one, Nat.add_zero] at HP60); (try simp only [show ((Kd.slice 3 (Kd.int .i64))).sz = 1 from rfl, Nat.mul_one, Nat.add_zero] at HP60)) | ((with_reducible refine gate_store (t := 36) (p := 48) rfl ?_); refine store_event (t := 36) (p := 48) (v := ?vo_w61) (w1 := (w58.setCell ⟨go52, 0, none⟩ (v260))) ?hg ?ho ?hn ?hr ?_; (case ho => rfl); (case hg => rfl); (case hn => rfl); (case hr => first | (go_simp; done) | (go_simp; rfl) | (obtain ⟨A_, c_, e_⟩ := Kd.R_slice HO261.out; rw [e_]; go_simp; done) | (obtain ⟨A_, c_, e_⟩ := Kd.R_slice HO261.out; rw [e_]; go_simp; rfl)); intro w61 hw; have hg : w58.grownBy w61 (some go52) := (by rw [hw]; exact HP60.2); have hp_ : Kd.N (Kd.slice 3 (Kd.int .i64)) 36 w61 w.heap.size (fun k_ => (w.heap.size ≤ k_) ∧ some k_ ≠ (u236000 : Value).ownBlock ∧ k_ ≠ gb223 ∧ k_ ≠ gb235) (.slice (some ⟨go52, 0, none⟩) x236001_5.length co52) y262 := (by rw [hw, Ny262.out]; exact HP60.1); clear HP60; have n0_ := am (Kd.N_afterv (v := (.slice (some ⟨go52, 0, none⟩) x236001_5.length co52)) (v1 := (.slice (some ⟨go52, 0, none⟩) x236001_5.length co52)) (ok := (fun k_ => (w.heap.size ≤ k_) ∧ some k_ ≠ (v260 : Value).ownBlock ∧ k_ ≠ gb223 ∧ k_ ≠ gb235 ∧ k_ ≠ g)) (by (with_reducible repeat (first | apply Kd.N_alloc | apply Kd.N_drewN | apply Kd.N_drew)); exact Kd.N_mono HO_236000.out (fun _ hk => ⟨⟨hk.1.1, ⟨hk.2, ⟨hk.1.2.2.1, ⟨hk.1.2.2.2.1, hk.1.2.2.2.2⟩⟩⟩⟩, hk.1.2.1⟩)) hg (.inl rfl)); have n1_ := am (hp_); have n2_ := am (blk_grown (g := gb223) (o := .cells #[.slice none 0 0, .slice none 0 0] 25 (0, 0)) (bv BK223.out) hg (Kd.N_ne HO_236001.out BK223.out (by decide))); have n3_ := am (blk_grown (g := gb235) (o := .cells #[u236000, .slice (some ⟨go52, 0, none⟩) x236001_5.length co52] 25 (0, 0)) (bv BK235.out) hg (Kd.N_ne HO_236001.out BK235.out (by decide))); have n4_ := am (IsS80.grown (by repeat (first | (with_reducible first | exact HI0.out | apply IsS80.alloc | apply IsS80.drewN | apply IsS80.drew | apply IsS80.set_1 | refine IsS80.far ?_ NB0_223.out _ | refine IsS80.far ?_ NB0_235.out _) | exact HI0.out)) hg (IsS80.own_neN HI0.out HO_236001.out (by decide))); have n5_ := am ((by rw [hw]; exact below_set (HB.out) (Nat.le_trans HL.out GB52.out) : Below w0.heap.size w0 w61)); have n6_ := am (KeepBut.trans (by repeat (first | (with_reducible first | exact HK.out | apply KeepBut.set_ | apply keep_drewN | apply keep_drew | apply keep_alloc | refine keep_far ?_ GW223.out _ | refine keep_far ?_ GW235.out _) | exact HK.out)) (KeepBut.of_grown hg g) (Kd.N_base2 HO_236001.out)); clear HO_236000 HO_236001 BK223 BK235 HI0 HB HK HO261; revert n0_ n1_ n2_ n3_ n4_ n5_ n6_; intro HO_236000 HO_236001 BK223 BK235 HI0 HB HK; clear hg hw hp_; have hcz62_0 : w61.cell? ⟨gb235, 0, none⟩ = some (u236000) := (blk_cell BK235.out 0).trans rfl; have hcz62_1 : w61.cell? ⟨gb235, 1, none⟩ = some (.slice (some ⟨go52, 0, none⟩) x236001_5.length co52) := (blk_cell BK235.out 1).trans rfl; have hfz62_0 := blk_frozen BK235.out 0; have hfz62_1 := blk_frozen BK235.out 1; obtain ⟨Ao63, co63, eo63⟩ := Kd.N_slice HO_236000.out; subst eo63; have hnb64 := NB223_0.out; have hnc64 := NB0_223.out; have hcz65_0 : w61.cell? ⟨gb223, 0, none⟩ = some (.slice none 0 0) := (blk_cell BK223.out 0).trans rfl; have hcz65_1 : w61.cell? ⟨gb223, 1, none⟩ = some (.slice none 0 0) := (blk_cell BK223.out 1).trans rfl; have hfz65_0 := blk_frozen BK223.out 0; have hfz65_1 := blk_frozen BK223.out 1))
      refine bodyPost_ret (results_cell_row rfl _ _ gb223 25 #[.slice Ao63 x236000_5.length co63, .slice (some ⟨go52, 0, none⟩) x236001_5.length co52] (0, 0) _ rfl (by (with_reducible repeat (first | refine blk_drewN ?_ _ | refine blk_drew ?_ | refine blk_alloc ?_ _)); refine blk_put (cs := #[.slice Ao63 x236000_5.length co63, .slice none 0 0]) ?_ 1 _ rfl; (with_reducible repeat (first | refine blk_drewN ?_ _ | refine blk_drew ?_ | refine blk_alloc ?_ _)); refine blk_put (cs := #[.slice none 0 0, .slice none 0 0]) ?_ 0 _ rfl; (with_reducible repeat (first | refine blk_drewN ?_ _ | refine blk_drew ?_ | refine blk_alloc ?_ _)); exact BK223.out) Try.underlying25 rfl (by kernel_rfl)) rfl ?_
      exact ⟨_, _, rfl, by (with_reducible repeat (first | apply Kd.N_alloc | apply Kd.N_drewN | apply Kd.N_drew)); exact Kd.N_mono (Kd.N_far (p := ⟨gb223, 1, none⟩) (Kd.N_far (p := ⟨gb223, 0, none⟩) (Kd.N_mono HO_236000.out (fun k_ hk => (⟨hk, hk.1.2.2.1⟩ : _ ∧ k_ ≠ gb223))) (fun _ hk => hk.2) (.slice Ao63 x236000_5.length co63)) (fun _ hk => hk.2) (.slice (some ⟨go52, 0, none⟩) x236001_5.length co52)) (fun _ hk => ⟨hk.1.1.1, hk.1.2⟩), by (with_reducible repeat (first | apply Kd.N_alloc | apply Kd.N_drewN | apply Kd.N_drew)); exact Kd.N_mono (Kd.N_far (p := ⟨gb223, 1, none⟩) (Kd.N_far (p := ⟨gb223, 0, none⟩) (Kd.N_mono HO_236001.out (fun k_ hk => (⟨hk, hk.2.2.1⟩ : _ ∧ k_ ≠ gb223))) (fun _ hk => hk.2) (.slice Ao63 x236000_5.length co63)) (fun _ hk => hk.2) (.slice (some ⟨go52, 0, none⟩) x236001_5.length co52)) (fun _ hk => ⟨hk.1.1, hk.1.2.1⟩), by repeat (first | (with_reducible first | exact HI0.out | apply IsS80.alloc | apply IsS80.drewN | apply IsS80.drew | apply IsS80.set_1 | refine IsS80.far ?_ NB0_223.out _ | refine IsS80.far ?_ NB0_235.out _) | exact HI0.out), by repeat (first | (with_reducible first | exact HB.out | apply below_alloc | apply pw_below_drewN | apply below_drew1 | refine below_set ?_ (IsS80.ge HI0.out) | refine below_set ?_ GE223.out | refine below_set ?_ GE235.out) | exact HB.out), by repeat (first | (with_reducible first | exact HK.out | apply KeepBut.set_ | apply keep_drewN | apply keep_drew | apply keep_alloc | refine keep_far ?_ GW223.out _ | refine keep_far ?_ GW235.out _) | exact HK.out)⟩
     ·rw [if_neg c50] at H
      have c50b0 : (t254 == 1) = false := beq_eq_false_iff_ne.mpr c50
      have c50b1 : (t254 != 1) = true := bne_iff_ne.mpr c50
      obtain ⟨y263, hy263⟩ : ∃ y_ : List Int, y_ = (([0] : List Int)) := ⟨_, rfl⟩
      replace H : (if 0 < (x236000_5.length : Int) then (some ((x236000_5.set (0 : Int).toNat y263), x236001_5, t255)) else (none)) = some (r1, r2, r3) := by first | (rw [hy263]; with_reducible exact H) | (have H2_ := (Option.bind_some _ _).symm.trans H; rw [hy263]; with_reducible exact H2_) | (have H2_ := (Option.bind_some _ _).symm.trans H; with_reducible exact H2_) | with_reducible exact H | (rw [hy263]; exact H) | exact H
      have Ny263 := am hy263
      clear hy263
      have q_ := ifs H
      clear H
      obtain ⟨c66, H⟩ := q_
      have c66b0 : decide (0 < (x236000_5.length : Int)) = true := decide_eq_true c66
      have c66b1 : decide (0 < x236000_5.length) = true := decide_eq_true (by omega)
      clear c66
      obtain ⟨y266, hy266⟩ : ∃ y_ : List (List Int), y_ = (x236000_5.set (0 : Int).toNat y263) := ⟨_, rfl⟩
      replace H : (some (y266, x236001_5, t255)) = some (r1, r2, r3) := by first | (rw [hy266]; with_reducible exact H) | (have H2_ := (Option.bind_some _ _).symm.trans H; rw [hy266]; with_reducible exact H2_) | (have H2_ := (Option.bind_some _ _).symm.trans H; with_reducible exact H2_) | with_reducible exact H | (rw [hy266]; exact H) | exact H
      have Ny266 := am hy266
      clear hy266
      simp only [Option.some.injEq, Prod.mk.injEq] at H
      obtain ⟨rfl, rfl, rfl⟩ := H
      go_wp2_with (first | ((with_reducible refine gate_callee (f := 76) rfl ?_); refine goesL_ (some 32) rfl rfl Try.func76 (by kernel_rfl) rfl #[.pointer (some ⟨g, 0, none⟩), .int .i64 a1] rfl (by (try simp only [List.map_toArray, List.map_cons, List.map_nil]); first | done | rfl | (simp only [List.length_drop, List.length_take]; rfl)) ?_; (with_reducible refine (spec_l20Rd_odd.calls kj5 g s0_0 x1001_5 a1 true t253 w0 _ ?side1 ?side2 A35.out).mono ?_); (case side1 => repeat (first | (with_reducible first | exact HI0.out | apply IsS80.alloc | apply IsS80.drewN | apply IsS80.drew | apply IsS80.set_1 | refine IsS80.far ?_ NB0_223.out _ | refine IsS80.far ?_ NB0_235.out _) | exact HI0.out)); (case side2 => repeat (first | (with_reducible first | exact HB.out | apply below_alloc | apply pw_below_drewN | apply below_drew1 | refine below_set ?_ (IsS80.ge HI0.out) | refine below_set ?_ GE223.out | refine below_set ?_ GE235.out) | exact HB.out)); rintro e w68 ⟨rfl, hi, hb, hk⟩; refine ⟨_, rfl, ?_⟩; have n0_ := am (Kd.N_mono (Kd.N_keep (Kd.N_mono (ok := fun k_ => (((w.heap.size ≤ k_)) ∧ (some k_ ≠ (u236001 : Value).ownBlock ∧ (k_ ≠ gb223 ∧ (k_ ≠ gb235 ∧ k_ ≠ g))))) (Kd.nv HO_236000.out) (fun k_ hk_ => (⟨hk_, hk_.2.2.2.2⟩ : _ ∧ k_ ≠ g))) hk (fun _ h => h.2)) (fun _ h => h.1)); have n1_ := am (Kd.N_mono (Kd.N_keep (Kd.N_mono (ok := fun k_ => (((w.heap.size ≤ k_)) ∧ (some k_ ≠ (u236000 : Value).ownBlock ∧ (k_ ≠ gb223 ∧ (k_ ≠ gb235 ∧ k_ ≠ g))))) (Kd.nv HO_236001.out) (fun k_ hk_ => (⟨hk_, hk_.2.2.2.2⟩ : _ ∧ k_ ≠ g))) hk (fun _ h => h.2)) (fun _ h => h.1)); have n2_ := am (KeepBut.blk hk (g' := gb223) (o := .cells #[.slice none 0 0, .slice none 0 0] 25 (0, 0)) (bv BK223.out) NB223_0.out (by simp)); have n3_ := am (KeepBut.blk hk (g' := gb235) (o := .cells #[u236000, u236001] 25 (0, 0)) (bv BK235.out) NB235_0.out (by simp)); have n4_ := am (KeepBut.trans (by repeat (first | (with_reducible first | exact HK.out | apply KeepBut.set_ | apply keep_drewN | apply keep_drew | apply keep_alloc | refine keep_far ?_ GW223.out _ | refine keep_far ?_ GW235.out _) | exact HK.out)) hk (.inl rfl)); have n5_ := am (hb); have n6_ := am (hi); clear HO_236000 HO_236001 BK223 BK235 HK HB HI0; revert n0_ n1_ n2_ n3_ n4_ n5_ n6_; intro HO_236000 HO_236001 BK223 BK235 HK HB HI0; (try clear hb); (try clear hb2); (try clear hk); (try clear hi)) | ((with_reducible refine gate_callee (f := 70) rfl ?_); refine goesL_ (some 34) rfl rfl Try.func70 (by kernel_rfl) rfl #[.pointer (some ⟨g, 0, none⟩), .int .i64 3] rfl (by (try simp only [List.map_toArray, List.map_cons, List.map_nil]); first | done | rfl | (simp only [List.length_drop, List.length_take]; rfl)) ?_; (with_reducible refine (spec_l20Rd_pick.calls kj5 g s0_0 t253 3 t254 t255 w0 _ ?side1 ?side2 A37.out).mono ?_); (case side1 => repeat (first | (with_reducible first | exact HI0.out | apply IsS80.alloc | apply IsS80.drewN | apply IsS80.drew | apply IsS80.set_1 | refine IsS80.far ?_ NB0_223.out _ | refine IsS80.far ?_ NB0_235.out _) | exact HI0.out)); (case side2 => repeat (first | (with_reducible first | exact HB.out | apply below_alloc | apply pw_below_drewN | apply below_drew1 | refine below_set ?_ (IsS80.ge HI0.out) | refine below_set ?_ GE223.out | refine below_set ?_ GE235.out) | exact HB.out)); rintro e w69 ⟨rfl, hi, hb, hk⟩; refine ⟨_, rfl, ?_⟩; have n0_ := am (Kd.N_mono (Kd.N_keep (Kd.N_mono (ok := fun k_ => (((w.heap.size ≤ k_)) ∧ (some k_ ≠ (u236001 : Value).ownBlock ∧ (k_ ≠ gb223 ∧ (k_ ≠ gb235 ∧ k_ ≠ g))))) (Kd.nv HO_236000.out) (fun k_ hk_ => (⟨hk_, hk_.2.2.2.2⟩ : _ ∧ k_ ≠ g))) hk (fun _ h => h.2)) (fun _ h => h.1)); have n1_ := am (Kd.N_mono (Kd.N_keep (Kd.N_mono (ok := fun k_ => (((w.heap.size ≤ k_)) ∧ (some k_ ≠ (u236000 : Value).ownBlock ∧ (k_ ≠ gb223 ∧ (k_ ≠ gb235 ∧ k_ ≠ g))))) (Kd.nv HO_236001.out) (fun k_ hk_ => (⟨hk_, hk_.2.2.2.2⟩ : _ ∧ k_ ≠ g))) hk (fun _ h => h.2)) (fun _ h => h.1)); have n2_ := am (KeepBut.blk hk (g' := gb223) (o := .cells #[.slice none 0 0, .slice none 0 0] 25 (0, 0)) (bv BK223.out) NB223_0.out (by simp)); have n3_ := am (KeepBut.blk hk (g' := gb235) (o := .cells #[u236000, u236001] 25 (0, 0)) (bv BK235.out) NB235_0.out (by simp)); have n4_ := am (KeepBut.trans (by repeat (first | (with_reducible first | exact HK.out | apply KeepBut.set_ | apply keep_drewN | apply keep_drew | apply keep_alloc | refine keep_far ?_ GW223.out _ | refine keep_far ?_ GW235.out _) | exact HK.out)) hk (.inl rfl)); have n5_ := am (hb); have n6_ := am (hi); clear HO_236000 HO_236001 BK223 BK235 HK HB HI0; revert n0_ n1_ n2_ n3_ n4_ n5_ n6_; intro HO_236000 HO_236001 BK223 BK235 HK HB HI0; (try clear hb); (try clear hb2); (try clear hk); (try clear hi); have hnb70 := NB235_223.out; have hnc70 := NB223_235.out; have hnb71 := NB235_0.out; have hnc71 := NB0_235.out; have hcz72_0 : w69.cell? ⟨gb235, 0, none⟩ = some (u236000) := (blk_cell BK235.out 0).trans rfl; have hcz72_1 : w69.cell? ⟨gb235, 1, none⟩ = some (u236001) := (blk_cell BK235.out 1).trans rfl; have hfz72_0 := blk_frozen BK235.out 0; have hfz72_1 := blk_frozen BK235.out 1) | ((with_reducible refine gate_dst (N := 37) rfl ?_); refine Kd.R_lit (Kd.int .i64) _ 3 ?hg (N := 37) ?hd (xs := ([0] : List Int)) (inner := [.int .i64 0]) (ok := fun _ => True) (okp := fun _ => True) ?hr ?hp (fun _ hk => hk) trivial (Below.refl _ _) (Nat.le_refl _) (by simp) ?_; (case hd => rfl); (case hg => rfl); (case hr => first | (go_simp; done) | (go_simp; rfl) | (obtain ⟨A_, c_, e_⟩ := Kd.R_slice HO265.out; rw [e_]; go_simp; done) | (obtain ⟨A_, c_, e_⟩ := Kd.R_slice HO265.out; rw [e_]; go_simp; rfl)); (case hp => exact (Reps.one (show Kd.M (Kd.int .i64) _ _ _ 0 [.int .i64 0] from rfl) (Reps.none _ _))); intro v264 w73 ho74 hb hg_ hnew_; clear hg_ hnew_; (first | rw [← Ny263.out] at ho74 | (simp only [Int.reduceToNat] at ho74; rw [← Ny263.out] at ho74)); have n0_ := am (Kd.N_elder' (Kd.nv HO_236000.out) (Kd.R_base ho74) hb); have n1_ := am (Kd.N_elder' (Kd.nv HO_236001.out) (Kd.R_base ho74) hb); have n2_ := am (Kd.R_lower (Kd.R_newM (M := fun k_ => (w.heap.size ≤ k_)) ho74 (keep_size (w := w) (g := g) (row := none) (by repeat (first | (with_reducible first | exact HK.out | apply KeepBut.set_ | apply keep_drewN | apply keep_drew | apply keep_alloc | refine keep_far ?_ GW223.out _ | refine keep_far ?_ GW235.out _) | exact HK.out))) (fun k_ h_ => h_)) (keep_size (w := w) (g := g) (row := none) (by repeat (first | (with_reducible first | exact HK.out | apply KeepBut.set_ | apply keep_drewN | apply keep_drew | apply keep_alloc | refine keep_far ?_ GW223.out _ | refine keep_far ?_ GW235.out _) | exact HK.out)))); have n3_ := am (blk_below (g := gb223) (o := .cells #[.slice none 0 0, .slice none 0 0] 25 (0, 0)) (bv BK223.out) hb); have n4_ := am (blk_below (g := gb235) (o := .cells #[u236000, u236001] 25 (0, 0)) (bv BK235.out) hb); have n5_ := am (IsS80.below (by repeat (first | (with_reducible first | exact HI0.out | apply IsS80.alloc | apply IsS80.drewN | apply IsS80.drew | apply IsS80.set_1 | refine IsS80.far ?_ NB0_223.out _ | refine IsS80.far ?_ NB0_235.out _) | exact HI0.out)) hb); have n6_ := am (KeepBut.trans (by repeat (first | (with_reducible first | exact HK.out | apply KeepBut.set_ | apply keep_drewN | apply keep_drew | apply keep_alloc | refine keep_far ?_ GW223.out _ | refine keep_far ?_ GW235.out _) | exact HK.out)) (KeepBut.of_below hb g none) (.inl rfl)); have n7_ := am (below_step (by repeat (first | (with_reducible first | exact HB.out | apply below_alloc | apply pw_below_drewN | apply below_drew1 | refine below_set ?_ (IsS80.ge HI0.out) | refine below_set ?_ GE223.out | refine below_set ?_ GE235.out) | exact HB.out)) hb); clear HO_236000 HO_236001 BK223 BK235 HI0 HK HB; revert n0_ n1_ n2_ n3_ n4_ n5_ n6_ n7_; intro HO_236000 HO_236001 HO265 BK223 BK235 HI0 HK HB; clear hb ho74; have p67 : 0 ≤ (0 : Int) := (by omega); have q67 : (0 : Int) < ((x236000_5.length : Int) : Int) := da; have qi67 : (0 < x236000_5.length) = True := eq_true (by omega); obtain ⟨go67, co67, eo67, gb67, gl67, cl67, HG67⟩ := Kd.N_form HO_236000.out (by omega); (first | cases eo67 | (injection eo67 with ea_ en_ ec_; (first | subst ea_ | (injection ea_ with ea_; subst ea_)); subst ec_; clear en_)); have GB67 := am gb67; have GG67 := am HG67; clear gb67 gl67 HG67; obtain ⟨ce67, hcl67, hM67, hcc67, hfr67⟩ := Kd.N_elem HO_236000.out [] (0 : Int) p67 q67; obtain ⟨ua67_0, uc67_0, rfl, ul67_0, ge67_0⟩ := Kd.FK_slice_open hM67; have hx67_0 := hcc67 0 _ rfl; have hf67_0 := hfr67 0; (try simp only [show ((Kd.slice 3 (Kd.int .i64))).sz = 1 from rfl, Nat.mul_one, Nat.add_zero] at hx67_0); (try simp only [show ((Kd.slice 3 (Kd.int .i64))).sz = 1 from rfl, Nat.mul_one, Nat.add_zero] at hf67_0); clear hcl67 hcc67 hfr67 hM67; (try rw [show ((0 : Int)).toNat = 0 from rfl] at hx67_0); (try simp only [Nat.reduceMul, Nat.zero_mul, Nat.zero_add, Nat.reduceAdd] at hx67_0); (try rw [show ((0 : Int)).toNat = 0 from rfl] at hf67_0); (try simp only [Nat.reduceMul, Nat.zero_mul, Nat.zero_add, Nat.reduceAdd] at hf67_0); replace p67 := eq_true p67; replace q67 := eq_true q67; have n_ := am (Kd.N_mono (ok' := (fun k_ => (w.heap.size ≤ k_) ∧ some k_ ≠ (u236001 : Value).ownBlock ∧ some k_ ≠ (v264 : Value).ownBlock ∧ k_ ≠ gb223 ∧ k_ ≠ gb235)) HO_236000.out (fun k_ hk => ⟨hk.1.1, ⟨hk.1.2.1, ⟨hk.2, ⟨hk.1.2.2.1, hk.1.2.2.2.1⟩⟩⟩⟩)); clear HO_236000; have HO_236000 := n_; clear n_; have HX75 := am (show Kd.N (Kd.slice 3 (Kd.int .i64)) 36 w73 w.heap.size (fun k_ => (w.heap.size ≤ k_) ∧ some k_ ≠ (u236001 : Value).ownBlock ∧ k_ ≠ gb223 ∧ k_ ≠ gb235) (.slice (some ⟨go67, 0, none⟩) x236000_5.length co67) x236000_5 from (by (with_reducible repeat (first | apply Kd.N_alloc | apply Kd.N_drewN | apply Kd.N_drew)); exact Kd.N_mono HO_236000.out (fun _ hk => ⟨hk.1, ⟨hk.2.1, ⟨hk.2.2.2.1, hk.2.2.2.2⟩⟩⟩))); obtain ⟨ce75, hcl75, hM75, hcc75, hfr75⟩ := Kd.N_elem HX75.out [] (0 : Int) (by omega) (by have h_ : (0 : Int) < ((x236000_5.length : Int) : Int) := da; first | exact h_ | (have e_ := (Kd.N_reads' HO_236000.out).1; omega) | simpa using h_); obtain ⟨ua75_0, uc75_0, rfl, ul75_0, ge75_0⟩ := Kd.FK_slice_open hM75; have HP75 := Kd.N_seg HX75.out (0 : Int) (by omega) (by have h_ : (0 : Int) < ((x236000_5.length : Int) : Int) := da; first | exact h_ | (have e_ := (Kd.N_reads' HO_236000.out).1; omega) | simpa using h_) (seg := [v264]) (j := 0) hcl75 hcc75 (show 1 ≤ 1 from by decide) (x' := y263) (by obtain ⟨A_, c_, e0_⟩ := Kd.R_slice HO265.out; have h_ := (Kd.R_mono (ok' := (fun k_ => ((fun k_ => (w.heap.size ≤ k_) ∧ some k_ ≠ (u236001 : Value).ownBlock ∧ k_ ≠ gb223 ∧ k_ ≠ gb235)) k_ ∧ k_ ≠ go67)) (Kd.R_types (Kd.R_types (Kd.R_apart' (Kd.R_apart' (HO265.out) (Kd.N_typed HO_236001.out) (by decide)) (Kd.N_typed HO_236000.out) (by decide)) BK223.out (by decide)) BK235.out (by decide)) (fun k_ hk => ⟨⟨hk.1.1.1.1.1, ⟨hk.1.1.1.2, ⟨hk.1.2, hk.2⟩⟩⟩, fun e_ => (hk.1.1.2) (by rw [e_]; rfl)⟩)); rw [e0_] at h_ ⊢; exact Kd.FK_slice_mk (Kd.R_reads' h_).2.1 (Kd.R_F h_)) (fun _ hk => hk); have hx75_0 := hcc75 0 _ rfl; (try simp only [show ((Kd.slice 3 (Kd.int .i64))).sz = 1 from rfl, Nat.mul_one, Nat.add_zero] at hx75_0); (try rw [show ((0 : Int)).toNat = 0 from rfl] at hx75_0); (try simp only [Nat.reduceMul, Nat.zero_mul, Nat.zero_add, Nat.reduceAdd] at hx75_0); have hf75_0 := hfr75 0; (try simp only [show ((Kd.slice 3 (Kd.int .i64))).sz = 1 from rfl, Nat.mul_one, Nat.add_zero] at hf75_0); (try rw [show ((0 : Int)).toNat = 0 from rfl] at hf75_0); (try simp only [Nat.reduceMul, Nat.zero_mul, Nat.zero_add, Nat.reduceAdd] at hf75_0); clear hcl75 hcc75 hfr75 hM75; (try simp only [show ((Kd.slice 3 (Kd.int .i64))).sz = 1 from rfl, Nat.mul_one, Nat.add_zero] at HP75); (try simp only [show ((Kd.slice 3 (Kd.int .i64))).sz = 1 from rfl, Nat.mul_one, Nat.add_zero] at HP75)) | ((with_reducible refine gate_store (t := 36) (p := 38) rfl ?_); refine store_event (t := 36) (p := 38) (v := ?vo_w76) (w1 := (w73.setCell ⟨go67, 0, none⟩ (v264))) ?hg ?ho ?hn ?hr ?_; (case ho => rfl); (case hg => rfl); (case hn => rfl); (case hr => first | (go_simp; done) | (go_simp; rfl) | (obtain ⟨A_, c_, e_⟩ := Kd.R_slice HO265.out; rw [e_]; go_simp; done) | (obtain ⟨A_, c_, e_⟩ := Kd.R_slice HO265.out; rw [e_]; go_simp; rfl)); intro w76 hw; have hg : w73.grownBy w76 (some go67) := (by rw [hw]; exact HP75.2); have hp_ : Kd.N (Kd.slice 3 (Kd.int .i64)) 36 w76 w.heap.size (fun k_ => (w.heap.size ≤ k_) ∧ some k_ ≠ (u236001 : Value).ownBlock ∧ k_ ≠ gb223 ∧ k_ ≠ gb235) (.slice (some ⟨go67, 0, none⟩) x236000_5.length co67) y266 := (by rw [hw, Ny266.out]; exact HP75.1); clear HP75; have n0_ := am (hp_); have n1_ := am (Kd.N_afterv (v := (.slice (some ⟨go67, 0, none⟩) x236000_5.length co67)) (v1 := (.slice (some ⟨go67, 0, none⟩) x236000_5.length co67)) (ok := (fun k_ => (w.heap.size ≤ k_) ∧ some k_ ≠ (v264 : Value).ownBlock ∧ k_ ≠ gb223 ∧ k_ ≠ gb235 ∧ k_ ≠ g)) (by (with_reducible repeat (first | apply Kd.N_alloc | apply Kd.N_drewN | apply Kd.N_drew)); exact Kd.N_mono HO_236001.out (fun _ hk => ⟨⟨hk.1.1, ⟨hk.2, ⟨hk.1.2.2.1, ⟨hk.1.2.2.2.1, hk.1.2.2.2.2⟩⟩⟩⟩, hk.1.2.1⟩)) hg (.inl rfl)); have n2_ := am (blk_grown (g := gb223) (o := .cells #[.slice none 0 0, .slice none 0 0] 25 (0, 0)) (bv BK223.out) hg (Kd.N_ne HO_236000.out BK223.out (by decide))); have n3_ := am (blk_grown (g := gb235) (o := .cells #[.slice (some ⟨go67, 0, none⟩) x236000_5.length co67, u236001] 25 (0, 0)) (bv BK235.out) hg (Kd.N_ne HO_236000.out BK235.out (by decide))); have n4_ := am (IsS80.grown (by repeat (first | (with_reducible first | exact HI0.out | apply IsS80.alloc | apply IsS80.drewN | apply IsS80.drew | apply IsS80.set_1 | refine IsS80.far ?_ NB0_223.out _ | refine IsS80.far ?_ NB0_235.out _) | exact HI0.out)) hg (IsS80.own_neN HI0.out HO_236000.out (by decide))); have n5_ := am ((by rw [hw]; exact below_set (HB.out) (Nat.le_trans HL.out GB67.out) : Below w0.heap.size w0 w76)); have n6_ := am (KeepBut.trans (by repeat (first | (with_reducible first | exact HK.out | apply KeepBut.set_ | apply keep_drewN | apply keep_drew | apply keep_alloc | refine keep_far ?_ GW223.out _ | refine keep_far ?_ GW235.out _) | exact HK.out)) (KeepBut.of_grown hg g) (Kd.N_base2 HO_236000.out)); clear HO_236000 HO_236001 BK223 BK235 HI0 HB HK HO265; revert n0_ n1_ n2_ n3_ n4_ n5_ n6_; intro HO_236000 HO_236001 BK223 BK235 HI0 HB HK; clear hg hw hp_; have hcz77_0 : w76.cell? ⟨gb235, 0, none⟩ = some (.slice (some ⟨go67, 0, none⟩) x236000_5.length co67) := (blk_cell BK235.out 0).trans rfl; have hcz77_1 : w76.cell? ⟨gb235, 1, none⟩ = some (u236001) := (blk_cell BK235.out 1).trans rfl; have hfz77_0 := blk_frozen BK235.out 0; have hfz77_1 := blk_frozen BK235.out 1; have hnb78 := NB223_0.out; have hnc78 := NB0_223.out; have hcz79_0 : w76.cell? ⟨gb223, 0, none⟩ = some (.slice none 0 0) := (blk_cell BK223.out 0).trans rfl; have hcz79_1 : w76.cell? ⟨gb223, 1, none⟩ = some (.slice none 0 0) := (blk_cell BK223.out 1).trans rfl; have hfz79_0 := blk_frozen BK223.out 0; have hfz79_1 := blk_frozen BK223.out 1; obtain ⟨Ao80, co80, eo80⟩ := Kd.N_slice HO_236001.out; subst eo80))
      refine bodyPost_ret (results_cell_row rfl _ _ gb223 25 #[.slice (some ⟨go67, 0, none⟩) x236000_5.length co67, .slice Ao80 x236001_5.length co80] (0, 0) _ rfl (by (with_reducible repeat (first | refine blk_drewN ?_ _ | refine blk_drew ?_ | refine blk_alloc ?_ _)); refine blk_put (cs := #[.slice (some ⟨go67, 0, none⟩) x236000_5.length co67, .slice none 0 0]) ?_ 1 _ rfl; (with_reducible repeat (first | refine blk_drewN ?_ _ | refine blk_drew ?_ | refine blk_alloc ?_ _)); refine blk_put (cs := #[.slice none 0 0, .slice none 0 0]) ?_ 0 _ rfl; (with_reducible repeat (first | refine blk_drewN ?_ _ | refine blk_drew ?_ | refine blk_alloc ?_ _)); exact BK223.out) Try.underlying25 rfl (by kernel_rfl)) rfl ?_
      exact ⟨_, _, rfl, by (with_reducible repeat (first | apply Kd.N_alloc | apply Kd.N_drewN | apply Kd.N_drew)); exact Kd.N_mono (Kd.N_far (p := ⟨gb223, 1, none⟩) (Kd.N_far (p := ⟨gb223, 0, none⟩) (Kd.N_mono HO_236000.out (fun k_ hk => (⟨hk, hk.2.2.1⟩ : _ ∧ k_ ≠ gb223))) (fun _ hk => hk.2) (.slice (some ⟨go67, 0, none⟩) x236000_5.length co67)) (fun _ hk => hk.2) (.slice Ao80 x236001_5.length co80)) (fun _ hk => ⟨hk.1.1, hk.1.2.1⟩), by (with_reducible repeat (first | apply Kd.N_alloc | apply Kd.N_drewN | apply Kd.N_drew)); exact Kd.N_mono (Kd.N_far (p := ⟨gb223, 1, none⟩) (Kd.N_far (p := ⟨gb223, 0, none⟩) (Kd.N_mono HO_236001.out (fun k_ hk => (⟨hk, hk.1.2.2.1⟩ : _ ∧ k_ ≠ gb223))) (fun _ hk => hk.2) (.slice (some ⟨go67, 0, none⟩) x236000_5.length co67)) (fun _ hk => hk.2) (.slice Ao80 x236001_5.length co80)) (fun _ hk => ⟨hk.1.1.1, hk.1.2⟩), by repeat (first | (with_reducible first | exact HI0.out | apply IsS80.alloc | apply IsS80.drewN | apply IsS80.drew | apply IsS80.set_1 | refine IsS80.far ?_ NB0_223.out _ | refine IsS80.far ?_ NB0_235.out _) | exact HI0.out), by repeat (first | (with_reducible first | exact HB.out | apply below_alloc | apply pw_below_drewN | apply below_drew1 | refine below_set ?_ (IsS80.ge HI0.out) | refine below_set ?_ GE223.out | refine below_set ?_ GE235.out) | exact HB.out), by repeat (first | (with_reducible first | exact HK.out | apply KeepBut.set_ | apply keep_drewN | apply keep_drew | apply keep_alloc | refine keep_far ?_ GW223.out _ | refine keep_far ?_ GW235.out _) | exact HK.out)⟩
   ·replace c36 := Bool.eq_false_iff.mpr c36
    subst c36
    rw [if_neg (show ¬ (false = true) by decide)] at H
    simp only [Option.some.injEq, Prod.mk.injEq] at H
    obtain ⟨rfl, rfl, rfl⟩ := H
    go_wp2_with (first | ((with_reducible refine gate_callee (f := 76) rfl ?_); refine goesL_ (some 32) rfl rfl Try.func76 (by kernel_rfl) rfl #[.pointer (some ⟨g, 0, none⟩), .int .i64 a1] rfl (by (try simp only [List.map_toArray, List.map_cons, List.map_nil]); first | done | rfl | (simp only [List.length_drop, List.length_take]; rfl)) ?_; (with_reducible refine (spec_l20Rd_odd.calls kj5 g s0_0 x1001_5 a1 false t253 w0 _ ?side1 ?side2 A35.out).mono ?_); (case side1 => repeat (first | (with_reducible first | exact HI0.out | apply IsS80.alloc | apply IsS80.drewN | apply IsS80.drew | apply IsS80.set_1 | refine IsS80.far ?_ NB0_223.out _ | refine IsS80.far ?_ NB0_235.out _) | exact HI0.out)); (case side2 => repeat (first | (with_reducible first | exact HB.out | apply below_alloc | apply pw_below_drewN | apply below_drew1 | refine below_set ?_ (IsS80.ge HI0.out) | refine below_set ?_ GE223.out | refine below_set ?_ GE235.out) | exact HB.out)); rintro e w81 ⟨rfl, hi, hb, hk⟩; refine ⟨_, rfl, ?_⟩; have n0_ := am (Kd.N_mono (Kd.N_keep (Kd.N_mono (ok := fun k_ => (((w.heap.size ≤ k_)) ∧ (some k_ ≠ (u236001 : Value).ownBlock ∧ (k_ ≠ gb223 ∧ (k_ ≠ gb235 ∧ k_ ≠ g))))) (Kd.nv HO_236000.out) (fun k_ hk_ => (⟨hk_, hk_.2.2.2.2⟩ : _ ∧ k_ ≠ g))) hk (fun _ h => h.2)) (fun _ h => h.1)); have n1_ := am (Kd.N_mono (Kd.N_keep (Kd.N_mono (ok := fun k_ => (((w.heap.size ≤ k_)) ∧ (some k_ ≠ (u236000 : Value).ownBlock ∧ (k_ ≠ gb223 ∧ (k_ ≠ gb235 ∧ k_ ≠ g))))) (Kd.nv HO_236001.out) (fun k_ hk_ => (⟨hk_, hk_.2.2.2.2⟩ : _ ∧ k_ ≠ g))) hk (fun _ h => h.2)) (fun _ h => h.1)); have n2_ := am (KeepBut.blk hk (g' := gb223) (o := .cells #[.slice none 0 0, .slice none 0 0] 25 (0, 0)) (bv BK223.out) NB223_0.out (by simp)); have n3_ := am (KeepBut.blk hk (g' := gb235) (o := .cells #[u236000, u236001] 25 (0, 0)) (bv BK235.out) NB235_0.out (by simp)); have n4_ := am (KeepBut.trans (by repeat (first | (with_reducible first | exact HK.out | apply KeepBut.set_ | apply keep_drewN | apply keep_drew | apply keep_alloc | refine keep_far ?_ GW223.out _ | refine keep_far ?_ GW235.out _) | exact HK.out)) hk (.inl rfl)); have n5_ := am (hb); have n6_ := am (hi); clear HO_236000 HO_236001 BK223 BK235 HK HB HI0; revert n0_ n1_ n2_ n3_ n4_ n5_ n6_; intro HO_236000 HO_236001 BK223 BK235 HK HB HI0; (try clear hb); (try clear hb2); (try clear hk); (try clear hi); have hnb82 := NB235_223.out; have hnc82 := NB223_235.out; have hnb83 := NB235_0.out; have hnc83 := NB0_235.out; have hcz84_0 : w81.cell? ⟨gb235, 0, none⟩ = some (u236000) := (blk_cell BK235.out 0).trans rfl; have hcz84_1 : w81.cell? ⟨gb235, 1, none⟩ = some (u236001) := (blk_cell BK235.out 1).trans rfl; have hfz84_0 := blk_frozen BK235.out 0; have hfz84_1 := blk_frozen BK235.out 1; obtain ⟨Ao85, co85, eo85⟩ := Kd.N_slice HO_236000.out; subst eo85; have hnb86 := NB223_0.out; have hnc86 := NB0_223.out; have hcz87_0 : w81.cell? ⟨gb223, 0, none⟩ = some (.slice none 0 0) := (blk_cell BK223.out 0).trans rfl; have hcz87_1 : w81.cell? ⟨gb223, 1, none⟩ = some (.slice none 0 0) := (blk_cell BK223.out 1).trans rfl; have hfz87_0 := blk_frozen BK223.out 0; have hfz87_1 := blk_frozen BK223.out 1; obtain ⟨Ao88, co88, eo88⟩ := Kd.N_slice HO_236001.out; subst eo88))
    refine bodyPost_ret (results_cell_row rfl _ _ gb223 25 #[.slice Ao85 x236000_5.length co85, .slice Ao88 x236001_5.length co88] (0, 0) _ rfl (by (with_reducible repeat (first | refine blk_drewN ?_ _ | refine blk_drew ?_ | refine blk_alloc ?_ _)); refine blk_put (cs := #[.slice Ao85 x236000_5.length co85, .slice none 0 0]) ?_ 1 _ rfl; (with_reducible repeat (first | refine blk_drewN ?_ _ | refine blk_drew ?_ | refine blk_alloc ?_ _)); refine blk_put (cs := #[.slice none 0 0, .slice none 0 0]) ?_ 0 _ rfl; (with_reducible repeat (first | refine blk_drewN ?_ _ | refine blk_drew ?_ | refine blk_alloc ?_ _)); exact BK223.out) Try.underlying25 rfl (by kernel_rfl)) rfl ?_
    exact ⟨_, _, rfl, by (with_reducible repeat (first | apply Kd.N_alloc | apply Kd.N_drewN | apply Kd.N_drew)); exact Kd.N_mono (Kd.N_far (p := ⟨gb223, 1, none⟩) (Kd.N_far (p := ⟨gb223, 0, none⟩) (Kd.N_mono HO_236000.out (fun k_ hk => (⟨hk, hk.2.2.1⟩ : _ ∧ k_ ≠ gb223))) (fun _ hk => hk.2) (.slice Ao85 x236000_5.length co85)) (fun _ hk => hk.2) (.slice Ao88 x236001_5.length co88)) (fun _ hk => ⟨hk.1.1, hk.1.2.1⟩), by (with_reducible repeat (first | apply Kd.N_alloc | apply Kd.N_drewN | apply Kd.N_drew)); exact Kd.N_mono (Kd.N_far (p := ⟨gb223, 1, none⟩) (Kd.N_far (p := ⟨gb223, 0, none⟩) (Kd.N_mono HO_236001.out (fun k_ hk => (⟨hk, hk.2.2.1⟩ : _ ∧ k_ ≠ gb223))) (fun _ hk => hk.2) (.slice Ao85 x236000_5.length co85)) (fun _ hk => hk.2) (.slice Ao88 x236001_5.length co88)) (fun _ hk => ⟨hk.1.1, hk.1.2.1⟩), by repeat (first | (with_reducible first | exact HI0.out | apply IsS80.alloc | apply IsS80.drewN | apply IsS80.drew | apply IsS80.set_1 | refine IsS80.far ?_ NB0_223.out _ | refine IsS80.far ?_ NB0_235.out _) | exact HI0.out), by repeat (first | (with_reducible first | exact HB.out | apply below_alloc | apply pw_below_drewN | apply below_drew1 | refine below_set ?_ (IsS80.ge HI0.out) | refine below_set ?_ GE223.out | refine below_set ?_ GE235.out) | exact HB.out), by repeat (first | (with_reducible first | exact HK.out | apply KeepBut.set_ | apply keep_drewN | apply keep_drew | apply keep_alloc | refine keep_far ?_ GW223.out _ | refine keep_far ?_ GW235.out _) | exact HK.out)⟩
end Go.Proofs.Ytapnohcfnclleaa.PFnPictureLines
