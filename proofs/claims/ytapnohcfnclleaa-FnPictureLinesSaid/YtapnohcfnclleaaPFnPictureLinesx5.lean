-- Made by a program of this session (the kit print, shortened, twice): the kit print itself does not give this text
import Derived.Test.YtapnohcfnclleaaV4
import Derived.Test.YtapnohcfnclleaaPFnPictureLinesx0
import Derived.Test.YtapnohcfnclleaaPFnPictureLinesx3
import Derived.Test.YtapnohcfnclleaaPFnPictureLinesx4
namespace Go.Proofs.Ytapnohcfnclleaa.PFnPictureLines
open Go.RowKit Go.Proofs.YtapnohcfnclleaaW.PrintWords Go.Proofs.YtapnohcfnclleaaW.PrintLast Go.Proofs.YtapnohcfnclleaaW.PrintMore
attribute [local go_sem] max2_int min2_int max_two min_two max_three min_three max_four min_four   -- for this text's walks alone
set_option linter.unusedVariables false
set_option linter.unusedSimpArgs false
/-! ### spec_l20Open: function 46 -/
def spec_l20Open.f (l0 : List Int) : Option (List Int × Int) := if (l0.length : Int) > 2000 then (if 2000 ≤ (l0.length : Int) then (some (l0.take 2000, 0)) else (none)) else (some (l0, 0))
set_option maxHeartbeats 8000000 in
set_option maxRecDepth 100000 in
theorem spec_l20Open.calls (A0 : Option Addr) (c0 : Nat) (l0 : List Int) (r1 : List Int) (r2 : Int) (w0 w : World) (hB : Below w0.heap.size w0 w) (hr0 : Kd.C (Kd.int .u8) w0 A0 l0.length l0) (hc0 : l0.length ≤ c0) (h : spec_l20Open.f l0 = some (r1, r2)) :
  Calls Try.prog 46 #[.slice A0 l0.length c0] w fun e w' => ∃ g_ : Nat, e = .returned (.pointer (some ⟨g_, 0, none⟩)) ∧ IsS80 w0 w' g_ r1 r2 ∧ Below w0.heap.size w0 w' ∧ Below w.heap.size w w' := by
 have hu80 := Try.underlying80
 have HR0 := am hr0
 have HC0 := am hc0
 clear hr0 hc0
 have HBW := am (Below.refl w.heap.size w)
 have HW0 := am hB.size
 have HB := am hB
 clear hB
 have H : (if (l0.length : Int) > 2000 then (if 2000 ≤ (l0.length : Int) then (some (l0.take 2000, 0)) else (none)) else (some (l0, 0))) = some (r1, r2) := h
 clear h
 by_cases c2 : (l0.length : Int) > 2000
 ·rw [if_pos c2] at H
  have c2b0 : decide (2000 < (l0.length : Int)) = true := decide_eq_true c2
  have c2b1 : decide (2000 < l0.length) = true := decide_eq_true (by omega)
  clear c2
  have q_ := ifs H
  clear H
  obtain ⟨c3, H⟩ := q_
  have c3b0 := eq_true c3
  have c3b1 : decide (2000 ≤ (l0.length : Int)) = true := decide_eq_true c3
  clear c3
  simp only [Option.some.injEq, Prod.mk.injEq] at H
  obtain ⟨rfl, rfl⟩ := H
  obtain ⟨i04, hi04, _, hsz4, _⟩ := info_parts info5
  obtain ⟨hcut4, hA4, hC4⟩ := print_take_of (P := Try.prog) (Value.int .u8) 0 22 5 .i64 Try.underlying22 hi04 hsz4 A0 c0 l0 2000 (by omega) (da) HC0.out
  have HR242 := am (Kd.C_of_reads (h1 := fun _ => rfl) (hA4 _ (Kd.reads_of_C HR0.out)))
  have HC242 := am hC4
  clear hA4 hC4 hi04 hsz4
  go_enter Try.func46, Try.ntmps46
  go_wp2_with (first | ((with_reducible refine gate_dst (N := 10) rfl ?_); refine box_event ?hg (N := 10) ?hd (cs := #[.slice A0 (l0.take 2000).length c0, .int .i64 0]) (t := 80) ?hr ?_; (case hd => rfl); (case hg => rfl); (case hr => first | (go_simp; done) | (go_simp; rfl)); intro gb243 hg w5 hbox hb; have n0_ := am (below_step HBW.out hb); have n1_ := am (below_step (bm HB) hb); have n2_ := am (hbox); have n3_ := am ((by rw [hg]; exact (below_size (bm HBW)) : w.heap.size ≤ gb243)); have n4_ := am ((Nat.le_trans HW0.out (by rw [hg]; exact (below_size (bm HBW)) : w.heap.size ≤ gb243) : w0.heap.size ≤ gb243)); clear HBW HB; revert n0_ n1_ n2_ n3_ n4_; intro HBW HB BK243 GW243 GE243; clear hb hbox hg))
  go_ret
  exact ⟨_, rfl, (show IsS80 w0 _ gb243 (l0.take 2000) 0 from ⟨_, _, by (with_reducible repeat (first | refine blk_drewN ?_ _ | refine blk_drew ?_ | refine blk_alloc ?_ _)); exact BK243.out, GE243.out, HR242.out⟩), by repeat (first | (with_reducible first | exact HB.out | apply below_alloc | apply pw_below_drewN | apply below_drew1 | refine below_set ?_ GE243.out) | exact HB.out), by repeat (first | (with_reducible first | exact HBW.out | apply below_alloc | apply pw_below_drewN | apply below_drew1 | refine below_set ?_ GW243.out) | exact HBW.out)⟩
 ·rw [if_neg c2] at H
  have c2b0 : decide (2000 < (l0.length : Int)) = false := decide_eq_false c2
  have c2b1 : decide (2000 < l0.length) = false := decide_eq_false (by omega)
  clear c2
  simp only [Option.some.injEq, Prod.mk.injEq] at H
  obtain ⟨rfl, rfl⟩ := H
  go_enter Try.func46, Try.ntmps46
  go_wp2_with (first | ((with_reducible refine gate_dst (N := 10) rfl ?_); refine box_event ?hg (N := 10) ?hd (cs := #[.slice A0 l0.length c0, .int .i64 0]) (t := 80) ?hr ?_; (case hd => rfl); (case hg => rfl); (case hr => first | (go_simp; done) | (go_simp; rfl)); intro gb244 hg w6 hbox hb; have n0_ := am (below_step HBW.out hb); have n1_ := am (below_step (bm HB) hb); have n2_ := am (hbox); have n3_ := am ((by rw [hg]; exact (below_size (bm HBW)) : w.heap.size ≤ gb244)); have n4_ := am ((Nat.le_trans HW0.out (by rw [hg]; exact (below_size (bm HBW)) : w.heap.size ≤ gb244) : w0.heap.size ≤ gb244)); clear HBW HB; revert n0_ n1_ n2_ n3_ n4_; intro HBW HB BK244 GW244 GE244; clear hb hbox hg))
  go_ret
  exact ⟨_, rfl, (show IsS80 w0 _ gb244 l0 0 from ⟨_, _, by (with_reducible repeat (first | refine blk_drewN ?_ _ | refine blk_drew ?_ | refine blk_alloc ?_ _)); exact BK244.out, GE244.out, HR0.out⟩), by repeat (first | (with_reducible first | exact HB.out | apply below_alloc | apply pw_below_drewN | apply below_drew1 | refine below_set ?_ GE244.out) | exact HB.out), by repeat (first | (with_reducible first | exact HBW.out | apply below_alloc | apply pw_below_drewN | apply below_drew1 | refine below_set ?_ GW244.out) | exact HBW.out)⟩
/-! ### spec_DrawPictureLines: function 14 -/
def spec_DrawPictureLines.f (k : Nat) (l0 : List Int) : Option ((List (List Int)) × (List (List Int))) := (spec_l20Open.f l0).bind fun bt246 => ((spec_l20Picture.f k bt246.1 bt246.2 9).bind fun bt249 => (some (bt249.1, bt249.2.1)))
set_option maxHeartbeats 8000000 in
set_option maxRecDepth 100000 in
theorem spec_DrawPictureLines.calls (k : Nat) (A0 : Option Addr) (c0 : Nat) (l0 : List Int) (r1 : List (List Int)) (r2 : List (List Int)) (w : World) (hr0 : Kd.C (Kd.int .u8) w A0 l0.length l0) (hc0 : l0.length ≤ c0) (h : spec_DrawPictureLines.f k l0 = some (r1, r2)) :
  Calls Try.prog 14 #[.slice A0 l0.length c0] w fun e w' => ∃ v0_ v1_ : Value, e = .returned (.agg #[v0_, v1_]) ∧ Kd.N (Kd.slice 3 (Kd.int .i64)) 36 w' w.heap.size (fun k_ => (w.heap.size ≤ k_) ∧ some k_ ≠ (v1_ : Value).ownBlock) v0_ r1 ∧ Kd.N (Kd.slice 3 (Kd.int .i64)) 36 w' w.heap.size (fun k_ => (w.heap.size ≤ k_) ∧ some k_ ≠ (v0_ : Value).ownBlock) v1_ r2 ∧ Below w.heap.size w w' := by
 have hu25 := Try.underlying25
 have HR0 := am hr0
 have HC0 := am hc0
 clear hr0 hc0
 have HB := am (Below.refl w.heap.size w)
 have H : ((spec_l20Open.f l0).bind fun bt246 => ((spec_l20Picture.f k bt246.1 bt246.2 9).bind fun bt249 => (some (bt249.1, bt249.2.1)))) = some (r1, r2) := h
 clear h
 replace H := Option.bind_eq_some_iff.mp H
 obtain ⟨⟨t246, t247⟩, A20, H⟩ := H
 replace H : ((spec_l20Picture.f k t246 t247 9).bind fun bt249 => (some (bt249.1, bt249.2.1))) = some (r1, r2) := H
 have A2 := am A20
 clear A20
 replace H := Option.bind_eq_some_iff.mp H
 obtain ⟨⟨t249, t252, t255⟩, A30, H⟩ := H
 replace H : (some (t249, t252)) = some (r1, r2) := H
 have A3 := am A30
 clear A30
 simp only [Option.some.injEq, Prod.mk.injEq] at H
 obtain ⟨rfl, rfl⟩ := H
 go_enter Try.func14, Try.ntmps14
 go_wp2_with (first | ((with_reducible refine gate_dst (N := 2) rfl ?_); refine box_event ?hg (N := 2) ?hd (cs := #[.slice none 0 0, .slice none 0 0]) (t := 25) ?hr ?_; (case hd => rfl); (case hg => rfl); (case hr => first | (go_simp; done) | (go_simp; rfl)); intro gb245 hg w4 hbox hb; have n0_ := am (below_step (bm HB) hb); have n1_ := am (hbox); have n2_ := am ((by rw [hg]; exact (below_size (bm HB)) : w.heap.size ≤ gb245)); have n3_ := am ((by rw [hg]; exact (below_size (bm HB)) : w.heap.size ≤ gb245)); clear HB; revert n0_ n1_ n2_ n3_; intro HB BK245 GW245 GE245; clear hb hbox hg) | ((with_reducible refine gate_callee (f := 46) rfl ?_); refine goesL_ (some 4) rfl rfl Try.func46 (by kernel_rfl) rfl #[.slice A0 l0.length c0] rfl (by (try simp only [List.map_toArray, List.map_cons, List.map_nil]); first | done | rfl | (simp only [List.length_drop, List.length_take]; rfl)) ?_; (with_reducible refine (spec_l20Open.calls _ _ l0 t246 t247 w _ ?side1 ?side2 ?side3 A2.out).mono ?_); (case side1 => repeat (first | (with_reducible first | exact HB.out | apply below_alloc | apply pw_below_drewN | apply below_drew1 | refine below_set ?_ GE245.out) | exact HB.out)); (case side2 => exact HR0.out); (case side3 => exact HC0.out); rintro e w5 ⟨g248, rfl, hi, hb, hb2⟩; refine ⟨_, rfl, ?_⟩; have n0_ := am (blk_below (g := gb245) (o := .cells #[.slice none 0 0, .slice none 0 0] 25 (0, 0)) (bv BK245.out) hb2); have n1_ := am (hb); have n2_ := am (hi); have n3_ := am (IsS80.ne_blk hi (blk_below (g := gb245) (o := .cells #[.slice none 0 0, .slice none 0 0] 25 (0, 0)) (bv BK245.out) hb2) (by decide)); have n4_ := am (Ne.symm (IsS80.ne_blk hi (blk_below (g := gb245) (o := .cells #[.slice none 0 0, .slice none 0 0] 25 (0, 0)) (bv BK245.out) hb2) (by decide))); clear BK245 HB; revert n0_ n1_ n2_ n3_ n4_; intro BK245 HB HI248 NB248_245 NB245_248; (try clear hb); (try clear hb2); (try clear hk); (try clear hi)) | ((with_reducible refine gate_callee (f := 45) rfl ?_); refine goesL_ (some 5) rfl rfl Try.func45 (by kernel_rfl) rfl #[.pointer (some ⟨g248, 0, none⟩), .int .i64 9] rfl (by (try simp only [List.map_toArray, List.map_cons, List.map_nil]); first | done | rfl | (simp only [List.length_drop, List.length_take]; rfl)) ?_; (with_reducible refine (spec_l20Picture.calls k g248 t246 t247 9 t249 t252 t255 w _ ?side1 ?side2 A3.out).mono ?_); (case side1 => repeat (first | (with_reducible first | exact HI248.out | apply IsS80.alloc | apply IsS80.drewN | apply IsS80.drew | apply IsS80.set_1 | refine IsS80.far ?_ NB248_245.out _) | exact HI248.out)); (case side2 => repeat (first | (with_reducible first | exact HB.out | apply below_alloc | apply pw_below_drewN | apply below_drew1 | refine below_set ?_ (IsS80.ge HI248.out) | refine below_set ?_ GE245.out) | exact HB.out)); rintro e w6 ⟨v250, v253, rfl, ho0, ho1, hi, hb, hk⟩; refine ⟨_, rfl, ?_⟩; have n0_ := am (KeepBut.blk hk (g' := gb245) (o := .cells #[.slice none 0 0, .slice none 0 0] 25 (0, 0)) (bv BK245.out) NB245_248.out (by simp)); have n1_ := am (Kd.N_lower (Kd.N_mono (ok' := fun k_ => (w.heap.size ≤ k_) ∧ some k_ ≠ (v253 : Value).ownBlock ∧ k_ ≠ gb245 ∧ k_ ≠ g248) ho0 (fun k_ hk_ => ⟨(Nat.le_trans (below_size (by repeat (first | (with_reducible first | exact HB.out | apply below_alloc | apply pw_below_drewN | apply below_drew1 | refine below_set ?_ (IsS80.ge HI248.out) | refine below_set ?_ GE245.out) | exact HB.out))) hk_.1), hk_.2, (Kd.freshB (g := gb245) (o := .cells #[.slice none 0 0, .slice none 0 0] 25 (0, 0)) (bv BK245.out) k_ hk_.1), (IsS80.fresh (by repeat (first | (with_reducible first | exact HI248.out | apply IsS80.alloc | apply IsS80.drewN | apply IsS80.drew | apply IsS80.set_1 | refine IsS80.far ?_ NB248_245.out _) | exact HI248.out)) k_ hk_.1)⟩)) (below_size (by repeat (first | (with_reducible first | exact HB.out | apply below_alloc | apply pw_below_drewN | apply below_drew1 | refine below_set ?_ (IsS80.ge HI248.out) | refine below_set ?_ GE245.out) | exact HB.out)))); have n2_ := am (Kd.N_lower (Kd.N_mono (ok' := fun k_ => (w.heap.size ≤ k_) ∧ some k_ ≠ (v250 : Value).ownBlock ∧ k_ ≠ gb245 ∧ k_ ≠ g248) ho1 (fun k_ hk_ => ⟨(Nat.le_trans (below_size (by repeat (first | (with_reducible first | exact HB.out | apply below_alloc | apply pw_below_drewN | apply below_drew1 | refine below_set ?_ (IsS80.ge HI248.out) | refine below_set ?_ GE245.out) | exact HB.out))) hk_.1), hk_.2, (Kd.freshB (g := gb245) (o := .cells #[.slice none 0 0, .slice none 0 0] 25 (0, 0)) (bv BK245.out) k_ hk_.1), (IsS80.fresh (by repeat (first | (with_reducible first | exact HI248.out | apply IsS80.alloc | apply IsS80.drewN | apply IsS80.drew | apply IsS80.set_1 | refine IsS80.far ?_ NB248_245.out _) | exact HI248.out)) k_ hk_.1)⟩)) (below_size (by repeat (first | (with_reducible first | exact HB.out | apply below_alloc | apply pw_below_drewN | apply below_drew1 | refine below_set ?_ (IsS80.ge HI248.out) | refine below_set ?_ GE245.out) | exact HB.out)))); have n3_ := am (hb); have n4_ := am (hi); clear BK245 HB HI248; revert n0_ n1_ n2_ n3_ n4_; intro BK245 HO251 HO254 HB HI248; (try clear hb); (try clear hb2); (try clear hk); (try clear hi); (try clear ho0); (try clear ho1); obtain ⟨Ao7, co7, eo7⟩ := Kd.N_slice HO251.out; subst eo7; have hnb8 := NB245_248.out; have hnc8 := NB248_245.out; have hcz9_0 : w6.cell? ⟨gb245, 0, none⟩ = some (.slice none 0 0) := (blk_cell BK245.out 0).trans rfl; have hcz9_1 : w6.cell? ⟨gb245, 1, none⟩ = some (.slice none 0 0) := (blk_cell BK245.out 1).trans rfl; have hfz9_0 := blk_frozen BK245.out 0; have hfz9_1 := blk_frozen BK245.out 1; obtain ⟨Ao10, co10, eo10⟩ := Kd.N_slice HO254.out; subst eo10))
 refine bodyPost_ret (results_cell_row rfl _ _ gb245 25 #[.slice Ao7 t249.length co7, .slice Ao10 t252.length co10] (0, 0) _ rfl (by (with_reducible repeat (first | refine blk_drewN ?_ _ | refine blk_drew ?_ | refine blk_alloc ?_ _)); refine blk_put (cs := #[.slice Ao7 t249.length co7, .slice none 0 0]) ?_ 1 _ rfl; (with_reducible repeat (first | refine blk_drewN ?_ _ | refine blk_drew ?_ | refine blk_alloc ?_ _)); refine blk_put (cs := #[.slice none 0 0, .slice none 0 0]) ?_ 0 _ rfl; (with_reducible repeat (first | refine blk_drewN ?_ _ | refine blk_drew ?_ | refine blk_alloc ?_ _)); exact BK245.out) Try.underlying25 rfl (by kernel_rfl)) rfl ?_
 exact ⟨_, _, rfl, by (with_reducible repeat (first | apply Kd.N_alloc | apply Kd.N_drewN | apply Kd.N_drew)); exact Kd.N_mono (Kd.N_far (p := ⟨gb245, 1, none⟩) (Kd.N_far (p := ⟨gb245, 0, none⟩) (Kd.N_mono HO251.out (fun k_ hk => (⟨hk, hk.2.2.1⟩ : _ ∧ k_ ≠ gb245))) (fun _ hk => hk.2) (.slice Ao7 t249.length co7)) (fun _ hk => hk.2) (.slice Ao10 t252.length co10)) (fun _ hk => ⟨hk.1.1, hk.1.2.1⟩), by (with_reducible repeat (first | apply Kd.N_alloc | apply Kd.N_drewN | apply Kd.N_drew)); exact Kd.N_mono (Kd.N_far (p := ⟨gb245, 1, none⟩) (Kd.N_far (p := ⟨gb245, 0, none⟩) (Kd.N_mono HO254.out (fun k_ hk => (⟨hk, hk.2.2.1⟩ : _ ∧ k_ ≠ gb245))) (fun _ hk => hk.2) (.slice Ao7 t249.length co7)) (fun _ hk => hk.2) (.slice Ao10 t252.length co10)) (fun _ hk => ⟨hk.1.1, hk.1.2.1⟩), by repeat (first | (with_reducible first | exact HB.out | apply below_alloc | apply pw_below_drewN | apply below_drew1 | refine below_set ?_ (IsS80.ge HI248.out) | refine below_set ?_ GE245.out) | exact HB.out)⟩
/-! ### impl_ClueValid: function 59 -/
mutual
def impl_ClueValid.j0 : Nat → List Int → Int → Bool → Option (Bool)
 | 0, _, _, _ => none
 | k + 1, x0, x1, x13 => if x13 = true then (some false) else (impl_ClueValid.l0 k (wrap64 (x1 + 1)) x0 (x0.length : Int) 0)
def impl_ClueValid.l0 : Nat → Int → List Int → Int → Int → Option (Bool)
 | 0, _, _, _, _ => none
 | k + 1, x5, x16, x17, x18 => if x18 < x17 then (if 0 ≤ x18 then (if x18 < (x16.length : Int) then (if (rd x16 x18) < 1 then (some false) else (if (rd x16 x18) ≥ x5 then (some false) else (impl_ClueValid.l0 k (wrap64 (x5 - (wrap64 ((rd x16 x18) + 1)))) x16 x17 (wrap64 (x18 + 1))))) else (none)) else (none)) else (some true)
end
def impl_ClueValid.f (k : Nat) (l0 : List Int) (a1 : Int) : Option (Bool) := if a1 < 1 then (impl_ClueValid.j0 k l0 a1 true) else (impl_ClueValid.j0 k l0 a1 (decide (a1 > 8)))
set_option maxHeartbeats 8000000 in
set_option maxRecDepth 100000 in
theorem impl_ClueValid.calls (k : Nat) (A0 : Option Addr) (c0 : Nat) (l0 : List Int) (a1 : Int) (r : Bool) (w : World) (hr0 : Kd.C (Kd.int .i64) w A0 l0.length l0) (hc0 : l0.length ≤ c0) (h : impl_ClueValid.f k l0 a1 = some r) :
  Calls Try.prog 59 #[.slice A0 l0.length c0, .int .i64 a1] w fun e w' => e = .returned (.bool r) ∧ Drawn0 w w' := by
 have HR0 := am hr0
 have HC0 := am hc0
 clear hr0 hc0
 have H : (if a1 < 1 then (impl_ClueValid.j0 k l0 a1 true) else (impl_ClueValid.j0 k l0 a1 (decide (a1 > 8)))) = some r := h
 clear h
 have HC3 := am H
 clear H
 go_enter Try.func59, Try.ntmps59
 go_upto_region 1 with (fail)
 go_cut [13] (fun v13 wc => ∃ (kq : Nat) (x13_2 : Bool), v13 = .bool x13_2 ∧ Aside0 (impl_ClueValid.j0 kq l0 a1 x13_2 = some r) ∧ Aside0 (kq ≤ k) ∧ Drawn0 w wc)
 case first =>
  have H := HC3.out
  clear HC3
  by_cases c4 : a1 < 1
  ·rw [if_pos c4] at H
   have c4b0 : decide (a1 < 1) = true := decide_eq_true c4
   clear c4
   (first | rw [c4b0] | (simp only [i64_w, i32_w]; rw [c4b0]) | skip)
   have H' := am H
   clear H
   go_wp2
   go_meet
   case rel => exact ⟨_, (true), rfl, H', ⟨by first | omega | exact Nat.le_refl _⟩, by repeat (first | exact Drawn0.refl _ | apply Drawn0.step)⟩
  ·rw [if_neg c4] at H
   have c4b0 : decide (a1 < 1) = false := decide_eq_false c4
   clear c4
   (first | rw [c4b0] | (simp only [i64_w, i32_w]; rw [c4b0]) | skip)
   have H' := am H
   clear H
   go_wp2
   go_meet
   case rel => exact ⟨_, (decide (a1 > 8)), rfl, H', ⟨by first | omega | exact Nat.le_refl _⟩, by repeat (first | exact Drawn0.refl _ | apply Drawn0.step)⟩
 case rest =>
  clear HC3
  obtain ⟨kq, x13_2, rfl, HA, HJ2, ⟨mc2, rfl⟩⟩ := hcut
  cases kq with
  | zero => exact absurd HA.out (by simp [impl_ClueValid.j0])
  | succ kj2 =>
   have H := HA.out
   clear HA
   simp only [impl_ClueValid.j0] at H
   by_cases c5 : x13_2 = true
   ·subst c5
    rw [if_pos rfl] at H
    obtain rfl := Option.some.inj H
    go_wp2
    go_ret
    exact ⟨by first | rfl | (simp; done) | (simp [*]; done), by repeat (first | exact Drawn0.refl _ | apply Drawn0.step)⟩
   ·replace c5 := Bool.eq_false_iff.mpr c5
    subst c5
    rw [if_neg (show ¬ (false = true) by decide)] at H
    have H' := am H
    clear H
    go_wp2
    go_loopg [5, 18] kj2 (fun kq v5 v18 w' => ∃ (x5_2 : Int) (x18_2 : Int), v5 = .int .i64 x5_2 ∧ v18 = .int .i64 x18_2 ∧ Aside0 (impl_ClueValid.l0 kq x5_2 l0 (l0.length : Int) x18_2 = some r) ∧ Aside0 (kq ≤ kj2) ∧ Drawn0 w w')
    case atStart => exact ⟨(wrap64 (a1 + 1)), (0), rfl, rfl, H', ⟨Nat.le_refl _⟩, by repeat (first | exact Drawn0.refl _ | apply Drawn0.step)⟩
    case round =>
     clear H'
     obtain ⟨x5_2, x18_2, rfl, rfl, HA, HK2, ⟨m2, rfl⟩⟩ := hrel
     cases gk with
     | zero => exact absurd HA.out (by simp [impl_ClueValid.l0])
     | succ k2 =>
      have H := HA.out
      clear HA
      simp only [impl_ClueValid.l0] at H
      by_cases c6 : x18_2 < (l0.length : Int)
      ·rw [if_pos c6] at H
       have c6b0 : decide (x18_2 < (l0.length : Int)) = true := decide_eq_true c6
       clear c6
       have q_ := ifs H
       clear H
       obtain ⟨c7, H⟩ := q_
       have c7b0 : decide (0 ≤ x18_2) = true := decide_eq_true c7
       clear c7
       have q_ := ifs H
       clear H
       obtain ⟨c8, H⟩ := q_
       have c8b0 : decide (x18_2 < (l0.length : Int)) = true := decide_eq_true c8
       clear c8
       by_cases c9 : (rd l0 x18_2) < 1
       ·rw [if_pos c9] at H
        have c9b0 : decide ((rd l0 x18_2) < 1) = true := decide_eq_true c9
        clear c9
        obtain rfl := Option.some.inj H
        have p256 : 0 ≤ (x18_2 : Int) := da
        have q256 : x18_2 < (l0.length : Int) := da
        obtain ⟨ad256, e256, hx256_0⟩ := Kd.at_int HR0.out x18_2 p256 q256
        cases e256
        replace p256 := eq_true p256
        replace q256 := eq_true q256
        go_wp2
        go_ret
        exact ⟨by first | rfl | (simp; done) | (simp [*]; done), by repeat (first | exact Drawn0.refl _ | apply Drawn0.step)⟩
       ·rw [if_neg c9] at H
        have c9b0 : decide ((rd l0 x18_2) < 1) = false := decide_eq_false c9
        clear c9
        by_cases c10 : (rd l0 x18_2) ≥ x5_2
        ·rw [if_pos c10] at H
         have c10b0 : decide (x5_2 ≤ (rd l0 x18_2)) = true := decide_eq_true c10
         clear c10
         obtain rfl := Option.some.inj H
         have p256 : 0 ≤ (x18_2 : Int) := da
         have q256 : x18_2 < (l0.length : Int) := da
         obtain ⟨ad256, e256, hx256_0⟩ := Kd.at_int HR0.out x18_2 p256 q256
         cases e256
         replace p256 := eq_true p256
         replace q256 := eq_true q256
         go_wp2
         go_ret
         exact ⟨by first | rfl | (simp; done) | (simp [*]; done), by repeat (first | exact Drawn0.refl _ | apply Drawn0.step)⟩
        ·rw [if_neg c10] at H
         have c10b0 : decide (x5_2 ≤ (rd l0 x18_2)) = false := decide_eq_false c10
         clear c10
         have H' := am H
         clear H
         have p256 : 0 ≤ (x18_2 : Int) := da
         have q256 : x18_2 < (l0.length : Int) := da
         obtain ⟨ad256, e256, hx256_0⟩ := Kd.at_int HR0.out x18_2 p256 q256
         cases e256
         replace p256 := eq_true p256
         replace q256 := eq_true q256
         go_wp2
         go_roundg k2
         case measure => have := HJ2.out; have := HK2.out; omega
         case rel => exact ⟨(wrap64 (x5_2 - (wrap64 ((rd l0 x18_2) + 1)))), (wrap64 (x18_2 + 1)), rfl, rfl, H', ⟨by have := HJ2.out; have := HK2.out; omega⟩, by repeat (first | exact Drawn0.refl _ | apply Drawn0.step)⟩
      ·rw [if_neg c6] at H
       have c6b0 : decide (x18_2 < (l0.length : Int)) = false := decide_eq_false c6
       clear c6
       obtain rfl := Option.some.inj H
       go_wp2
       go_ret
       exact ⟨by first | rfl | (simp; done) | (simp [*]; done), by repeat (first | exact Drawn0.refl _ | apply Drawn0.step)⟩
/-! ### impl_PictureValid: function 24 -/
mutual
def impl_PictureValid.j0 : Nat → Bool → List (List Int) → List (List Int) → Option (Bool)
 | 0, _, _, _ => none
 | k + 1, x28, x258000, x258001 => if x28 = true then (some false) else (impl_PictureValid.l0 k x258000 (x258000.length : Int) 0 x258000 x258001)
def impl_PictureValid.l0 : Nat → List (List Int) → Int → Int → List (List Int) → List (List Int) → Option (Bool)
 | 0, _, _, _, _, _ => none
 | k + 1, x30, x31, x32, x258000, x258001 => if x32 < x31 then (if 0 ≤ x32 then (if x32 < (x30.length : Int) then ((impl_ClueValid.f k (rd_L1 x30 x32) (x258001.length : Int)).bind fun t259 => (if t259 = true then (impl_PictureValid.l0 k x30 x31 (wrap64 (x32 + 1)) x258000 x258001) else (some false))) else (none)) else (none)) else (impl_PictureValid.l1 k x258001 (x258001.length : Int) 0 x258000 x258001)
def impl_PictureValid.l1 : Nat → List (List Int) → Int → Int → List (List Int) → List (List Int) → Option (Bool)
 | 0, _, _, _, _, _ => none
 | k + 1, x44, x45, x46, x258000, x258001 => if x46 < x45 then (if 0 ≤ x46 then (if x46 < (x44.length : Int) then ((impl_ClueValid.f k (rd_L1 x44 x46) (x258000.length : Int)).bind fun t261 => (if t261 = true then (impl_PictureValid.l1 k x44 x45 (wrap64 (x46 + 1)) x258000 x258001) else (some false))) else (none)) else (none)) else (some true)
end
def impl_PictureValid.f (k : Nat) (l0_0 : List (List Int)) (l0_1 : List (List Int)) : Option (Bool) := if (l0_0.length : Int) < 1 then (impl_PictureValid.j0 k true l0_0 l0_1) else (if (l0_0.length : Int) > 5 then (impl_PictureValid.j0 k true l0_0 l0_1) else (if (l0_1.length : Int) < 1 then (impl_PictureValid.j0 k true l0_0 l0_1) else (impl_PictureValid.j0 k (decide ((l0_1.length : Int) > 5)) l0_0 l0_1)))
set_option maxHeartbeats 8000000 in
set_option maxRecDepth 100000 in
theorem impl_PictureValid.calls (k : Nat) (A0_0 : Option Addr) (c0_0 : Nat) (l0_0 : List (List Int)) (A0_1 : Option Addr) (c0_1 : Nat) (l0_1 : List (List Int)) (r : Bool) (w : World) (hr0_0 : Kd.C (Kd.slice 3 (Kd.int .i64)) w A0_0 l0_0.length l0_0) (hc0_0 : l0_0.length ≤ c0_0) (hr0_1 : Kd.C (Kd.slice 3 (Kd.int .i64)) w A0_1 l0_1.length l0_1) (hc0_1 : l0_1.length ≤ c0_1) (h : impl_PictureValid.f k l0_0 l0_1 = some r) :
  Calls Try.prog 24 #[.agg #[.slice A0_0 l0_0.length c0_0, .slice A0_1 l0_1.length c0_1]] w fun e w' => e = .returned (.bool r) ∧ Below w.heap.size w w' := by
 have hu25 := Try.underlying25
 have HR0_0 := am hr0_0
 have HC0_0 := am hc0_0
 clear hr0_0 hc0_0
 have HR0_1 := am hr0_1
 have HC0_1 := am hc0_1
 clear hr0_1 hc0_1
 have HB := am (Below.refl w.heap.size w)
 have H : (if (l0_0.length : Int) < 1 then (impl_PictureValid.j0 k true l0_0 l0_1) else (if (l0_0.length : Int) > 5 then (impl_PictureValid.j0 k true l0_0 l0_1) else (if (l0_1.length : Int) < 1 then (impl_PictureValid.j0 k true l0_0 l0_1) else (impl_PictureValid.j0 k (decide ((l0_1.length : Int) > 5)) l0_0 l0_1)))) = some r := h
 clear h
 have HC2 := am H
 clear H
 go_enter Try.func24, Try.ntmps24
 go_upto_region 1 with (first | ((with_reducible refine gate_dst (N := 1) rfl ?_); (try (refine gate_guard (by rfl) ?_; dsimp only)); refine box_event ?hg (N := 1) ?hd (cs := #[.slice A0_0 l0_0.length c0_0, .slice A0_1 l0_1.length c0_1]) (t := 25) ?hr ?_; (case hd => rfl); (case hg => rfl); (case hr => first | (go_simp; done) | (go_simp; rfl)); intro gb257 hg w3 hbox hb; have n0_ := am (below_step (bm HB) hb); have n1_ := am (hbox); have n2_ := am ((by rw [hg]; exact (below_size (bm HB)) : w.heap.size ≤ gb257)); have n3_ := am ((by rw [hg]; exact (below_size (bm HB)) : w.heap.size ≤ gb257)); clear HB; revert n0_ n1_ n2_ n3_; intro HB BK257 GW257 GE257; clear hb hbox hg))
 (try simp only [Act.put, List.setIfInBounds_toArray, List.set_cons_zero, List.set_cons_succ])
 go_cut [28] (fun v28 wc => ∃ (kq : Nat) (x28_1 : Bool), v28 = .bool x28_1 ∧ Aside0 (impl_PictureValid.j0 kq x28_1 l0_0 l0_1 = some r) ∧ Aside0 (kq ≤ k) ∧ Aside0 (wc.heap[gb257]? = some (.cells #[(.slice A0_0 l0_0.length c0_0), (.slice A0_1 l0_1.length c0_1)] 25 (0, 0))) ∧ Aside0 (Below w.heap.size w wc))
 case first =>
  have H := HC2.out
  clear HC2
  by_cases c4 : (l0_0.length : Int) < 1
  ·rw [if_pos c4] at H
   have c4b0 : decide ((l0_0.length : Int) < 1) = true := decide_eq_true c4
   have c4b1 : decide (l0_0.length < 1) = true := decide_eq_true (by omega)
   clear c4
   (first | rw [c4b0] | (simp only [i64_w, i32_w]; rw [c4b0]) | skip)
   have H' := am H
   clear H
   have hcz5_0 : w3.cell? ⟨gb257, 0, none⟩ = some (.slice A0_0 l0_0.length c0_0) := (blk_cell BK257.out 0).trans rfl
   have hcz5_1 : w3.cell? ⟨gb257, 1, none⟩ = some (.slice A0_1 l0_1.length c0_1) := (blk_cell BK257.out 1).trans rfl
   have hfz5_0 := blk_frozen BK257.out 0
   have hfz5_1 := blk_frozen BK257.out 1
   go_wp2
   go_meet
   case rel => exact ⟨_, (true), rfl, H', ⟨by first | omega | exact Nat.le_refl _⟩, ⟨bv BK257.out⟩, ⟨by repeat (first | (with_reducible first | exact HB.out | apply below_alloc | apply pw_below_drewN | apply below_drew1 | refine below_set ?_ GE257.out) | exact HB.out)⟩⟩
  ·rw [if_neg c4] at H
   have c4b0 : decide ((l0_0.length : Int) < 1) = false := decide_eq_false c4
   have c4b1 : decide (l0_0.length < 1) = false := decide_eq_false (by omega)
   clear c4
   (first | rw [c4b0] | (simp only [i64_w, i32_w]; rw [c4b0]) | skip)
   by_cases c6 : (l0_0.length : Int) > 5
   ·rw [if_pos c6] at H
    have c6b0 : decide (5 < (l0_0.length : Int)) = true := decide_eq_true c6
    have c6b1 : decide (5 < l0_0.length) = true := decide_eq_true (by omega)
    clear c6
    have H' := am H
    clear H
    have hcz7_0 : w3.cell? ⟨gb257, 0, none⟩ = some (.slice A0_0 l0_0.length c0_0) := (blk_cell BK257.out 0).trans rfl
    have hcz7_1 : w3.cell? ⟨gb257, 1, none⟩ = some (.slice A0_1 l0_1.length c0_1) := (blk_cell BK257.out 1).trans rfl
    have hfz7_0 := blk_frozen BK257.out 0
    have hfz7_1 := blk_frozen BK257.out 1
    go_wp2
    go_meet
    case rel => exact ⟨_, (true), rfl, H', ⟨by first | omega | exact Nat.le_refl _⟩, ⟨bv BK257.out⟩, ⟨by repeat (first | (with_reducible first | exact HB.out | apply below_alloc | apply pw_below_drewN | apply below_drew1 | refine below_set ?_ GE257.out) | exact HB.out)⟩⟩
   ·rw [if_neg c6] at H
    have c6b0 : decide (5 < (l0_0.length : Int)) = false := decide_eq_false c6
    have c6b1 : decide (5 < l0_0.length) = false := decide_eq_false (by omega)
    clear c6
    by_cases c8 : (l0_1.length : Int) < 1
    ·rw [if_pos c8] at H
     have c8b0 : decide ((l0_1.length : Int) < 1) = true := decide_eq_true c8
     have c8b1 : decide (l0_1.length < 1) = true := decide_eq_true (by omega)
     clear c8
     have H' := am H
     clear H
     have hcz9_0 : w3.cell? ⟨gb257, 0, none⟩ = some (.slice A0_0 l0_0.length c0_0) := (blk_cell BK257.out 0).trans rfl
     have hcz9_1 : w3.cell? ⟨gb257, 1, none⟩ = some (.slice A0_1 l0_1.length c0_1) := (blk_cell BK257.out 1).trans rfl
     have hfz9_0 := blk_frozen BK257.out 0
     have hfz9_1 := blk_frozen BK257.out 1
     go_wp2
     go_meet
     case rel => exact ⟨_, (true), rfl, H', ⟨by first | omega | exact Nat.le_refl _⟩, ⟨bv BK257.out⟩, ⟨by repeat (first | (with_reducible first | exact HB.out | apply below_alloc | apply pw_below_drewN | apply below_drew1 | refine below_set ?_ GE257.out) | exact HB.out)⟩⟩
    ·rw [if_neg c8] at H
     have c8b0 : decide ((l0_1.length : Int) < 1) = false := decide_eq_false c8
     have c8b1 : decide (l0_1.length < 1) = false := decide_eq_false (by omega)
     clear c8
     have H' := am H
     clear H
     have hcz10_0 : w3.cell? ⟨gb257, 0, none⟩ = some (.slice A0_0 l0_0.length c0_0) := (blk_cell BK257.out 0).trans rfl
     have hcz10_1 : w3.cell? ⟨gb257, 1, none⟩ = some (.slice A0_1 l0_1.length c0_1) := (blk_cell BK257.out 1).trans rfl
     have hfz10_0 := blk_frozen BK257.out 0
     have hfz10_1 := blk_frozen BK257.out 1
     go_wp2
     go_meet
     case rel => exact ⟨_, (decide ((l0_1.length : Int) > 5)), rfl, H', ⟨by first | omega | exact Nat.le_refl _⟩, ⟨bv BK257.out⟩, ⟨by repeat (first | (with_reducible first | exact HB.out | apply below_alloc | apply pw_below_drewN | apply below_drew1 | refine below_set ?_ GE257.out) | exact HB.out)⟩⟩
 case rest =>
  clear HC2
  obtain ⟨kq, x28_1, rfl, HA, HJ1, BK257, HB⟩ := hcut
  cases kq with
  | zero => exact absurd HA.out (by simp [impl_PictureValid.j0])
  | succ kj1 =>
   have H := HA.out
   clear HA
   simp only [impl_PictureValid.j0] at H
   by_cases c11 : x28_1 = true
   ·subst c11
    rw [if_pos rfl] at H
    obtain rfl := Option.some.inj H
    go_wp2
    go_ret
    exact ⟨rfl, by repeat (first | (with_reducible first | exact HB.out | apply below_alloc | apply pw_below_drewN | apply below_drew1 | refine below_set ?_ GE257.out) | exact HB.out)⟩
   ·replace c11 := Bool.eq_false_iff.mpr c11
    subst c11
    rw [if_neg (show ¬ (false = true) by decide)] at H
    have H' := am H
    clear H
    have hcz12_0 : wc.cell? ⟨gb257, 0, none⟩ = some (.slice A0_0 l0_0.length c0_0) := (blk_cell BK257.out 0).trans rfl
    have hcz12_1 : wc.cell? ⟨gb257, 1, none⟩ = some (.slice A0_1 l0_1.length c0_1) := (blk_cell BK257.out 1).trans rfl
    have hfz12_0 := blk_frozen BK257.out 0
    have hfz12_1 := blk_frozen BK257.out 1
    go_wp2
    go_loopg [32] kj1 (fun kq v32 w' => ∃ (x32_2 : Int), v32 = .int .i64 x32_2 ∧ Aside0 (impl_PictureValid.l0 kq l0_0 (l0_0.length : Int) x32_2 l0_0 l0_1 = some r) ∧ Aside0 (kq ≤ kj1) ∧ Aside0 (w'.heap[gb257]? = some (.cells #[(.slice A0_0 l0_0.length c0_0), (.slice A0_1 l0_1.length c0_1)] 25 (0, 0))) ∧ Aside0 (Below w.heap.size w w'))
    case atStart => exact ⟨(0), rfl, H', ⟨Nat.le_refl _⟩, ⟨bv BK257.out⟩, ⟨by repeat (first | (with_reducible first | exact HB.out | apply below_alloc | apply pw_below_drewN | apply below_drew1 | refine below_set ?_ GE257.out) | exact HB.out)⟩⟩
    case round =>
     clear H'
     clear hcz12_0 hcz12_1 hfz12_0 hfz12_1
     obtain ⟨x32_2, rfl, HA, HK2, BK257, HB⟩ := hrel
     cases gk with
     | zero => exact absurd HA.out (by simp [impl_PictureValid.l0])
     | succ k2 =>
      have H := HA.out
      clear HA
      simp only [impl_PictureValid.l0] at H
      by_cases c13 : x32_2 < (l0_0.length : Int)
      ·rw [if_pos c13] at H
       have c13b0 : decide (x32_2 < (l0_0.length : Int)) = true := decide_eq_true c13
       clear c13
       have q_ := ifs H
       clear H
       obtain ⟨c14, H⟩ := q_
       have c14b0 : decide (0 ≤ x32_2) = true := decide_eq_true c14
       clear c14
       have q_ := ifs H
       clear H
       obtain ⟨c15, H⟩ := q_
       have c15b0 : decide (x32_2 < (l0_0.length : Int)) = true := decide_eq_true c15
       clear c15
       replace H := Option.bind_eq_some_iff.mp H
       obtain ⟨t259, A160, H⟩ := H
       replace H : (if t259 = true then (impl_PictureValid.l0 k2 l0_0 (l0_0.length : Int) (wrap64 (x32_2 + 1)) l0_0 l0_1) else (some false)) = some r := H
       have A16 := am A160
       clear A160
       by_cases c17 : t259 = true
       ·subst c17
        rw [if_pos rfl] at H
        have H' := am H
        clear H
        have p258 : 0 ≤ (x32_2 : Int) := da
        have q258 : x32_2 < (l0_0.length : Int) := da
        obtain ⟨ad258, A258_0, c258_0, e258, hx258_0, hl258_0, hi258_0⟩ := at_L1 HR0_0.out x32_2 p258 q258
        cases e258
        replace hx258_0 := (HB.out.cell (World.block_lt_of_cell? w _ hx258_0)).trans hx258_0
        have HR258_0 := am hi258_0
        have HC258_0 := am hl258_0
        clear hi258_0 hl258_0
        replace p258 := eq_true p258
        replace q258 := eq_true q258
        have hcz18_0 : wr.cell? ⟨gb257, 0, none⟩ = some (.slice (some ad258) l0_0.length c0_0) := (blk_cell BK257.out 0).trans rfl
        have hcz18_1 : wr.cell? ⟨gb257, 1, none⟩ = some (.slice A0_1 l0_1.length c0_1) := (blk_cell BK257.out 1).trans rfl
        have hfz18_0 := blk_frozen BK257.out 0
        have hfz18_1 := blk_frozen BK257.out 1
        go_wp2_with (first | ((with_reducible refine gate_callee (f := 59) rfl ?_); refine goesL_ (some 40) rfl rfl Try.func59 (by kernel_rfl) rfl #[.slice A258_0 (rd_L1 l0_0 x32_2).length c258_0, .int .i64 (l0_1.length : Int)] rfl (by (try simp only [List.map_toArray, List.map_cons, List.map_nil]); first | done | rfl | (simp only [List.length_drop, List.length_take]; rfl)) ?_; (with_reducible refine (impl_ClueValid.calls k2 _ _ (rd_L1 l0_0 x32_2) (l0_1.length : Int) true _ ?side1 ?side2 A16.out).mono ?_); (case side1 => repeat (first | exact (Kd.C_below HR258_0.out HB.out) | (with_reducible refine Kd.C_alloc ?_ _) | (with_reducible refine Kd.C_drewN ?_ _) | (with_reducible refine Kd.C_drew ?_))); (case side2 => exact HC258_0.out); rintro e w' ⟨rfl, ⟨nd, rfl⟩⟩; refine ⟨_, rfl, ?_⟩))
        go_roundg k2
        case measure => have := HJ1.out; have := HK2.out; omega
        case rel => exact ⟨(wrap64 (x32_2 + 1)), rfl, H', ⟨by have := HJ1.out; have := HK2.out; omega⟩, ⟨bv BK257.out⟩, ⟨by repeat (first | (with_reducible first | exact HB.out | apply below_alloc | apply pw_below_drewN | apply below_drew1 | refine below_set ?_ GE257.out) | exact HB.out)⟩⟩
       ·replace c17 := Bool.eq_false_iff.mpr c17
        subst c17
        rw [if_neg (show ¬ (false = true) by decide)] at H
        obtain rfl := Option.some.inj H
        have p258 : 0 ≤ (x32_2 : Int) := da
        have q258 : x32_2 < (l0_0.length : Int) := da
        obtain ⟨ad258, A258_0, c258_0, e258, hx258_0, hl258_0, hi258_0⟩ := at_L1 HR0_0.out x32_2 p258 q258
        cases e258
        replace hx258_0 := (HB.out.cell (World.block_lt_of_cell? w _ hx258_0)).trans hx258_0
        have HR258_0 := am hi258_0
        have HC258_0 := am hl258_0
        clear hi258_0 hl258_0
        replace p258 := eq_true p258
        replace q258 := eq_true q258
        have hcz19_0 : wr.cell? ⟨gb257, 0, none⟩ = some (.slice (some ad258) l0_0.length c0_0) := (blk_cell BK257.out 0).trans rfl
        have hcz19_1 : wr.cell? ⟨gb257, 1, none⟩ = some (.slice A0_1 l0_1.length c0_1) := (blk_cell BK257.out 1).trans rfl
        have hfz19_0 := blk_frozen BK257.out 0
        have hfz19_1 := blk_frozen BK257.out 1
        go_wp2_with (first | ((with_reducible refine gate_callee (f := 59) rfl ?_); refine goesL_ (some 40) rfl rfl Try.func59 (by kernel_rfl) rfl #[.slice A258_0 (rd_L1 l0_0 x32_2).length c258_0, .int .i64 (l0_1.length : Int)] rfl (by (try simp only [List.map_toArray, List.map_cons, List.map_nil]); first | done | rfl | (simp only [List.length_drop, List.length_take]; rfl)) ?_; (with_reducible refine (impl_ClueValid.calls k2 _ _ (rd_L1 l0_0 x32_2) (l0_1.length : Int) false _ ?side1 ?side2 A16.out).mono ?_); (case side1 => repeat (first | exact (Kd.C_below HR258_0.out HB.out) | (with_reducible refine Kd.C_alloc ?_ _) | (with_reducible refine Kd.C_drewN ?_ _) | (with_reducible refine Kd.C_drew ?_))); (case side2 => exact HC258_0.out); rintro e w' ⟨rfl, ⟨nd, rfl⟩⟩; refine ⟨_, rfl, ?_⟩))
        go_ret
        exact ⟨rfl, by repeat (first | (with_reducible first | exact HB.out | apply below_alloc | apply pw_below_drewN | apply below_drew1 | refine below_set ?_ GE257.out) | exact HB.out)⟩
      ·rw [if_neg c13] at H
       have c13b0 : decide (x32_2 < (l0_0.length : Int)) = false := decide_eq_false c13
       clear c13
       have H' := am H
       clear H
       have hcz20_0 : wr.cell? ⟨gb257, 0, none⟩ = some (.slice A0_0 l0_0.length c0_0) := (blk_cell BK257.out 0).trans rfl
       have hcz20_1 : wr.cell? ⟨gb257, 1, none⟩ = some (.slice A0_1 l0_1.length c0_1) := (blk_cell BK257.out 1).trans rfl
       have hfz20_0 := blk_frozen BK257.out 0
       have hfz20_1 := blk_frozen BK257.out 1
       go_wp2
       go_loopg [46] k2 (fun kq v46 w' => ∃ (x46_3 : Int), v46 = .int .i64 x46_3 ∧ Aside0 (impl_PictureValid.l1 kq l0_1 (l0_1.length : Int) x46_3 l0_0 l0_1 = some r) ∧ Aside0 (kq ≤ k2) ∧ Aside0 (w'.heap[gb257]? = some (.cells #[(.slice A0_0 l0_0.length c0_0), (.slice A0_1 l0_1.length c0_1)] 25 (0, 0))) ∧ Aside0 (Below w.heap.size w w'))
       case atStart => exact ⟨(0), rfl, H', ⟨Nat.le_refl _⟩, ⟨bv BK257.out⟩, ⟨by repeat (first | (with_reducible first | exact HB.out | apply below_alloc | apply pw_below_drewN | apply below_drew1 | refine below_set ?_ GE257.out) | exact HB.out)⟩⟩
       case round =>
        clear H'
        clear c13b0 hcz20_0 hcz20_1 hfz20_0 hfz20_1
        obtain ⟨x46_3, rfl, HA, HK3, BK257, HB⟩ := hrel
        cases gk with
        | zero => exact absurd HA.out (by simp [impl_PictureValid.l1])
        | succ k3 =>
         have H := HA.out
         clear HA
         simp only [impl_PictureValid.l1] at H
         by_cases c21 : x46_3 < (l0_1.length : Int)
         ·rw [if_pos c21] at H
          have c21b0 : decide (x46_3 < (l0_1.length : Int)) = true := decide_eq_true c21
          clear c21
          have q_ := ifs H
          clear H
          obtain ⟨c22, H⟩ := q_
          have c22b0 : decide (0 ≤ x46_3) = true := decide_eq_true c22
          clear c22
          have q_ := ifs H
          clear H
          obtain ⟨c23, H⟩ := q_
          have c23b0 : decide (x46_3 < (l0_1.length : Int)) = true := decide_eq_true c23
          clear c23
          replace H := Option.bind_eq_some_iff.mp H
          obtain ⟨t261, A240, H⟩ := H
          replace H : (if t261 = true then (impl_PictureValid.l1 k3 l0_1 (l0_1.length : Int) (wrap64 (x46_3 + 1)) l0_0 l0_1) else (some false)) = some r := H
          have A24 := am A240
          clear A240
          by_cases c25 : t261 = true
          ·subst c25
           rw [if_pos rfl] at H
           have H' := am H
           clear H
           have p260 : 0 ≤ (x46_3 : Int) := da
           have q260 : x46_3 < (l0_1.length : Int) := da
           obtain ⟨ad260, A260_0, c260_0, e260, hx260_0, hl260_0, hi260_0⟩ := at_L1 HR0_1.out x46_3 p260 q260
           cases e260
           replace hx260_0 := (HB.out.cell (World.block_lt_of_cell? w _ hx260_0)).trans hx260_0
           have HR260_0 := am hi260_0
           have HC260_0 := am hl260_0
           clear hi260_0 hl260_0
           replace p260 := eq_true p260
           replace q260 := eq_true q260
           have hcz26_0 : wr.cell? ⟨gb257, 0, none⟩ = some (.slice A0_0 l0_0.length c0_0) := (blk_cell BK257.out 0).trans rfl
           have hcz26_1 : wr.cell? ⟨gb257, 1, none⟩ = some (.slice (some ad260) l0_1.length c0_1) := (blk_cell BK257.out 1).trans rfl
           have hfz26_0 := blk_frozen BK257.out 0
           have hfz26_1 := blk_frozen BK257.out 1
           go_wp2_with (first | ((with_reducible refine gate_callee (f := 59) rfl ?_); refine goesL_ (some 54) rfl rfl Try.func59 (by kernel_rfl) rfl #[.slice A260_0 (rd_L1 l0_1 x46_3).length c260_0, .int .i64 (l0_0.length : Int)] rfl (by (try simp only [List.map_toArray, List.map_cons, List.map_nil]); first | done | rfl | (simp only [List.length_drop, List.length_take]; rfl)) ?_; (with_reducible refine (impl_ClueValid.calls k3 _ _ (rd_L1 l0_1 x46_3) (l0_0.length : Int) true _ ?side1 ?side2 A24.out).mono ?_); (case side1 => repeat (first | exact (Kd.C_below HR260_0.out HB.out) | (with_reducible refine Kd.C_alloc ?_ _) | (with_reducible refine Kd.C_drewN ?_ _) | (with_reducible refine Kd.C_drew ?_))); (case side2 => exact HC260_0.out); rintro e w' ⟨rfl, ⟨nd, rfl⟩⟩; refine ⟨_, rfl, ?_⟩))
           go_roundg k3
           case measure => have := HJ1.out; have := HK2.out; have := HK3.out; omega
           case rel => exact ⟨(wrap64 (x46_3 + 1)), rfl, H', ⟨by have := HJ1.out; have := HK2.out; have := HK3.out; omega⟩, ⟨bv BK257.out⟩, ⟨by repeat (first | (with_reducible first | exact HB.out | apply below_alloc | apply pw_below_drewN | apply below_drew1 | refine below_set ?_ GE257.out) | exact HB.out)⟩⟩
          ·replace c25 := Bool.eq_false_iff.mpr c25
           subst c25
           rw [if_neg (show ¬ (false = true) by decide)] at H
           obtain rfl := Option.some.inj H
           have p260 : 0 ≤ (x46_3 : Int) := da
           have q260 : x46_3 < (l0_1.length : Int) := da
           obtain ⟨ad260, A260_0, c260_0, e260, hx260_0, hl260_0, hi260_0⟩ := at_L1 HR0_1.out x46_3 p260 q260
           cases e260
           replace hx260_0 := (HB.out.cell (World.block_lt_of_cell? w _ hx260_0)).trans hx260_0
           have HR260_0 := am hi260_0
           have HC260_0 := am hl260_0
           clear hi260_0 hl260_0
           replace p260 := eq_true p260
           replace q260 := eq_true q260
           have hcz27_0 : wr.cell? ⟨gb257, 0, none⟩ = some (.slice A0_0 l0_0.length c0_0) := (blk_cell BK257.out 0).trans rfl
           have hcz27_1 : wr.cell? ⟨gb257, 1, none⟩ = some (.slice (some ad260) l0_1.length c0_1) := (blk_cell BK257.out 1).trans rfl
           have hfz27_0 := blk_frozen BK257.out 0
           have hfz27_1 := blk_frozen BK257.out 1
           go_wp2_with (first | ((with_reducible refine gate_callee (f := 59) rfl ?_); refine goesL_ (some 54) rfl rfl Try.func59 (by kernel_rfl) rfl #[.slice A260_0 (rd_L1 l0_1 x46_3).length c260_0, .int .i64 (l0_0.length : Int)] rfl (by (try simp only [List.map_toArray, List.map_cons, List.map_nil]); first | done | rfl | (simp only [List.length_drop, List.length_take]; rfl)) ?_; (with_reducible refine (impl_ClueValid.calls k3 _ _ (rd_L1 l0_1 x46_3) (l0_0.length : Int) false _ ?side1 ?side2 A24.out).mono ?_); (case side1 => repeat (first | exact (Kd.C_below HR260_0.out HB.out) | (with_reducible refine Kd.C_alloc ?_ _) | (with_reducible refine Kd.C_drewN ?_ _) | (with_reducible refine Kd.C_drew ?_))); (case side2 => exact HC260_0.out); rintro e w' ⟨rfl, ⟨nd, rfl⟩⟩; refine ⟨_, rfl, ?_⟩))
           go_ret
           exact ⟨rfl, by repeat (first | (with_reducible first | exact HB.out | apply below_alloc | apply pw_below_drewN | apply below_drew1 | refine below_set ?_ GE257.out) | exact HB.out)⟩
         ·rw [if_neg c21] at H
          have c21b0 : decide (x46_3 < (l0_1.length : Int)) = false := decide_eq_false c21
          clear c21
          obtain rfl := Option.some.inj H
          go_wp2
          go_ret
          exact ⟨rfl, by repeat (first | (with_reducible first | exact HB.out | apply below_alloc | apply pw_below_drewN | apply below_drew1 | refine below_set ?_ GE257.out) | exact HB.out)⟩
end Go.Proofs.Ytapnohcfnclleaa.PFnPictureLines
