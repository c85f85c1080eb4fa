-- Made by a program of this session (the kit print, shortened, twice): the kit print itself does not give this text
import Derived.Test.YtapnohcfnclleaaV4
import Derived.Test.YtapnohcfnclleaaPFnPictureLinesx0
import Derived.Test.YtapnohcfnclleaaPFnPictureLinesx1
namespace Go.Proofs.Ytapnohcfnclleaa.PFnPictureLines
open Go.RowKit Go.Proofs.YtapnohcfnclleaaW.PrintWords Go.Proofs.YtapnohcfnclleaaW.PrintLast Go.Proofs.YtapnohcfnclleaaW.PrintMore
attribute [local go_sem] max2_int min2_int max_two min_two max_three min_three max_four min_four   -- for this text's walks alone
set_option linter.unusedVariables false
set_option linter.unusedSimpArgs false
/-! ### spec_ClueValid: function 52 -/
def spec_ClueValid.l0 : Nat → List Int → Int → Int → Int → Option (Bool)
 | 0, _, _, _, _ => none
 | k + 1, x0, x1, x5, x6 => if x6 < (x0.length : Int) then (if 0 ≤ x6 then ((spec_l1In.f (rd x0 x6) 1 8).bind fun t367 => (if t367 = true then (spec_ClueValid.l0 k x0 x1 (wrap64 (x5 + (rd x0 x6))) (wrap64 (x6 + 1))) else (some false))) else (none)) else ((spec_l1In.f x1 1 8).bind fun t369 => (if t369 = true then (some (decide (x5 ≤ x1))) else (some false)))
def spec_ClueValid.f (k : Nat) (l0 : List Int) (a1 : Int) : Option (Bool) := spec_ClueValid.l0 k l0 a1 (wrap64 ((l0.length : Int) - 1)) 0
set_option maxHeartbeats 8000000 in
set_option maxRecDepth 100000 in
theorem spec_ClueValid.calls (k : Nat) (A0 : Option Addr) (c0 : Nat) (l0 : List Int) (a1 : Int) (r : Bool) (w : World) (hr0 : Kd.C (Kd.int .i64) w A0 l0.length l0) (hc0 : l0.length ≤ c0) (h : spec_ClueValid.f k l0 a1 = some r) :
  Calls Try.prog 52 #[.slice A0 l0.length c0, .int .i64 a1] w fun e w' => e = .returned (.bool r) ∧ Drawn0 w w' := by
 have HR0 := am hr0
 have HC0 := am hc0
 clear hr0 hc0
 have H : (spec_ClueValid.l0 k l0 a1 (wrap64 ((l0.length : Int) - 1)) 0) = some r := h
 clear h
 have H' := am H
 clear H
 go_enter Try.func52, Try.ntmps52
 go_wp2
 go_loopg [5, 6] k (fun kq v5 v6 w' => ∃ (x5_1 : Int) (x6_1 : Int), v5 = .int .i64 x5_1 ∧ v6 = .int .i64 x6_1 ∧ Aside0 (spec_ClueValid.l0 kq l0 a1 x5_1 x6_1 = some r) ∧ Aside0 (kq ≤ k) ∧ Drawn0 w w')
 case atStart => exact ⟨(wrap64 ((l0.length : Int) - 1)), (0), rfl, rfl, H', ⟨Nat.le_refl _⟩, by repeat (first | exact Drawn0.refl _ | apply Drawn0.step)⟩
 case round =>
  clear H'
  try clear p2
  obtain ⟨x5_1, x6_1, rfl, rfl, HA, HK1, ⟨m1, rfl⟩⟩ := hrel
  cases gk with
  | zero => exact absurd HA.out (by simp [spec_ClueValid.l0])
  | succ k1 =>
   have H := HA.out
   clear HA
   simp only [spec_ClueValid.l0] at H
   by_cases c3 : x6_1 < (l0.length : Int)
   ·rw [if_pos c3] at H
    have c3b0 : decide (x6_1 < (l0.length : Int)) = true := decide_eq_true c3
    clear c3
    have q_ := ifs H
    clear H
    obtain ⟨c4, H⟩ := q_
    have c4b0 : decide (0 ≤ x6_1) = true := decide_eq_true c4
    clear c4
    replace H := Option.bind_eq_some_iff.mp H
    obtain ⟨t367, A50, H⟩ := H
    replace H : (if t367 = true then (spec_ClueValid.l0 k1 l0 a1 (wrap64 (x5_1 + (rd l0 x6_1))) (wrap64 (x6_1 + 1))) else (some false)) = some r := H
    have A5 := am A50
    clear A50
    by_cases c6 : t367 = true
    ·subst c6
     rw [if_pos rfl] at H
     have H' := am H
     clear H
     have p366 : 0 ≤ (x6_1 : Int) := da
     have q366 : x6_1 < (l0.length : Int) := da
     obtain ⟨ad366, e366, hx366_0⟩ := Kd.at_int HR0.out x6_1 p366 q366
     cases e366
     replace p366 := eq_true p366
     replace q366 := eq_true q366
     go_wp2_with (first | ((with_reducible refine gate_callee (f := 53) rfl ?_); refine goesL_ (some 20) rfl rfl Try.func53 (by kernel_rfl) rfl #[.int .i64 (rd l0 x6_1), .int .i64 1, .int .i64 8] rfl (by (try simp only [List.map_toArray, List.map_cons, List.map_nil]); first | done | rfl | (simp only [List.length_drop, List.length_take]; rfl)) ?_; (with_reducible refine (spec_l1In.calls (rd l0 x6_1) 1 8 true _ A5.out).mono ?_); rintro e w' ⟨rfl, ⟨nd, rfl⟩⟩; refine ⟨_, rfl, ?_⟩; have p368 : 0 ≤ (x6_1 : Int) := da; have q368 : x6_1 < (l0.length : Int) := da; obtain ⟨ad368, e368, hx368_0⟩ := Kd.at_int HR0.out x6_1 p368 q368; obtain rfl : ad366 = ad368 := (by injection e368); replace p368 := eq_true p368; replace q368 := eq_true q368))
     go_roundg k1
     case measure => have := HK1.out; omega
     case rel => exact ⟨(wrap64 (x5_1 + (rd l0 x6_1))), (wrap64 (x6_1 + 1)), rfl, rfl, H', ⟨by have := HK1.out; omega⟩, by repeat (first | exact Drawn0.refl _ | apply Drawn0.step)⟩
    ·replace c6 := Bool.eq_false_iff.mpr c6
     subst c6
     rw [if_neg (show ¬ (false = true) by decide)] at H
     obtain rfl := Option.some.inj H
     have p366 : 0 ≤ (x6_1 : Int) := da
     have q366 : x6_1 < (l0.length : Int) := da
     obtain ⟨ad366, e366, hx366_0⟩ := Kd.at_int HR0.out x6_1 p366 q366
     cases e366
     replace p366 := eq_true p366
     replace q366 := eq_true q366
     go_wp2_with (first | ((with_reducible refine gate_callee (f := 53) rfl ?_); refine goesL_ (some 20) rfl rfl Try.func53 (by kernel_rfl) rfl #[.int .i64 (rd l0 x6_1), .int .i64 1, .int .i64 8] rfl (by (try simp only [List.map_toArray, List.map_cons, List.map_nil]); first | done | rfl | (simp only [List.length_drop, List.length_take]; rfl)) ?_; (with_reducible refine (spec_l1In.calls (rd l0 x6_1) 1 8 false _ A5.out).mono ?_); rintro e w' ⟨rfl, ⟨nd, rfl⟩⟩; refine ⟨_, rfl, ?_⟩))
     go_ret
     exact ⟨by first | rfl | (simp; done) | (simp [*]; done), by repeat (first | exact Drawn0.refl _ | apply Drawn0.step)⟩
   ·rw [if_neg c3] at H
    have c3b0 : decide (x6_1 < (l0.length : Int)) = false := decide_eq_false c3
    clear c3
    replace H := Option.bind_eq_some_iff.mp H
    obtain ⟨t369, A70, H⟩ := H
    replace H : (if t369 = true then (some (decide (x5_1 ≤ a1))) else (some false)) = some r := H
    have A7 := am A70
    clear A70
    by_cases c8 : t369 = true
    ·subst c8
     rw [if_pos rfl] at H
     obtain rfl := Option.some.inj H
     go_wp2_with (first | ((with_reducible refine gate_callee (f := 53) rfl ?_); refine goesL_ (some 29) rfl rfl Try.func53 (by kernel_rfl) rfl #[.int .i64 a1, .int .i64 1, .int .i64 8] rfl (by (try simp only [List.map_toArray, List.map_cons, List.map_nil]); first | done | rfl | (simp only [List.length_drop, List.length_take]; rfl)) ?_; (with_reducible refine (spec_l1In.calls a1 1 8 true _ A7.out).mono ?_); rintro e w' ⟨rfl, ⟨nd, rfl⟩⟩; refine ⟨_, rfl, ?_⟩))
     go_ret
     exact ⟨by first | rfl | (simp; done) | (simp [*]; done), by repeat (first | exact Drawn0.refl _ | apply Drawn0.step)⟩
    ·replace c8 := Bool.eq_false_iff.mpr c8
     subst c8
     rw [if_neg (show ¬ (false = true) by decide)] at H
     obtain rfl := Option.some.inj H
     go_wp2_with (first | ((with_reducible refine gate_callee (f := 53) rfl ?_); refine goesL_ (some 29) rfl rfl Try.func53 (by kernel_rfl) rfl #[.int .i64 a1, .int .i64 1, .int .i64 8] rfl (by (try simp only [List.map_toArray, List.map_cons, List.map_nil]); first | done | rfl | (simp only [List.length_drop, List.length_take]; rfl)) ?_; (with_reducible refine (spec_l1In.calls a1 1 8 false _ A7.out).mono ?_); rintro e w' ⟨rfl, ⟨nd, rfl⟩⟩; refine ⟨_, rfl, ?_⟩))
     go_ret
     exact ⟨by first | rfl | (simp; done) | (simp [*]; done), by repeat (first | exact Drawn0.refl _ | apply Drawn0.step)⟩
/-! ### spec_PictureValid: function 17 -/
mutual
def spec_PictureValid.l0 : Nat → Int → List (List Int) → List (List Int) → Option (Bool)
 | 0, _, _, _ => none
 | k + 1, x3, x371000, x371001 => if x3 < (x371000.length : Int) then (if 0 ≤ x3 then ((spec_ClueValid.f k (rd_L1 x371000 x3) (x371001.length : Int)).bind fun t372 => (if t372 = true then (spec_PictureValid.l0 k (wrap64 (x3 + 1)) x371000 x371001) else (some false))) else (none)) else (spec_PictureValid.l1 k 0 x371000 x371001)
def spec_PictureValid.l1 : Nat → Int → List (List Int) → List (List Int) → Option (Bool)
 | 0, _, _, _ => none
 | k + 1, x4, x371000, x371001 => if x4 < (x371001.length : Int) then (if 0 ≤ x4 then ((spec_ClueValid.f k (rd_L1 x371001 x4) (x371000.length : Int)).bind fun t374 => (if t374 = true then (spec_PictureValid.l1 k (wrap64 (x4 + 1)) x371000 x371001) else (some false))) else (none)) else ((spec_l1In.f (x371000.length : Int) 1 5).bind fun t375 => (if t375 = true then ((spec_l1In.f (x371001.length : Int) 1 5).bind fun t376 => (some t376)) else (some false)))
end
def spec_PictureValid.f (k : Nat) (l0_0 : List (List Int)) (l0_1 : List (List Int)) : Option (Bool) := spec_PictureValid.l0 k 0 l0_0 l0_1
set_option maxHeartbeats 8000000 in
set_option maxRecDepth 100000 in
theorem spec_PictureValid.calls (k : Nat) (A0_0 : Option Addr) (c0_0 : Nat) (l0_0 : List (List Int)) (A0_1 : Option Addr) (c0_1 : Nat) (l0_1 : List (List Int)) (r : Bool) (w : World) (hr0_0 : Kd.C (Kd.slice 3 (Kd.int .i64)) w A0_0 l0_0.length l0_0) (hc0_0 : l0_0.length ≤ c0_0) (hr0_1 : Kd.C (Kd.slice 3 (Kd.int .i64)) w A0_1 l0_1.length l0_1) (hc0_1 : l0_1.length ≤ c0_1) (h : spec_PictureValid.f k l0_0 l0_1 = some r) :
  Calls Try.prog 17 #[.agg #[.slice A0_0 l0_0.length c0_0, .slice A0_1 l0_1.length c0_1]] w fun e w' => e = .returned (.bool r) ∧ Below w.heap.size w w' := by
 have hu25 := Try.underlying25
 have HR0_0 := am hr0_0
 have HC0_0 := am hc0_0
 clear hr0_0 hc0_0
 have HR0_1 := am hr0_1
 have HC0_1 := am hc0_1
 clear hr0_1 hc0_1
 have HB := am (Below.refl w.heap.size w)
 have H : (spec_PictureValid.l0 k 0 l0_0 l0_1) = some r := h
 clear h
 have H' := am H
 clear H
 go_enter Try.func17, Try.ntmps17
 go_wp2_with (first | ((with_reducible refine gate_dst (N := 1) rfl ?_); (try (refine gate_guard (by rfl) ?_; dsimp only)); refine box_event ?hg (N := 1) ?hd (cs := #[.slice A0_0 l0_0.length c0_0, .slice A0_1 l0_1.length c0_1]) (t := 25) ?hr ?_; (case hd => rfl); (case hg => rfl); (case hr => first | (go_simp; done) | (go_simp; rfl)); intro gb370 hg w2 hbox hb; have n0_ := am (below_step (bm HB) hb); have n1_ := am (hbox); have n2_ := am ((by rw [hg]; exact (below_size (bm HB)) : w.heap.size ≤ gb370)); have n3_ := am ((by rw [hg]; exact (below_size (bm HB)) : w.heap.size ≤ gb370)); clear HB; revert n0_ n1_ n2_ n3_; intro HB BK370 GW370 GE370; clear hb hbox hg))
 repeat (go_quiet (first | ((with_reducible refine gate_dst (N := 1) rfl ?_); (try (refine gate_guard (by rfl) ?_; dsimp only)); refine box_event ?hg (N := 1) ?hd (cs := #[.slice A0_0 l0_0.length c0_0, .slice A0_1 l0_1.length c0_1]) (t := 25) ?hr ?_; (case hd => rfl); (case hg => rfl); (case hr => first | (go_simp; done) | (go_simp; rfl)); intro gb370 hg w2 hbox hb; have n0_ := am (below_step (bm HB) hb); have n1_ := am (hbox); have n2_ := am ((by rw [hg]; exact (below_size (bm HB)) : w.heap.size ≤ gb370)); have n3_ := am ((by rw [hg]; exact (below_size (bm HB)) : w.heap.size ≤ gb370)); clear HB; revert n0_ n1_ n2_ n3_; intro HB BK370 GW370 GE370; clear hb hbox hg)); try go_wp2_with (first | ((with_reducible refine gate_dst (N := 1) rfl ?_); (try (refine gate_guard (by rfl) ?_; dsimp only)); refine box_event ?hg (N := 1) ?hd (cs := #[.slice A0_0 l0_0.length c0_0, .slice A0_1 l0_1.length c0_1]) (t := 25) ?hr ?_; (case hd => rfl); (case hg => rfl); (case hr => first | (go_simp; done) | (go_simp; rfl)); intro gb370 hg w2 hbox hb; have n0_ := am (below_step (bm HB) hb); have n1_ := am (hbox); have n2_ := am ((by rw [hg]; exact (below_size (bm HB)) : w.heap.size ≤ gb370)); have n3_ := am ((by rw [hg]; exact (below_size (bm HB)) : w.heap.size ≤ gb370)); clear HB; revert n0_ n1_ n2_ n3_; intro HB BK370 GW370 GE370; clear hb hbox hg)))
 go_loopg [3] k (fun kq v3 w' => ∃ (x3_1 : Int), v3 = .int .i64 x3_1 ∧ Aside0 (spec_PictureValid.l0 kq x3_1 l0_0 l0_1 = some r) ∧ Aside0 (kq ≤ k) ∧ Aside0 (w'.heap[gb370]? = some (.cells #[(.slice A0_0 l0_0.length c0_0), (.slice A0_1 l0_1.length c0_1)] 25 (0, 0))) ∧ Aside0 (Below w.heap.size w w'))
 case atStart => exact ⟨(0), rfl, H', ⟨Nat.le_refl _⟩, ⟨bv BK370.out⟩, ⟨by repeat (first | (with_reducible first | exact HB.out | apply below_alloc | apply pw_below_drewN | apply below_drew1 | refine below_set ?_ GE370.out) | exact HB.out)⟩⟩
 case round =>
  clear H'
  try clear c1
  try clear p2
  obtain ⟨x3_1, rfl, HA, HK1, BK370, HB⟩ := hrel
  cases gk with
  | zero => exact absurd HA.out (by simp [spec_PictureValid.l0])
  | succ k1 =>
   have H := HA.out
   clear HA
   simp only [spec_PictureValid.l0] at H
   by_cases c3 : x3_1 < (l0_0.length : Int)
   ·rw [if_pos c3] at H
    have c3b0 : decide (x3_1 < (l0_0.length : Int)) = true := decide_eq_true c3
    clear c3
    have q_ := ifs H
    clear H
    obtain ⟨c4, H⟩ := q_
    have c4b0 : decide (0 ≤ x3_1) = true := decide_eq_true c4
    clear c4
    replace H := Option.bind_eq_some_iff.mp H
    obtain ⟨t372, A50, H⟩ := H
    replace H : (if t372 = true then (spec_PictureValid.l0 k1 (wrap64 (x3_1 + 1)) l0_0 l0_1) else (some false)) = some r := H
    have A5 := am A50
    clear A50
    by_cases c6 : t372 = true
    ·subst c6
     rw [if_pos rfl] at H
     have H' := am H
     clear H
     have hcz7_0 : wr.cell? ⟨gb370, 0, none⟩ = some (.slice A0_0 l0_0.length c0_0) := (blk_cell BK370.out 0).trans rfl
     have hcz7_1 : wr.cell? ⟨gb370, 1, none⟩ = some (.slice A0_1 l0_1.length c0_1) := (blk_cell BK370.out 1).trans rfl
     have hfz7_0 := blk_frozen BK370.out 0
     have hfz7_1 := blk_frozen BK370.out 1
     have p371 : 0 ≤ (x3_1 : Int) := da
     have q371 : x3_1 < (l0_0.length : Int) := da
     obtain ⟨ad371, A371_0, c371_0, e371, hx371_0, hl371_0, hi371_0⟩ := at_L1 HR0_0.out x3_1 p371 q371
     cases e371
     replace hx371_0 := (HB.out.cell (World.block_lt_of_cell? w _ hx371_0)).trans hx371_0
     have HR371_0 := am hi371_0
     have HC371_0 := am hl371_0
     clear hi371_0 hl371_0
     replace p371 := eq_true p371
     replace q371 := eq_true q371
     go_wp2_with (first | (go_at_call 52; (with_reducible refine (spec_ClueValid.calls k1 _ _ (rd_L1 l0_0 x3_1) (l0_1.length : Int) true _ ?side1 ?side2 A5.out).mono ?_); (case side1 => repeat (first | exact (Kd.C_below HR371_0.out HB.out) | (with_reducible refine Kd.C_alloc ?_ _) | (with_reducible refine Kd.C_drewN ?_ _) | (with_reducible refine Kd.C_drew ?_))); (case side2 => exact HC371_0.out); rintro e w' ⟨rfl, ⟨nd, rfl⟩⟩; (try first | exact ⟨rfl, _, World.drewN_drewN _ _ _⟩ | exact ⟨rfl, _, Eq.trans (World.drewN_drewN _ _ _) (congrArg (World.drewN _) (Nat.add_assoc _ _ _))⟩)))
     repeat (go_quiet (first | (go_at_call 52; (with_reducible refine (spec_ClueValid.calls k1 _ _ (rd_L1 l0_0 x3_1) (l0_1.length : Int) true _ ?side1 ?side2 A5.out).mono ?_); (case side1 => repeat (first | exact (Kd.C_below HR371_0.out HB.out) | (with_reducible refine Kd.C_alloc ?_ _) | (with_reducible refine Kd.C_drewN ?_ _) | (with_reducible refine Kd.C_drew ?_))); (case side2 => exact HC371_0.out); rintro e w' ⟨rfl, ⟨nd, rfl⟩⟩; (try first | exact ⟨rfl, _, World.drewN_drewN _ _ _⟩ | exact ⟨rfl, _, Eq.trans (World.drewN_drewN _ _ _) (congrArg (World.drewN _) (Nat.add_assoc _ _ _))⟩))); try go_wp2_with (first | (go_at_call 52; (with_reducible refine (spec_ClueValid.calls k1 _ _ (rd_L1 l0_0 x3_1) (l0_1.length : Int) true _ ?side1 ?side2 A5.out).mono ?_); (case side1 => repeat (first | exact (Kd.C_below HR371_0.out HB.out) | (with_reducible refine Kd.C_alloc ?_ _) | (with_reducible refine Kd.C_drewN ?_ _) | (with_reducible refine Kd.C_drew ?_))); (case side2 => exact HC371_0.out); rintro e w' ⟨rfl, ⟨nd, rfl⟩⟩; (try first | exact ⟨rfl, _, World.drewN_drewN _ _ _⟩ | exact ⟨rfl, _, Eq.trans (World.drewN_drewN _ _ _) (congrArg (World.drewN _) (Nat.add_assoc _ _ _))⟩))))
     go_roundg k1
     case measure => have := HK1.out; omega
     case rel => exact ⟨(wrap64 (x3_1 + 1)), rfl, H', ⟨by have := HK1.out; omega⟩, ⟨bv BK370.out⟩, ⟨by repeat (first | (with_reducible first | exact HB.out | apply below_alloc | apply pw_below_drewN | apply below_drew1 | refine below_set ?_ GE370.out) | exact HB.out)⟩⟩
    ·replace c6 := Bool.eq_false_iff.mpr c6
     subst c6
     rw [if_neg (show ¬ (false = true) by decide)] at H
     obtain rfl := Option.some.inj H
     have hcz8_0 : wr.cell? ⟨gb370, 0, none⟩ = some (.slice A0_0 l0_0.length c0_0) := (blk_cell BK370.out 0).trans rfl
     have hcz8_1 : wr.cell? ⟨gb370, 1, none⟩ = some (.slice A0_1 l0_1.length c0_1) := (blk_cell BK370.out 1).trans rfl
     have hfz8_0 := blk_frozen BK370.out 0
     have hfz8_1 := blk_frozen BK370.out 1
     have p371 : 0 ≤ (x3_1 : Int) := da
     have q371 : x3_1 < (l0_0.length : Int) := da
     obtain ⟨ad371, A371_0, c371_0, e371, hx371_0, hl371_0, hi371_0⟩ := at_L1 HR0_0.out x3_1 p371 q371
     cases e371
     replace hx371_0 := (HB.out.cell (World.block_lt_of_cell? w _ hx371_0)).trans hx371_0
     have HR371_0 := am hi371_0
     have HC371_0 := am hl371_0
     clear hi371_0 hl371_0
     replace p371 := eq_true p371
     replace q371 := eq_true q371
     go_wp2_with (first | (go_at_call 52; (with_reducible refine (spec_ClueValid.calls k1 _ _ (rd_L1 l0_0 x3_1) (l0_1.length : Int) false _ ?side1 ?side2 A5.out).mono ?_); (case side1 => repeat (first | exact (Kd.C_below HR371_0.out HB.out) | (with_reducible refine Kd.C_alloc ?_ _) | (with_reducible refine Kd.C_drewN ?_ _) | (with_reducible refine Kd.C_drew ?_))); (case side2 => exact HC371_0.out); rintro e w' ⟨rfl, ⟨nd, rfl⟩⟩; (try first | exact ⟨rfl, _, World.drewN_drewN _ _ _⟩ | exact ⟨rfl, _, Eq.trans (World.drewN_drewN _ _ _) (congrArg (World.drewN _) (Nat.add_assoc _ _ _))⟩)))
     repeat (go_quiet (first | (go_at_call 52; (with_reducible refine (spec_ClueValid.calls k1 _ _ (rd_L1 l0_0 x3_1) (l0_1.length : Int) false _ ?side1 ?side2 A5.out).mono ?_); (case side1 => repeat (first | exact (Kd.C_below HR371_0.out HB.out) | (with_reducible refine Kd.C_alloc ?_ _) | (with_reducible refine Kd.C_drewN ?_ _) | (with_reducible refine Kd.C_drew ?_))); (case side2 => exact HC371_0.out); rintro e w' ⟨rfl, ⟨nd, rfl⟩⟩; (try first | exact ⟨rfl, _, World.drewN_drewN _ _ _⟩ | exact ⟨rfl, _, Eq.trans (World.drewN_drewN _ _ _) (congrArg (World.drewN _) (Nat.add_assoc _ _ _))⟩))); try go_wp2_with (first | (go_at_call 52; (with_reducible refine (spec_ClueValid.calls k1 _ _ (rd_L1 l0_0 x3_1) (l0_1.length : Int) false _ ?side1 ?side2 A5.out).mono ?_); (case side1 => repeat (first | exact (Kd.C_below HR371_0.out HB.out) | (with_reducible refine Kd.C_alloc ?_ _) | (with_reducible refine Kd.C_drewN ?_ _) | (with_reducible refine Kd.C_drew ?_))); (case side2 => exact HC371_0.out); rintro e w' ⟨rfl, ⟨nd, rfl⟩⟩; (try first | exact ⟨rfl, _, World.drewN_drewN _ _ _⟩ | exact ⟨rfl, _, Eq.trans (World.drewN_drewN _ _ _) (congrArg (World.drewN _) (Nat.add_assoc _ _ _))⟩))))
     go_ret
     exact ⟨rfl, by repeat (first | (with_reducible first | exact HB.out | apply below_alloc | apply pw_below_drewN | apply below_drew1 | refine below_set ?_ GE370.out) | exact HB.out)⟩
   ·rw [if_neg c3] at H
    have c3b0 : decide (x3_1 < (l0_0.length : Int)) = false := decide_eq_false c3
    clear c3
    have H' := am H
    clear H
    have hcz9_0 : wr.cell? ⟨gb370, 0, none⟩ = some (.slice A0_0 l0_0.length c0_0) := (blk_cell BK370.out 0).trans rfl
    have hcz9_1 : wr.cell? ⟨gb370, 1, none⟩ = some (.slice A0_1 l0_1.length c0_1) := (blk_cell BK370.out 1).trans rfl
    have hfz9_0 := blk_frozen BK370.out 0
    have hfz9_1 := blk_frozen BK370.out 1
    go_wp2
    repeat (go_quiet (fail); try go_wp2)
    go_loopg [4] k1 (fun kq v4 w' => ∃ (x4_2 : Int), v4 = .int .i64 x4_2 ∧ Aside0 (spec_PictureValid.l1 kq x4_2 l0_0 l0_1 = some r) ∧ Aside0 (kq ≤ k1) ∧ Aside0 (w'.heap[gb370]? = some (.cells #[(.slice A0_0 l0_0.length c0_0), (.slice A0_1 l0_1.length c0_1)] 25 (0, 0))) ∧ Aside0 (Below w.heap.size w w'))
    case atStart => exact ⟨(0), rfl, H', ⟨Nat.le_refl _⟩, ⟨bv BK370.out⟩, ⟨by repeat (first | (with_reducible first | exact HB.out | apply below_alloc | apply pw_below_drewN | apply below_drew1 | refine below_set ?_ GE370.out) | exact HB.out)⟩⟩
    case round =>
     clear H'
     try clear c1
     try clear p2
     try clear c3
     try clear c3b0
     try clear p3
     try clear q3
     try clear hx3
     try clear c4
     try clear c4b0
     try clear c6
     try clear p6
     try clear hcz7_0
     try clear hcz7_1
     try clear hcz8_0
     try clear hcz8_1
     try clear hcz9_0
     try clear hcz9_1
     try clear hfz7_0
     try clear hfz7_1
     try clear hfz8_0
     try clear hfz8_1
     try clear hfz9_0
     try clear hfz9_1
     try clear hx371_0
     try clear p2
     try clear p371
     try clear q371
     obtain ⟨x4_2, rfl, HA, HK2, BK370, HB⟩ := hrel
     cases gk with
     | zero => exact absurd HA.out (by simp [spec_PictureValid.l1])
     | succ k2 =>
      have H := HA.out
      clear HA
      simp only [spec_PictureValid.l1] at H
      by_cases c10 : x4_2 < (l0_1.length : Int)
      ·rw [if_pos c10] at H
       have c10b0 : decide (x4_2 < (l0_1.length : Int)) = true := decide_eq_true c10
       clear c10
       have q_ := ifs H
       clear H
       obtain ⟨c11, H⟩ := q_
       have c11b0 : decide (0 ≤ x4_2) = true := decide_eq_true c11
       clear c11
       replace H := Option.bind_eq_some_iff.mp H
       obtain ⟨t374, A120, H⟩ := H
       replace H : (if t374 = true then (spec_PictureValid.l1 k2 (wrap64 (x4_2 + 1)) l0_0 l0_1) else (some false)) = some r := H
       have A12 := am A120
       clear A120
       by_cases c13 : t374 = true
       ·subst c13
        rw [if_pos rfl] at H
        have H' := am H
        clear H
        have hcz14_0 : wr.cell? ⟨gb370, 0, none⟩ = some (.slice A0_0 l0_0.length c0_0) := (blk_cell BK370.out 0).trans rfl
        have hcz14_1 : wr.cell? ⟨gb370, 1, none⟩ = some (.slice A0_1 l0_1.length c0_1) := (blk_cell BK370.out 1).trans rfl
        have hfz14_0 := blk_frozen BK370.out 0
        have hfz14_1 := blk_frozen BK370.out 1
        have p373 : 0 ≤ (x4_2 : Int) := da
        have q373 : x4_2 < (l0_1.length : Int) := da
        obtain ⟨ad373, A373_0, c373_0, e373, hx373_0, hl373_0, hi373_0⟩ := at_L1 HR0_1.out x4_2 p373 q373
        cases e373
        replace hx373_0 := (HB.out.cell (World.block_lt_of_cell? w _ hx373_0)).trans hx373_0
        have HR373_0 := am hi373_0
        have HC373_0 := am hl373_0
        clear hi373_0 hl373_0
        replace p373 := eq_true p373
        replace q373 := eq_true q373
        go_wp2_with (first | (go_at_call 52; (with_reducible refine (spec_ClueValid.calls k2 _ _ (rd_L1 l0_1 x4_2) (l0_0.length : Int) true _ ?side1 ?side2 A12.out).mono ?_); (case side1 => repeat (first | exact (Kd.C_below HR373_0.out HB.out) | (with_reducible refine Kd.C_alloc ?_ _) | (with_reducible refine Kd.C_drewN ?_ _) | (with_reducible refine Kd.C_drew ?_))); (case side2 => exact HC373_0.out); rintro e w' ⟨rfl, ⟨nd, rfl⟩⟩; (try first | exact ⟨rfl, _, World.drewN_drewN _ _ _⟩ | exact ⟨rfl, _, Eq.trans (World.drewN_drewN _ _ _) (congrArg (World.drewN _) (Nat.add_assoc _ _ _))⟩)))
        repeat (go_quiet (first | (go_at_call 52; (with_reducible refine (spec_ClueValid.calls k2 _ _ (rd_L1 l0_1 x4_2) (l0_0.length : Int) true _ ?side1 ?side2 A12.out).mono ?_); (case side1 => repeat (first | exact (Kd.C_below HR373_0.out HB.out) | (with_reducible refine Kd.C_alloc ?_ _) | (with_reducible refine Kd.C_drewN ?_ _) | (with_reducible refine Kd.C_drew ?_))); (case side2 => exact HC373_0.out); rintro e w' ⟨rfl, ⟨nd, rfl⟩⟩; (try first | exact ⟨rfl, _, World.drewN_drewN _ _ _⟩ | exact ⟨rfl, _, Eq.trans (World.drewN_drewN _ _ _) (congrArg (World.drewN _) (Nat.add_assoc _ _ _))⟩))); try go_wp2_with (first | (go_at_call 52; (with_reducible refine (spec_ClueValid.calls k2 _ _ (rd_L1 l0_1 x4_2) (l0_0.length : Int) true _ ?side1 ?side2 A12.out).mono ?_); (case side1 => repeat (first | exact (Kd.C_below HR373_0.out HB.out) | (with_reducible refine Kd.C_alloc ?_ _) | (with_reducible refine Kd.C_drewN ?_ _) | (with_reducible refine Kd.C_drew ?_))); (case side2 => exact HC373_0.out); rintro e w' ⟨rfl, ⟨nd, rfl⟩⟩; (try first | exact ⟨rfl, _, World.drewN_drewN _ _ _⟩ | exact ⟨rfl, _, Eq.trans (World.drewN_drewN _ _ _) (congrArg (World.drewN _) (Nat.add_assoc _ _ _))⟩))))
        go_roundg k2
        case measure => have := HK1.out; have := HK2.out; omega
        case rel => exact ⟨(wrap64 (x4_2 + 1)), rfl, H', ⟨by have := HK1.out; have := HK2.out; omega⟩, ⟨bv BK370.out⟩, ⟨by repeat (first | (with_reducible first | exact HB.out | apply below_alloc | apply pw_below_drewN | apply below_drew1 | refine below_set ?_ GE370.out) | exact HB.out)⟩⟩
       ·replace c13 := Bool.eq_false_iff.mpr c13
        subst c13
        rw [if_neg (show ¬ (false = true) by decide)] at H
        obtain rfl := Option.some.inj H
        have hcz15_0 : wr.cell? ⟨gb370, 0, none⟩ = some (.slice A0_0 l0_0.length c0_0) := (blk_cell BK370.out 0).trans rfl
        have hcz15_1 : wr.cell? ⟨gb370, 1, none⟩ = some (.slice A0_1 l0_1.length c0_1) := (blk_cell BK370.out 1).trans rfl
        have hfz15_0 := blk_frozen BK370.out 0
        have hfz15_1 := blk_frozen BK370.out 1
        have p373 : 0 ≤ (x4_2 : Int) := da
        have q373 : x4_2 < (l0_1.length : Int) := da
        obtain ⟨ad373, A373_0, c373_0, e373, hx373_0, hl373_0, hi373_0⟩ := at_L1 HR0_1.out x4_2 p373 q373
        cases e373
        replace hx373_0 := (HB.out.cell (World.block_lt_of_cell? w _ hx373_0)).trans hx373_0
        have HR373_0 := am hi373_0
        have HC373_0 := am hl373_0
        clear hi373_0 hl373_0
        replace p373 := eq_true p373
        replace q373 := eq_true q373
        go_wp2_with (first | (go_at_call 52; (with_reducible refine (spec_ClueValid.calls k2 _ _ (rd_L1 l0_1 x4_2) (l0_0.length : Int) false _ ?side1 ?side2 A12.out).mono ?_); (case side1 => repeat (first | exact (Kd.C_below HR373_0.out HB.out) | (with_reducible refine Kd.C_alloc ?_ _) | (with_reducible refine Kd.C_drewN ?_ _) | (with_reducible refine Kd.C_drew ?_))); (case side2 => exact HC373_0.out); rintro e w' ⟨rfl, ⟨nd, rfl⟩⟩; (try first | exact ⟨rfl, _, World.drewN_drewN _ _ _⟩ | exact ⟨rfl, _, Eq.trans (World.drewN_drewN _ _ _) (congrArg (World.drewN _) (Nat.add_assoc _ _ _))⟩)))
        repeat (go_quiet (first | (go_at_call 52; (with_reducible refine (spec_ClueValid.calls k2 _ _ (rd_L1 l0_1 x4_2) (l0_0.length : Int) false _ ?side1 ?side2 A12.out).mono ?_); (case side1 => repeat (first | exact (Kd.C_below HR373_0.out HB.out) | (with_reducible refine Kd.C_alloc ?_ _) | (with_reducible refine Kd.C_drewN ?_ _) | (with_reducible refine Kd.C_drew ?_))); (case side2 => exact HC373_0.out); rintro e w' ⟨rfl, ⟨nd, rfl⟩⟩; (try first | exact ⟨rfl, _, World.drewN_drewN _ _ _⟩ | exact ⟨rfl, _, Eq.trans (World.drewN_drewN _ _ _) (congrArg (World.drewN _) (Nat.add_assoc _ _ _))⟩))); try go_wp2_with (first | (go_at_call 52; (with_reducible refine (spec_ClueValid.calls k2 _ _ (rd_L1 l0_1 x4_2) (l0_0.length : Int) false _ ?side1 ?side2 A12.out).mono ?_); (case side1 => repeat (first | exact (Kd.C_below HR373_0.out HB.out) | (with_reducible refine Kd.C_alloc ?_ _) | (with_reducible refine Kd.C_drewN ?_ _) | (with_reducible refine Kd.C_drew ?_))); (case side2 => exact HC373_0.out); rintro e w' ⟨rfl, ⟨nd, rfl⟩⟩; (try first | exact ⟨rfl, _, World.drewN_drewN _ _ _⟩ | exact ⟨rfl, _, Eq.trans (World.drewN_drewN _ _ _) (congrArg (World.drewN _) (Nat.add_assoc _ _ _))⟩))))
        go_ret
        exact ⟨rfl, by repeat (first | (with_reducible first | exact HB.out | apply below_alloc | apply pw_below_drewN | apply below_drew1 | refine below_set ?_ GE370.out) | exact HB.out)⟩
      ·rw [if_neg c10] at H
       have c10b0 : decide (x4_2 < (l0_1.length : Int)) = false := decide_eq_false c10
       clear c10
       replace H := Option.bind_eq_some_iff.mp H
       obtain ⟨t375, A160, H⟩ := H
       replace H : (if t375 = true then ((spec_l1In.f (l0_1.length : Int) 1 5).bind fun t376 => (some t376)) else (some false)) = some r := H
       have A16 := am A160
       clear A160
       by_cases c17 : t375 = true
       ·subst c17
        rw [if_pos rfl] at H
        replace H := Option.bind_eq_some_iff.mp H
        obtain ⟨t376, A180, H⟩ := H
        replace H : (some t376) = some r := H
        have A18 := am A180
        clear A180
        obtain rfl := Option.some.inj H
        have hcz19_0 : wr.cell? ⟨gb370, 0, none⟩ = some (.slice A0_0 l0_0.length c0_0) := (blk_cell BK370.out 0).trans rfl
        have hcz19_1 : wr.cell? ⟨gb370, 1, none⟩ = some (.slice A0_1 l0_1.length c0_1) := (blk_cell BK370.out 1).trans rfl
        have hfz19_0 := blk_frozen BK370.out 0
        have hfz19_1 := blk_frozen BK370.out 1
        go_wp2_with (first | (go_at_call 53; (with_reducible refine (spec_l1In.calls (l0_0.length : Int) 1 5 true _ A16.out).mono ?_); rintro e w' ⟨rfl, ⟨nd, rfl⟩⟩; (try first | exact ⟨rfl, _, World.drewN_drewN _ _ _⟩ | exact ⟨rfl, _, Eq.trans (World.drewN_drewN _ _ _) (congrArg (World.drewN _) (Nat.add_assoc _ _ _))⟩)) | (go_at_call 53; (with_reducible refine (spec_l1In.calls (l0_1.length : Int) 1 5 t376 _ A18.out).mono ?_); rintro e w' ⟨rfl, ⟨nd, rfl⟩⟩; (try first | exact ⟨rfl, _, World.drewN_drewN _ _ _⟩ | exact ⟨rfl, _, Eq.trans (World.drewN_drewN _ _ _) (congrArg (World.drewN _) (Nat.add_assoc _ _ _))⟩)))
        repeat (go_quiet (first | (go_at_call 53; (with_reducible refine (spec_l1In.calls (l0_0.length : Int) 1 5 true _ A16.out).mono ?_); rintro e w' ⟨rfl, ⟨nd, rfl⟩⟩; (try first | exact ⟨rfl, _, World.drewN_drewN _ _ _⟩ | exact ⟨rfl, _, Eq.trans (World.drewN_drewN _ _ _) (congrArg (World.drewN _) (Nat.add_assoc _ _ _))⟩)) | (go_at_call 53; (with_reducible refine (spec_l1In.calls (l0_1.length : Int) 1 5 t376 _ A18.out).mono ?_); rintro e w' ⟨rfl, ⟨nd, rfl⟩⟩; (try first | exact ⟨rfl, _, World.drewN_drewN _ _ _⟩ | exact ⟨rfl, _, Eq.trans (World.drewN_drewN _ _ _) (congrArg (World.drewN _) (Nat.add_assoc _ _ _))⟩))); try go_wp2_with (first | (go_at_call 53; (with_reducible refine (spec_l1In.calls (l0_0.length : Int) 1 5 true _ A16.out).mono ?_); rintro e w' ⟨rfl, ⟨nd, rfl⟩⟩; (try first | exact ⟨rfl, _, World.drewN_drewN _ _ _⟩ | exact ⟨rfl, _, Eq.trans (World.drewN_drewN _ _ _) (congrArg (World.drewN _) (Nat.add_assoc _ _ _))⟩)) | (go_at_call 53; (with_reducible refine (spec_l1In.calls (l0_1.length : Int) 1 5 t376 _ A18.out).mono ?_); rintro e w' ⟨rfl, ⟨nd, rfl⟩⟩; (try first | exact ⟨rfl, _, World.drewN_drewN _ _ _⟩ | exact ⟨rfl, _, Eq.trans (World.drewN_drewN _ _ _) (congrArg (World.drewN _) (Nat.add_assoc _ _ _))⟩))))
        go_ret
        exact ⟨rfl, by repeat (first | (with_reducible first | exact HB.out | apply below_alloc | apply pw_below_drewN | apply below_drew1 | refine below_set ?_ GE370.out) | exact HB.out)⟩
       ·replace c17 := Bool.eq_false_iff.mpr c17
        subst c17
        rw [if_neg (show ¬ (false = true) by decide)] at H
        obtain rfl := Option.some.inj H
        have hcz20_0 : wr.cell? ⟨gb370, 0, none⟩ = some (.slice A0_0 l0_0.length c0_0) := (blk_cell BK370.out 0).trans rfl
        have hcz20_1 : wr.cell? ⟨gb370, 1, none⟩ = some (.slice A0_1 l0_1.length c0_1) := (blk_cell BK370.out 1).trans rfl
        have hfz20_0 := blk_frozen BK370.out 0
        have hfz20_1 := blk_frozen BK370.out 1
        go_wp2_with (first | (go_at_call 53; (with_reducible refine (spec_l1In.calls (l0_0.length : Int) 1 5 false _ A16.out).mono ?_); rintro e w' ⟨rfl, ⟨nd, rfl⟩⟩; (try first | exact ⟨rfl, _, World.drewN_drewN _ _ _⟩ | exact ⟨rfl, _, Eq.trans (World.drewN_drewN _ _ _) (congrArg (World.drewN _) (Nat.add_assoc _ _ _))⟩)))
        repeat (go_quiet (first | (go_at_call 53; (with_reducible refine (spec_l1In.calls (l0_0.length : Int) 1 5 false _ A16.out).mono ?_); rintro e w' ⟨rfl, ⟨nd, rfl⟩⟩; (try first | exact ⟨rfl, _, World.drewN_drewN _ _ _⟩ | exact ⟨rfl, _, Eq.trans (World.drewN_drewN _ _ _) (congrArg (World.drewN _) (Nat.add_assoc _ _ _))⟩))); try go_wp2_with (first | (go_at_call 53; (with_reducible refine (spec_l1In.calls (l0_0.length : Int) 1 5 false _ A16.out).mono ?_); rintro e w' ⟨rfl, ⟨nd, rfl⟩⟩; (try first | exact ⟨rfl, _, World.drewN_drewN _ _ _⟩ | exact ⟨rfl, _, Eq.trans (World.drewN_drewN _ _ _) (congrArg (World.drewN _) (Nat.add_assoc _ _ _))⟩))))
        go_ret
        exact ⟨rfl, by repeat (first | (with_reducible first | exact HB.out | apply below_alloc | apply pw_below_drewN | apply below_drew1 | refine below_set ?_ GE370.out) | exact HB.out)⟩
/-! ### spec_l13Blank: function 49 -/
mutual
def spec_l13Blank.l0 : Nat → List (List Int) → Int → List (List Int) → List (List Int) → Option ((List (List Int)))
 | 0, _, _, _, _ => none
 | k + 1, x3, x4, x378000, x378001 => if x4 < (x378000.length : Int) then (spec_l13Blank.l1 k x3 x4 (([] : List Int)) 0 x378000 x378001) else (some x3)
def spec_l13Blank.l1 : Nat → List (List Int) → Int → List Int → Int → List (List Int) → List (List Int) → Option ((List (List Int)))
 | 0, _, _, _, _, _, _ => none
 | k + 1, x3, x4, x5, x6, x378000, x378001 => if x6 < (x378001.length : Int) then (if x5.length < 17592186044416 then (spec_l13Blank.l1 k x3 x4 (x5 ++ [(-1)]) (wrap64 (x6 + 1)) x378000 x378001) else (none)) else (if x3.length < 5864062014805 then (spec_l13Blank.l0 k (x3 ++ [x5]) (wrap64 (x4 + 1)) x378000 x378001) else (none))
end
def spec_l13Blank.f (k : Nat) (l0_0 : List (List Int)) (l0_1 : List (List Int)) : Option ((List (List Int))) := spec_l13Blank.l0 k (([] : List (List Int))) 0 l0_0 l0_1
set_option maxHeartbeats 8000000 in
set_option maxRecDepth 100000 in
theorem spec_l13Blank.calls (k : Nat) (A0_0 : Option Addr) (c0_0 : Nat) (l0_0 : List (List Int)) (A0_1 : Option Addr) (c0_1 : Nat) (l0_1 : List (List Int)) (r : List (List Int)) (w : World) (hr0_0 : Kd.C (Kd.slice 3 (Kd.int .i64)) w A0_0 l0_0.length l0_0) (hc0_0 : l0_0.length ≤ c0_0) (hr0_1 : Kd.C (Kd.slice 3 (Kd.int .i64)) w A0_1 l0_1.length l0_1) (hc0_1 : l0_1.length ≤ c0_1) (h : spec_l13Blank.f k l0_0 l0_1 = some r) :
  Calls Try.prog 49 #[.agg #[.slice A0_0 l0_0.length c0_0, .slice A0_1 l0_1.length c0_1]] w fun e w' => ∃ v0_ : Value, e = .returned (v0_) ∧ Kd.S (Kd.slice 3 (Kd.int .i64)) 36 w' w.heap.size (fun _ => True) v0_ r ∧ Below w.heap.size w w' := by
 have hu25 := Try.underlying25
 have HR0_0 := am hr0_0
 have HC0_0 := am hc0_0
 clear hr0_0 hc0_0
 have HR0_1 := am hr0_1
 have HC0_1 := am hc0_1
 clear hr0_1 hc0_1
 have HB := am (Below.refl w.heap.size w)
 have H : (spec_l13Blank.l0 k (([] : List (List Int))) 0 l0_0 l0_1) = some r := h
 clear h
 obtain ⟨y378, hy378⟩ : ∃ y_ : List (List Int), y_ = (([] : List (List Int))) := ⟨_, rfl⟩
 replace H : (spec_l13Blank.l0 k y378 0 l0_0 l0_1) = some r := by first | (rw [hy378]; with_reducible exact H) | (have H2_ := (Option.bind_some _ _).symm.trans H; rw [hy378]; with_reducible exact H2_) | (have H2_ := (Option.bind_some _ _).symm.trans H; with_reducible exact H2_) | with_reducible exact H | (rw [hy378]; exact H) | exact H
 have Ny378 := am hy378
 clear hy378
 have H' := am H
 clear H
 go_enter Try.func49, Try.ntmps49
 go_wp2_with (first | ((with_reducible refine gate_dst (N := 1) rfl ?_); refine box_event ?hg (N := 1) ?hd (cs := #[.slice A0_0 l0_0.length c0_0, .slice A0_1 l0_1.length c0_1]) (t := 25) ?hr ?_; (case hd => rfl); (case hg => rfl); (case hr => first | (go_simp; done) | (go_simp; rfl)); intro gb377 hg w2 hbox hb; have n0_ := am (below_step (bm HB) hb); have n1_ := am (hbox); have n2_ := am ((by rw [hg]; exact (below_size (bm HB)) : w.heap.size ≤ gb377)); have n3_ := am ((by rw [hg]; exact (below_size (bm HB)) : w.heap.size ≤ gb377)); clear HB; revert n0_ n1_ n2_ n3_; intro HB BK377 GW377 GE377; clear hb hbox hg) | ((with_reducible refine gate_dst (N := 7) rfl ?_); refine Kd.S_lit (Kd.slice 3 (Kd.int .i64)) _ 36 ?hg (N := 7) ?hd (xs := ([] : List (List Int))) (inner := []) (ok := fun _ => True) (okp := fun _ => True) ?hr ?hp (fun _ hk => hk) trivial (Below.refl _ _) (Nat.le_refl _) (by simp) ?_; (case hd => rfl); (case hg => rfl); (case hr => first | (go_simp; done) | (go_simp; rfl)); (case hp => exact (Reps.none _ _)); intro v379 w3 ho4 hb hg_ hnew_; clear hg_ hnew_; (first | rw [← Ny378.out] at ho4 | (simp only [Int.reduceToNat] at ho4; rw [← Ny378.out] at ho4)); have n0_ := am (Kd.S_lower ho4 (below_size (by repeat (first | (with_reducible first | exact HB.out | apply below_alloc | apply pw_below_drewN | apply below_drew1 | refine below_set ?_ GE377.out) | exact HB.out)))); have n1_ := am (blk_below (g := gb377) (o := .cells #[.slice A0_0 l0_0.length c0_0, .slice A0_1 l0_1.length c0_1] 25 (0, 0)) (bv BK377.out) hb); have n2_ := am (below_step (by repeat (first | (with_reducible first | exact HB.out | apply below_alloc | apply pw_below_drewN | apply below_drew1 | refine below_set ?_ GE377.out) | exact HB.out)) hb); clear BK377 HB; revert n0_ n1_ n2_; intro HO380 BK377 HB; clear hb ho4))
 go_loopg [3, 4] k (fun kq v3 v4 w' => ∃ (x3_1 : List (List Int)) (x4_1 : Int), v4 = .int .i64 x4_1 ∧ Aside0 (spec_l13Blank.l0 kq x3_1 x4_1 l0_0 l0_1 = some r) ∧ Aside0 (kq ≤ k) ∧ Aside0 (Kd.S (Kd.slice 3 (Kd.int .i64)) 36 w' w.heap.size (fun _ => True) v3 x3_1) ∧ Aside0 (w'.heap[gb377]? = some (.cells #[(.slice A0_0 l0_0.length c0_0), (.slice A0_1 l0_1.length c0_1)] 25 (0, 0))) ∧ Aside0 (Below w.heap.size w w'))
 case atStart => exact ⟨(y378), (0), rfl, H', ⟨Nat.le_refl _⟩, ⟨by (with_reducible repeat (first | apply Kd.S_alloc | apply Kd.S_drewN | apply Kd.S_drew)); exact HO380.out⟩, ⟨bv BK377.out⟩, ⟨by repeat (first | (with_reducible first | exact HB.out | apply below_alloc | apply pw_below_drewN | apply below_drew1 | refine below_set ?_ GE377.out) | exact HB.out)⟩⟩
 case round =>
  clear H'
  try clear p2
  try clear c4
  obtain ⟨x3_1, x4_1, rfl, HA, HK1, HO_3, BK377, HB⟩ := hrel
  cases gk with
  | zero => exact absurd HA.out (by simp [spec_l13Blank.l0])
  | succ k1 =>
   have H := HA.out
   clear HA
   simp only [spec_l13Blank.l0] at H
   by_cases c5 : x4_1 < (l0_0.length : Int)
   ·rw [if_pos c5] at H
    have c5b0 : decide (x4_1 < (l0_0.length : Int)) = true := decide_eq_true c5
    clear c5
    obtain ⟨y381, hy381⟩ : ∃ y_ : List Int, y_ = (([] : List Int)) := ⟨_, rfl⟩
    replace H : (spec_l13Blank.l1 k1 x3_1 x4_1 y381 0 l0_0 l0_1) = some r := by first | (rw [hy381]; with_reducible exact H) | (have H2_ := (Option.bind_some _ _).symm.trans H; rw [hy381]; with_reducible exact H2_) | (have H2_ := (Option.bind_some _ _).symm.trans H; with_reducible exact H2_) | with_reducible exact H | (rw [hy381]; exact H) | exact H
    have Ny381 := am hy381
    clear hy381
    have H' := am H
    clear H
    have hcz6_0 : wr.cell? ⟨gb377, 0, none⟩ = some (.slice A0_0 l0_0.length c0_0) := (blk_cell BK377.out 0).trans rfl
    have hcz6_1 : wr.cell? ⟨gb377, 1, none⟩ = some (.slice A0_1 l0_1.length c0_1) := (blk_cell BK377.out 1).trans rfl
    have hfz6_0 := blk_frozen BK377.out 0
    have hfz6_1 := blk_frozen BK377.out 1
    go_wp2_with (first | ((with_reducible refine gate_dst (N := 15) rfl ?_); refine Kd.R_lit (Kd.int .i64) _ 3 ?hg (N := 15) ?hd (xs := ([] : List Int)) (inner := []) (ok := fun _ => True) (okp := fun _ => True) ?hr ?hp (fun _ hk => hk) trivial (Below.refl _ _) (Nat.le_refl _) (by simp) ?_; (case hd => rfl); (case hg => rfl); (case hr => first | (go_simp; done) | (go_simp; rfl)); (case hp => exact (Reps.none _ _)); intro v382 w7 ho8 hb hg_ hnew_; clear hg_ hnew_; (first | rw [← Ny381.out] at ho8 | (simp only [Int.reduceToNat] at ho8; rw [← Ny381.out] at ho8)); have n0_ := am (Kd.S_elder' (by (with_reducible repeat (first | apply Kd.S_alloc | apply Kd.S_drewN | apply Kd.S_drew)); exact HO_3.out) (Kd.R_base ho8) hb); have n1_ := am (Kd.R_lower ho8 (below_size (by repeat (first | (with_reducible first | exact HB.out | apply below_alloc | apply pw_below_drewN | apply below_drew1 | refine below_set ?_ GE377.out) | exact HB.out)))); have n2_ := am (blk_below (g := gb377) (o := .cells #[.slice A0_0 l0_0.length c0_0, .slice A0_1 l0_1.length c0_1] 25 (0, 0)) (bv BK377.out) hb); have n3_ := am (below_step (by repeat (first | (with_reducible first | exact HB.out | apply below_alloc | apply pw_below_drewN | apply below_drew1 | refine below_set ?_ GE377.out) | exact HB.out)) hb); clear HO_3 BK377 HB; revert n0_ n1_ n2_ n3_; intro HO_3 HO383 BK377 HB; clear hb ho8))
    go_loopg [5, 6] k1 (fun kq v5 v6 w' => ∃ (x5_2 : List Int) (x6_2 : Int), v6 = .int .i64 x6_2 ∧ Aside0 (spec_l13Blank.l1 kq x3_1 x4_1 x5_2 x6_2 l0_0 l0_1 = some r) ∧ Aside0 (kq ≤ k1) ∧ Aside0 (Kd.S (Kd.slice 3 (Kd.int .i64)) 36 w' w.heap.size (fun k_ => some k_ ≠ (v5 : Value).ownBlock) u3 x3_1) ∧ Aside0 (Kd.R (Kd.int .i64) 3 w' w.heap.size (fun _ => True) v5 x5_2) ∧ Aside0 (w'.heap[gb377]? = some (.cells #[(.slice A0_0 l0_0.length c0_0), (.slice A0_1 l0_1.length c0_1)] 25 (0, 0))) ∧ Aside0 (Below w.heap.size w w'))
    case atStart => exact ⟨(y381), (0), rfl, H', ⟨Nat.le_refl _⟩, ⟨by (with_reducible repeat (first | apply Kd.S_alloc | apply Kd.S_drewN | apply Kd.S_drew)); exact Kd.S_mono HO_3.out (fun _ hk => hk.2)⟩, ⟨Kd.rv HO383.out⟩, ⟨bv BK377.out⟩, ⟨by repeat (first | (with_reducible first | exact HB.out | apply below_alloc | apply pw_below_drewN | apply below_drew1 | refine below_set ?_ GE377.out) | exact HB.out)⟩⟩
    case round =>
     clear H'
     try clear p2
     try clear c4
     try clear c5
     try clear c5b0
     try clear hcz6_0
     try clear hcz6_1
     try clear hfz6_0
     try clear hfz6_1
     try clear p2
     obtain ⟨x5_2, x6_2, rfl, HA, HK2, HO_3, HO_5, BK377, HB⟩ := hrel
     cases gk with
     | zero => exact absurd HA.out (by simp [spec_l13Blank.l1])
     | succ k2 =>
      have H := HA.out
      clear HA
      simp only [spec_l13Blank.l1] at H
      by_cases c9 : x6_2 < (l0_1.length : Int)
      ·rw [if_pos c9] at H
       have c9b0 : decide (x6_2 < (l0_1.length : Int)) = true := decide_eq_true c9
       clear c9
       have q_ := ifs H
       clear H
       obtain ⟨c10, H⟩ := q_
       have LMc10 := am c10
       clear c10
       obtain ⟨y384, hy384⟩ : ∃ y_ : List Int, y_ = (x5_2 ++ [(-1)]) := ⟨_, rfl⟩
       replace H : (spec_l13Blank.l1 k2 x3_1 x4_1 y384 (wrap64 (x6_2 + 1)) l0_0 l0_1) = some r := by first | (rw [hy384]; with_reducible exact H) | (have H2_ := (Option.bind_some _ _).symm.trans H; rw [hy384]; with_reducible exact H2_) | (have H2_ := (Option.bind_some _ _).symm.trans H; with_reducible exact H2_) | with_reducible exact H | (rw [hy384]; exact H) | exact H
       have Ny384 := am hy384
       clear hy384
       have H' := am H
       clear H
       have hcz11_0 : wr.cell? ⟨gb377, 0, none⟩ = some (.slice A0_0 l0_0.length c0_0) := (blk_cell BK377.out 0).trans rfl
       have hcz11_1 : wr.cell? ⟨gb377, 1, none⟩ = some (.slice A0_1 l0_1.length c0_1) := (blk_cell BK377.out 1).trans rfl
       have hfz11_0 := blk_frozen BK377.out 0
       have hfz11_1 := blk_frozen BK377.out 1
       go_wp2_with (first | ((with_reducible refine gate_builtin (b := .append) (xs := #[.tmp 23, .tmp 24]) rfl ?_); at_builtin; refine Kd.R_append (Kd.int .i64) (w0 := w) w.heap.size rfl (.tmp 23) (.tmp 24) 36 3 (.int .i64 0) 8 rfl Try.underlying36 info3 rfl (by decide) (by omega) u5 x5_2 (-1) [.int .i64 (-1)] (fun _ => True) (fun _ => False) rfl rfl ?aP (fun _ hk => hk.elim) ?aF ?aO ?aB ?aS ?aL ?_; (case aP => exact rfl); (case aB => exact (by repeat (first | (with_reducible first | exact HB.out | apply below_alloc | apply pw_below_drewN | apply below_drew1 | refine below_set ?_ GE377.out) | exact HB.out))); (case aF => exact (fun _ _ => trivial)); (case aO => exact (Kd.rv HO_5.out)); (case aS => exact (below_size (by repeat (first | (with_reducible first | exact HB.out | apply below_alloc | apply pw_below_drewN | apply below_drew1 | refine below_set ?_ GE377.out) | exact HB.out)))); (case aL => have := LMc10.out; omega); intro v385 w12 ho hb hg hat; rw [← Ny384.out] at ho; have n0_ := am (Kd.S_after (ok := (fun _ => True)) (by (with_reducible repeat (first | apply Kd.S_alloc | apply Kd.S_drewN | apply Kd.S_drew)); exact Kd.S_mono HO_3.out (fun _ hk => ⟨trivial, hk⟩)) hg hat); have n1_ := am (blk_grown (g := gb377) (o := .cells #[.slice A0_0 l0_0.length c0_0, .slice A0_1 l0_1.length c0_1] 25 (0, 0)) (bv BK377.out) hg (Kd.R_ne HO_5.out BK377.out (by decide))); have n2_ := am (hb); have n3_ := am (ho); clear HO_3 BK377 HB HO_5; revert n0_ n1_ n2_ n3_; intro HO_3 BK377 HB HO386; clear ho hb hg hat))
       go_roundg k2
       case measure => have := HK1.out; have := HK2.out; omega
       case rel => exact ⟨(y384), (wrap64 (x6_2 + 1)), rfl, H', ⟨by have := HK1.out; have := HK2.out; omega⟩, ⟨by (with_reducible repeat (first | apply Kd.S_alloc | apply Kd.S_drewN | apply Kd.S_drew)); exact Kd.S_mono HO_3.out (fun _ hk => hk.2)⟩, ⟨Kd.rv HO386.out⟩, ⟨bv BK377.out⟩, ⟨by repeat (first | (with_reducible first | exact HB.out | apply below_alloc | apply pw_below_drewN | apply below_drew1 | refine below_set ?_ GE377.out) | exact HB.out)⟩⟩
      ·rw [if_neg c9] at H
       have c9b0 : decide (x6_2 < (l0_1.length : Int)) = false := decide_eq_false c9
       clear c9
       have q_ := ifs H
       clear H
       obtain ⟨c13, H⟩ := q_
       have LMc13 := am c13
       clear c13
       obtain ⟨y387, hy387⟩ : ∃ y_ : List (List Int), y_ = (x3_1 ++ [x5_2]) := ⟨_, rfl⟩
       replace H : (spec_l13Blank.l0 k2 y387 (wrap64 (x4_1 + 1)) l0_0 l0_1) = some r := by first | (rw [hy387]; with_reducible exact H) | (have H2_ := (Option.bind_some _ _).symm.trans H; rw [hy387]; with_reducible exact H2_) | (have H2_ := (Option.bind_some _ _).symm.trans H; with_reducible exact H2_) | with_reducible exact H | (rw [hy387]; exact H) | exact H
       have Ny387 := am hy387
       clear hy387
       have H' := am H
       clear H
       have hcz14_0 : wr.cell? ⟨gb377, 0, none⟩ = some (.slice A0_0 l0_0.length c0_0) := (blk_cell BK377.out 0).trans rfl
       have hcz14_1 : wr.cell? ⟨gb377, 1, none⟩ = some (.slice A0_1 l0_1.length c0_1) := (blk_cell BK377.out 1).trans rfl
       have hfz14_0 := blk_frozen BK377.out 0
       have hfz14_1 := blk_frozen BK377.out 1
       obtain ⟨Ao16, co16, eo16⟩ := Kd.R_slice HO_5.out
       subst eo16
       go_wp2_with (first | ((with_reducible refine gate_builtin (b := .append) (xs := #[.tmp 26, .tmp 28]) rfl ?_); at_builtin; refine Kd.S_append (Kd.slice 3 (Kd.int .i64)) (w0 := w) w.heap.size rfl (.tmp 26) (.tmp 28) 23 36 (.slice none 0 0) 24 rfl Try.underlying23 info36 rfl (by decide) (by omega) u3 x3_1 x5_2 [.slice Ao16 x5_2.length co16] (fun _ => True) (fun k_ => some k_ = (.slice Ao16 x5_2.length co16 : Value).ownBlock) rfl rfl ?aP (fun k_ hk_ => ((Kd.R_mono (ok' := fun k_ => ((fun _ => True)) k_ ∧ some k_ ≠ (u3 : Value).ownBlock) (Kd.R_apart' (HO_5.out) (Kd.S_typed HO_3.out) (by decide)) (fun k_ hk => ⟨trivial, hk.2⟩))).1 k_ hk_.symm) ?aF ?aO ?aB ?aS ?aL ?_; (case aP => exact Kd.M_row (Kd.R_mono (Kd.R_tight rfl (Kd.R_mono (ok' := fun k_ => ((fun _ => True)) k_ ∧ some k_ ≠ (u3 : Value).ownBlock) (Kd.R_apart' (HO_5.out) (Kd.S_typed HO_3.out) (by decide)) (fun k_ hk => ⟨trivial, hk.2⟩))) (fun _ h_ => h_))); (case aB => exact (by repeat (first | (with_reducible first | exact HB.out | apply below_alloc | apply pw_below_drewN | apply below_drew1 | refine below_set ?_ GE377.out) | exact HB.out))); (case aF => exact (fun _ _ => trivial)); (case aO => exact (by (with_reducible repeat (first | apply Kd.S_alloc | apply Kd.S_drewN | apply Kd.S_drew)); exact Kd.S_mono HO_3.out (fun k_ hk => ⟨trivial, fun e_ => hk e_⟩))); (case aS => exact (below_size (by repeat (first | (with_reducible first | exact HB.out | apply below_alloc | apply pw_below_drewN | apply below_drew1 | refine below_set ?_ GE377.out) | exact HB.out)))); (case aL => have := LMc13.out; omega); intro v388 w15 ho hb hg hat; rw [← Ny387.out] at ho; have n0_ := am (blk_grown (g := gb377) (o := .cells #[.slice A0_0 l0_0.length c0_0, .slice A0_1 l0_1.length c0_1] 25 (0, 0)) (bv BK377.out) hg (Kd.S_ne HO_3.out BK377.out (by decide))); have n1_ := am (hb); have n2_ := am (ho); clear BK377 HB HO_3 HO_5; revert n0_ n1_ n2_; intro BK377 HB HO389; clear ho hb hg hat))
       go_roundg k2
       case measure => have := HK1.out; have := HK2.out; omega
       case rel => exact ⟨(y387), (wrap64 (x4_1 + 1)), rfl, H', ⟨by have := HK1.out; have := HK2.out; omega⟩, ⟨by (with_reducible repeat (first | apply Kd.S_alloc | apply Kd.S_drewN | apply Kd.S_drew)); exact HO389.out⟩, ⟨bv BK377.out⟩, ⟨by repeat (first | (with_reducible first | exact HB.out | apply below_alloc | apply pw_below_drewN | apply below_drew1 | refine below_set ?_ GE377.out) | exact HB.out)⟩⟩
   ·rw [if_neg c5] at H
    have c5b0 : decide (x4_1 < (l0_0.length : Int)) = false := decide_eq_false c5
    clear c5
    obtain rfl := Option.some.inj H
    have hcz17_0 : wr.cell? ⟨gb377, 0, none⟩ = some (.slice A0_0 l0_0.length c0_0) := (blk_cell BK377.out 0).trans rfl
    have hcz17_1 : wr.cell? ⟨gb377, 1, none⟩ = some (.slice A0_1 l0_1.length c0_1) := (blk_cell BK377.out 1).trans rfl
    have hfz17_0 := blk_frozen BK377.out 0
    have hfz17_1 := blk_frozen BK377.out 1
    go_wp2
    go_ret
    exact ⟨_, rfl, by (with_reducible repeat (first | apply Kd.S_alloc | apply Kd.S_drewN | apply Kd.S_drew)); exact HO_3.out, by repeat (first | (with_reducible first | exact HB.out | apply below_alloc | apply pw_below_drewN | apply below_drew1 | refine below_set ?_ GE377.out) | exact HB.out)⟩
/-! ### spec_KnownValid: function 80 -/
def spec_KnownValid.l0 : Nat → List Int → Int → Option (Bool)
 | 0, _, _ => none
 | k + 1, x0, x3 => if x3 < (x0.length : Int) then (if 0 ≤ x3 then ((spec_l1In.f (rd x0 x3) (-1) 1).bind fun t391 => (if t391 = true then (spec_KnownValid.l0 k x0 (wrap64 (x3 + 1))) else (some false))) else (none)) else ((spec_l1In.f (x0.length : Int) 1 8).bind fun t392 => (some t392))
def spec_KnownValid.f (k : Nat) (l0 : List Int) : Option (Bool) := spec_KnownValid.l0 k l0 0
set_option maxHeartbeats 8000000 in
set_option maxRecDepth 100000 in
theorem spec_KnownValid.calls (k : Nat) (A0 : Option Addr) (c0 : Nat) (l0 : List Int) (r : Bool) (w : World) (hr0 : Kd.C (Kd.int .i64) w A0 l0.length l0) (hc0 : l0.length ≤ c0) (h : spec_KnownValid.f k l0 = some r) :
  Calls Try.prog 80 #[.slice A0 l0.length c0] w fun e w' => e = .returned (.bool r) ∧ Drawn0 w w' := by
 have HR0 := am hr0
 have HC0 := am hc0
 clear hr0 hc0
 have H : (spec_KnownValid.l0 k l0 0) = some r := h
 clear h
 have H' := am H
 clear H
 go_enter Try.func80, Try.ntmps80
 go_wp2
 go_loopg [3] k (fun kq v3 w' => ∃ (x3_1 : Int), v3 = .int .i64 x3_1 ∧ Aside0 (spec_KnownValid.l0 kq l0 x3_1 = some r) ∧ Aside0 (kq ≤ k) ∧ Drawn0 w w')
 case atStart => exact ⟨(0), rfl, H', ⟨Nat.le_refl _⟩, by repeat (first | exact Drawn0.refl _ | apply Drawn0.step)⟩
 case round =>
  clear H'
  obtain ⟨x3_1, rfl, HA, HK1, ⟨m1, rfl⟩⟩ := hrel
  cases gk with
  | zero => exact absurd HA.out (by simp [spec_KnownValid.l0])
  | succ k1 =>
   have H := HA.out
   clear HA
   simp only [spec_KnownValid.l0] at H
   by_cases c2 : x3_1 < (l0.length : Int)
   ·rw [if_pos c2] at H
    have c2b0 : decide (x3_1 < (l0.length : Int)) = true := decide_eq_true c2
    clear c2
    have q_ := ifs H
    clear H
    obtain ⟨c3, H⟩ := q_
    have c3b0 : decide (0 ≤ x3_1) = true := decide_eq_true c3
    clear c3
    replace H := Option.bind_eq_some_iff.mp H
    obtain ⟨t391, A40, H⟩ := H
    replace H : (if t391 = true then (spec_KnownValid.l0 k1 l0 (wrap64 (x3_1 + 1))) else (some false)) = some r := H
    have A4 := am A40
    clear A40
    by_cases c5 : t391 = true
    ·subst c5
     rw [if_pos rfl] at H
     have H' := am H
     clear H
     have p390 : 0 ≤ (x3_1 : Int) := da
     have q390 : x3_1 < (l0.length : Int) := da
     obtain ⟨ad390, e390, hx390_0⟩ := Kd.at_int HR0.out x3_1 p390 q390
     cases e390
     replace p390 := eq_true p390
     replace q390 := eq_true q390
     go_wp2_with (first | ((with_reducible refine gate_callee (f := 53) rfl ?_); refine goesL_ (some 14) rfl rfl Try.func53 (by kernel_rfl) rfl #[.int .i64 (rd l0 x3_1), .int .i64 (-1), .int .i64 1] rfl (by (try simp only [List.map_toArray, List.map_cons, List.map_nil]); first | done | rfl | (simp only [List.length_drop, List.length_take]; rfl)) ?_; (with_reducible refine (spec_l1In.calls (rd l0 x3_1) (-1) 1 true _ A4.out).mono ?_); rintro e w' ⟨rfl, ⟨nd, rfl⟩⟩; refine ⟨_, rfl, ?_⟩))
     go_roundg k1
     case measure => have := HK1.out; omega
     case rel => exact ⟨(wrap64 (x3_1 + 1)), rfl, H', ⟨by have := HK1.out; omega⟩, by repeat (first | exact Drawn0.refl _ | apply Drawn0.step)⟩
    ·replace c5 := Bool.eq_false_iff.mpr c5
     subst c5
     rw [if_neg (show ¬ (false = true) by decide)] at H
     obtain rfl := Option.some.inj H
     have p390 : 0 ≤ (x3_1 : Int) := da
     have q390 : x3_1 < (l0.length : Int) := da
     obtain ⟨ad390, e390, hx390_0⟩ := Kd.at_int HR0.out x3_1 p390 q390
     cases e390
     replace p390 := eq_true p390
     replace q390 := eq_true q390
     go_wp2_with (first | ((with_reducible refine gate_callee (f := 53) rfl ?_); refine goesL_ (some 14) rfl rfl Try.func53 (by kernel_rfl) rfl #[.int .i64 (rd l0 x3_1), .int .i64 (-1), .int .i64 1] rfl (by (try simp only [List.map_toArray, List.map_cons, List.map_nil]); first | done | rfl | (simp only [List.length_drop, List.length_take]; rfl)) ?_; (with_reducible refine (spec_l1In.calls (rd l0 x3_1) (-1) 1 false _ A4.out).mono ?_); rintro e w' ⟨rfl, ⟨nd, rfl⟩⟩; refine ⟨_, rfl, ?_⟩))
     go_ret
     exact ⟨by first | rfl | (simp; done) | (simp [*]; done), by repeat (first | exact Drawn0.refl _ | apply Drawn0.step)⟩
   ·rw [if_neg c2] at H
    have c2b0 : decide (x3_1 < (l0.length : Int)) = false := decide_eq_false c2
    clear c2
    replace H := Option.bind_eq_some_iff.mp H
    obtain ⟨t392, A60, H⟩ := H
    replace H : (some t392) = some r := H
    have A6 := am A60
    clear A60
    obtain rfl := Option.some.inj H
    go_wp2_with (first | ((with_reducible refine gate_callee (f := 53) rfl ?_); refine goesL_ (some 18) rfl rfl Try.func53 (by kernel_rfl) rfl #[.int .i64 (l0.length : Int), .int .i64 1, .int .i64 8] rfl (by (try simp only [List.map_toArray, List.map_cons, List.map_nil]); first | done | rfl | (simp only [List.length_drop, List.length_take]; rfl)) ?_; (with_reducible refine (spec_l1In.calls (l0.length : Int) 1 8 t392 _ A6.out).mono ?_); rintro e w' ⟨rfl, ⟨nd, rfl⟩⟩; refine ⟨_, rfl, ?_⟩))
    go_ret
    exact ⟨by first | rfl | (simp; done) | (simp [*]; done), by repeat (first | exact Drawn0.refl _ | apply Drawn0.step)⟩
/-! ### spec_l12Line: function 81 -/
def spec_l12Line.l0 : Nat → Int → Int → List Bool → Int → Option (List Bool)
 | 0, _, _, _, _ => none
 | k + 1, x0, x1, x5, x6 => if x6 < x1 then (if 0 ≤ x6 then (if x5.length < 140737488355328 then (spec_l12Line.l0 k x0 x1 (x5 ++ [((Int.tmod (shr .i64 x0 x6) 2) == 1)]) (wrap64 (x6 + 1))) else (none)) else (none)) else (some x5)
def spec_l12Line.f (k : Nat) (a0 : Int) (a1 : Int) : Option (List Bool) := spec_l12Line.l0 k a0 a1 (([] : List Bool)) 0
set_option maxHeartbeats 8000000 in
set_option maxRecDepth 100000 in
theorem spec_l12Line.calls (k : Nat) (a0 : Int) (a1 : Int) (r : List Bool) (w : World) (h : spec_l12Line.f k a0 a1 = some r) :
  Calls Try.prog 81 #[.int .i64 a0, .int .i64 a1] w fun e w' => ∃ v0_ : Value, e = .returned (v0_) ∧ Kd.R Kd.bool 4 w' w.heap.size (fun _ => True) v0_ r ∧ Below w.heap.size w w' := by
 have HB := am (Below.refl w.heap.size w)
 have H : (spec_l12Line.l0 k a0 a1 (([] : List Bool)) 0) = some r := h
 clear h
 obtain ⟨y393, hy393⟩ : ∃ y_ : List Bool, y_ = (([] : List Bool)) := ⟨_, rfl⟩
 replace H : (spec_l12Line.l0 k a0 a1 y393 0) = some r := by first | (rw [hy393]; with_reducible exact H) | (have H2_ := (Option.bind_some _ _).symm.trans H; rw [hy393]; with_reducible exact H2_) | (have H2_ := (Option.bind_some _ _).symm.trans H; with_reducible exact H2_) | with_reducible exact H | (rw [hy393]; exact H) | exact H
 have Ny393 := am hy393
 clear hy393
 have H' := am H
 clear H
 go_enter Try.func81, Try.ntmps81
 go_wp2_with (first | ((with_reducible refine gate_dst (N := 7) rfl ?_); refine Kd.R_lit Kd.bool _ 4 ?hg (N := 7) ?hd (xs := ([] : List Bool)) (inner := []) (ok := fun _ => True) (okp := fun _ => True) ?hr ?hp (fun _ hk => hk) trivial (Below.refl _ _) (Nat.le_refl _) (by simp) ?_; (case hd => rfl); (case hg => rfl); (case hr => first | (go_simp; done) | (go_simp; rfl)); (case hp => exact (Reps.none _ _)); intro v394 w3 ho4 hb hg_ hnew_; clear hg_ hnew_; (first | rw [← Ny393.out] at ho4 | (simp only [Int.reduceToNat] at ho4; rw [← Ny393.out] at ho4)); have n0_ := am (Kd.R_lower ho4 (below_size (bm HB))); have n1_ := am (below_step (bm HB) hb); clear HB; revert n0_ n1_; intro HO395 HB; clear hb ho4))
 go_loopg [5, 6] k (fun kq v5 v6 w' => ∃ (x5_1 : List Bool) (x6_1 : Int), v6 = .int .i64 x6_1 ∧ Aside0 (spec_l12Line.l0 kq a0 a1 x5_1 x6_1 = some r) ∧ Aside0 (kq ≤ k) ∧ Aside0 (Kd.R Kd.bool 4 w' w.heap.size (fun _ => True) v5 x5_1) ∧ Aside0 (Below w.heap.size w w'))
 case atStart => exact ⟨(y393), (0), rfl, H', ⟨Nat.le_refl _⟩, ⟨Kd.rv HO395.out⟩, ⟨bm HB⟩⟩
 case round =>
  clear H'
  try clear p2
  obtain ⟨x5_1, x6_1, rfl, HA, HK1, HO_5, HB⟩ := hrel
  cases gk with
  | zero => exact absurd HA.out (by simp [spec_l12Line.l0])
  | succ k1 =>
   have H := HA.out
   clear HA
   simp only [spec_l12Line.l0] at H
   by_cases c5 : x6_1 < a1
   ·rw [if_pos c5] at H
    have c5b0 : decide (x6_1 < a1) = true := decide_eq_true c5
    clear c5
    have q_ := ifs H
    clear H
    obtain ⟨c6, H⟩ := q_
    have c6b0 := eq_true c6
    have c6b1 : decide (0 ≤ x6_1) = true := decide_eq_true c6
    clear c6
    obtain ⟨ji7, hji7⟩ : ∃ j_ : Int, (shr .i64 a0 x6_1) = j_ := ⟨_, rfl⟩
    replace H : (if x5_1.length < 140737488355328 then (spec_l12Line.l0 k1 a0 a1 (x5_1 ++ [((Int.tmod (ji7) 2) == 1)]) (wrap64 (x6_1 + 1))) else (none)) = some r := by first | (rw [hji7] at H; exact H) | (simp only [hji7] at H ⊢; exact H)
    have hji7_ : (a0 / 2 ^ min x6_1.toNat 64) = ji7 := hji7
    have hji7z : x6_1 ≤ 64 → (a0 / 2 ^ x6_1.toNat) = ji7 := shr_small hji7
    have q_ := ifs H
    clear H
    obtain ⟨c8, H⟩ := q_
    have LMc8 := am c8
    clear c8
    obtain ⟨y396, hy396⟩ : ∃ y_ : List Bool, y_ = (x5_1 ++ [((Int.tmod (ji7) 2) == 1)]) := ⟨_, rfl⟩
    replace H : (spec_l12Line.l0 k1 a0 a1 y396 (wrap64 (x6_1 + 1))) = some r := by first | (rw [hy396]; with_reducible exact H) | (have H2_ := (Option.bind_some _ _).symm.trans H; rw [hy396]; with_reducible exact H2_) | (have H2_ := (Option.bind_some _ _).symm.trans H; with_reducible exact H2_) | with_reducible exact H | (rw [hy396]; exact H) | exact H
    have Ny396 := am hy396
    clear hy396
    have H' := am H
    clear H
    go_wp2_with (first | ((with_reducible refine gate_builtin (b := .append) (xs := #[.tmp 13, .tmp 19]) rfl ?_); at_builtin; refine Kd.R_append Kd.bool (w0 := w) w.heap.size rfl (.tmp 13) (.tmp 19) 37 4 (.bool false) 1 rfl Try.underlying37 info4 rfl (by decide) (by omega) u5 x5_1 ((Int.tmod (ji7) 2) == 1) [.bool ((Int.tmod (ji7) 2) == 1)] (fun _ => True) (fun _ => False) rfl rfl ?aP (fun _ hk => hk.elim) ?aF ?aO ?aB ?aS ?aL ?_; (case aP => exact rfl); (case aB => exact (bm HB)); (case aF => exact (fun _ _ => trivial)); (case aO => exact (Kd.rv HO_5.out)); (case aS => exact (below_size (bm HB))); (case aL => have := LMc8.out; omega); intro v397 w9 ho hb hg hat; rw [← Ny396.out] at ho; have n0_ := am (hb); have n1_ := am (ho); clear HB HO_5; revert n0_ n1_; intro HB HO398; clear ho hb hg hat))
    go_roundg k1
    case measure => have := HK1.out; omega
    case rel => exact ⟨(y396), (wrap64 (x6_1 + 1)), rfl, H', ⟨by have := HK1.out; omega⟩, ⟨Kd.rv HO398.out⟩, ⟨bm HB⟩⟩
   ·rw [if_neg c5] at H
    have c5b0 : decide (x6_1 < a1) = false := decide_eq_false c5
    clear c5
    obtain rfl := Option.some.inj H
    go_wp2
    go_ret
    exact ⟨_, rfl, by (with_reducible repeat (first | apply Kd.R_alloc | apply Kd.R_drewN | apply Kd.R_drew)); exact HO_5.out, bm HB⟩
end Go.Proofs.Ytapnohcfnclleaa.PFnPictureLines
