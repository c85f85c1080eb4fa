-- Made by a program of this session (the kit print, shortened, twice): the kit print itself does not give this text
import Derived.Test.YtapnohcfnclleaaV4
import Derived.Test.YtapnohcfnclleaaPFnPictureLinesx0
namespace Go.Proofs.Ytapnohcfnclleaa.PFnPictureLines
open Go.RowKit Go.Proofs.YtapnohcfnclleaaW.PrintWords Go.Proofs.YtapnohcfnclleaaW.PrintLast Go.Proofs.YtapnohcfnclleaaW.PrintMore
attribute [local go_sem] max2_int min2_int max_two min_two max_three min_three max_four min_four   -- for this text's walks alone
set_option linter.unusedVariables false
set_option linter.unusedSimpArgs false
/-! ### spec_l1In: function 53 -/
def spec_l1In.f (a0 : Int) (a1 : Int) (a2 : Int) : Option (Bool) := if a0 ≥ a1 then (some (decide (a0 ≤ a2))) else (some false)
set_option maxHeartbeats 8000000 in
set_option maxRecDepth 100000 in
theorem spec_l1In.calls (a0 : Int) (a1 : Int) (a2 : Int) (r : Bool) (w : World) (h : spec_l1In.f a0 a1 a2 = some r) :
  Calls Try.prog 53 #[.int .i64 a0, .int .i64 a1, .int .i64 a2] w fun e w' => e = .returned (.bool r) ∧ Drawn0 w w' := by
 have H : (if a0 ≥ a1 then (some (decide (a0 ≤ a2))) else (some false)) = some r := h
 clear h
 by_cases c4 : a0 ≥ a1
 ·rw [if_pos c4] at H
  have c4b0 : decide (a1 ≤ a0) = true := decide_eq_true c4
  clear c4
  obtain rfl := Option.some.inj H
  go_enter Try.func53, Try.ntmps53
  go_wp2
  go_ret
  exact ⟨by first | rfl | (simp; done) | (simp [*]; done), by repeat (first | exact Drawn0.refl _ | apply Drawn0.step)⟩
 ·rw [if_neg c4] at H
  have c4b0 : decide (a1 ≤ a0) = false := decide_eq_false c4
  clear c4
  obtain rfl := Option.some.inj H
  go_enter Try.func53, Try.ntmps53
  go_wp2
  go_ret
  exact ⟨by first | rfl | (simp; done) | (simp [*]; done), by repeat (first | exact Drawn0.refl _ | apply Drawn0.step)⟩
/-! ### spec_l1OwnRowsBool: function 61 -/
def spec_l1OwnRowsBool.l0 : Nat → List (List Bool) → List (List Bool) → Int → Option ((List (List Bool)))
 | 0, _, _, _ => none
 | k + 1, x0, x3, x4 => if x4 < (x0.length : Int) then ((some (([] : List Bool) : List Bool)).bind fun y104 => (if 0 ≤ x4 then (if y104.length + (rd_L3 x0 x4).length < 140737488355328 then (if x3.length < 5864062014805 then (spec_l1OwnRowsBool.l0 k x0 (x3 ++ [(y104 ++ (rd_L3 x0 x4))]) (wrap64 (x4 + 1))) else (none)) else (none)) else (none))) else (some x3)
def spec_l1OwnRowsBool.f (k : Nat) (l0 : List (List Bool)) : Option ((List (List Bool))) := spec_l1OwnRowsBool.l0 k l0 (([] : List (List Bool))) 0
set_option maxHeartbeats 8000000 in
set_option maxRecDepth 100000 in
theorem spec_l1OwnRowsBool.calls (k : Nat) (A0 : Option Addr) (c0 : Nat) (l0 : List (List Bool)) (r : List (List Bool)) (w : World) (hr0 : Kd.C (Kd.slice 4 Kd.bool) w A0 l0.length l0) (hc0 : l0.length ≤ c0) (h : spec_l1OwnRowsBool.f k l0 = some r) :
  Calls Try.prog 61 #[.slice A0 l0.length c0] w fun e w' => ∃ v0_ : Value, e = .returned (v0_) ∧ Kd.R (Kd.slice 4 Kd.bool) 37 w' w.heap.size (fun _ => True) v0_ r ∧ Below w.heap.size w w' := by
 have HR0 := am hr0
 have HC0 := am hc0
 clear hr0 hc0
 have HB := am (Below.refl w.heap.size w)
 have H : (spec_l1OwnRowsBool.l0 k l0 (([] : List (List Bool))) 0) = some r := h
 clear h
 obtain ⟨y101, hy101⟩ : ∃ y_ : List (List Bool), y_ = (([] : List (List Bool))) := ⟨_, rfl⟩
 replace H : (spec_l1OwnRowsBool.l0 k l0 y101 0) = some r := by first | (rw [hy101]; with_reducible exact H) | (have H2_ := (Option.bind_some _ _).symm.trans H; rw [hy101]; with_reducible exact H2_) | (have H2_ := (Option.bind_some _ _).symm.trans H; with_reducible exact H2_) | with_reducible exact H | (rw [hy101]; exact H) | exact H
 have Ny101 := am hy101
 clear hy101
 have H' := am H
 clear H
 go_enter Try.func61, Try.ntmps61
 go_wp2_with (first | ((with_reducible refine gate_dst (N := 5) rfl ?_); refine Kd.R_lit (Kd.slice 4 Kd.bool) _ 37 ?hg (N := 5) ?hd (xs := ([] : List (List Bool))) (inner := []) (ok := fun _ => True) (okp := fun _ => True) ?hr ?hp (fun _ hk => hk) trivial (Below.refl _ _) (Nat.le_refl _) (by simp) ?_; (case hd => rfl); (case hg => rfl); (case hr => first | (go_simp; done) | (go_simp; rfl)); (case hp => exact (Reps.none _ _)); intro v102 w2 ho3 hb hg_ hnew_; clear hg_ hnew_; (first | rw [← Ny101.out] at ho3 | (simp only [Int.reduceToNat] at ho3; rw [← Ny101.out] at ho3)); have n0_ := am (Kd.R_lower ho3 (below_size (bm HB))); have n1_ := am (below_step (bm HB) hb); clear HB; revert n0_ n1_; intro HO103 HB; clear hb ho3))
 go_loopg [3, 4] k (fun kq v3 v4 w' => ∃ (x3_1 : List (List Bool)) (x4_1 : Int), v4 = .int .i64 x4_1 ∧ Aside0 (spec_l1OwnRowsBool.l0 kq l0 x3_1 x4_1 = some r) ∧ Aside0 (kq ≤ k) ∧ Aside0 (Kd.R (Kd.slice 4 Kd.bool) 37 w' w.heap.size (fun _ => True) v3 x3_1) ∧ Aside0 (Below w.heap.size w w'))
 case atStart => exact ⟨(y101), (0), rfl, H', ⟨Nat.le_refl _⟩, ⟨Kd.rv HO103.out⟩, ⟨bm HB⟩⟩
 case round =>
  clear H'
  try clear p2
  obtain ⟨x3_1, x4_1, rfl, HA, HK1, HO_3, HB⟩ := hrel
  cases gk with
  | zero => exact absurd HA.out (by simp [spec_l1OwnRowsBool.l0])
  | succ k1 =>
   have H := HA.out
   clear HA
   simp only [spec_l1OwnRowsBool.l0] at H
   by_cases c4 : x4_1 < (l0.length : Int)
   ·rw [if_pos c4] at H
    have c4b0 : decide (x4_1 < (l0.length : Int)) = true := decide_eq_true c4
    clear c4
    obtain ⟨y104, hy104⟩ : ∃ y_ : List Bool, y_ = (([] : List Bool)) := ⟨_, rfl⟩
    replace H : (if 0 ≤ x4_1 then (if y104.length + (rd_L3 l0 x4_1).length < 140737488355328 then (if x3_1.length < 5864062014805 then (spec_l1OwnRowsBool.l0 k1 l0 (x3_1 ++ [(y104 ++ (rd_L3 l0 x4_1))]) (wrap64 (x4_1 + 1))) else (none)) else (none)) else (none)) = some r := by first | (rw [hy104]; with_reducible exact H) | (have H2_ := (Option.bind_some _ _).symm.trans H; rw [hy104]; with_reducible exact H2_) | (have H2_ := (Option.bind_some _ _).symm.trans H; with_reducible exact H2_) | with_reducible exact H | (rw [hy104]; exact H) | exact H
    have Ny104 := am hy104
    clear hy104
    have q_ := ifs H
    clear H
    obtain ⟨c5, H⟩ := q_
    have c5b0 : decide (0 ≤ x4_1) = true := decide_eq_true c5
    clear c5
    have q_ := ifs H
    clear H
    obtain ⟨c6, H⟩ := q_
    have LMc6 := am c6
    clear c6
    obtain ⟨y108, hy108⟩ : ∃ y_ : List Bool, y_ = (y104 ++ (rd_L3 l0 x4_1)) := ⟨_, rfl⟩
    replace H : (if x3_1.length < 5864062014805 then (spec_l1OwnRowsBool.l0 k1 l0 (x3_1 ++ [y108]) (wrap64 (x4_1 + 1))) else (none)) = some r := by first | (rw [hy108]; with_reducible exact H) | (have H2_ := (Option.bind_some _ _).symm.trans H; rw [hy108]; with_reducible exact H2_) | (have H2_ := (Option.bind_some _ _).symm.trans H; with_reducible exact H2_) | with_reducible exact H | (rw [hy108]; exact H) | exact H
    have Ny108 := am hy108
    clear hy108
    have q_ := ifs H
    clear H
    obtain ⟨c7, H⟩ := q_
    have LMc7 := am c7
    clear c7
    obtain ⟨y111, hy111⟩ : ∃ y_ : List (List Bool), y_ = (x3_1 ++ [y108]) := ⟨_, rfl⟩
    replace H : (spec_l1OwnRowsBool.l0 k1 l0 y111 (wrap64 (x4_1 + 1))) = some r := by first | (rw [hy111]; with_reducible exact H) | (have H2_ := (Option.bind_some _ _).symm.trans H; rw [hy111]; with_reducible exact H2_) | (have H2_ := (Option.bind_some _ _).symm.trans H; with_reducible exact H2_) | with_reducible exact H | (rw [hy111]; exact H) | exact H
    have Ny111 := am hy111
    clear hy111
    have H' := am H
    clear H
    go_wp2_with (first | ((with_reducible refine gate_dst (N := 13) rfl ?_); refine Kd.R_lit Kd.bool _ 4 ?hg (N := 13) ?hd (xs := ([] : List Bool)) (inner := []) (ok := fun _ => True) (okp := fun _ => True) ?hr ?hp (fun _ hk => hk) trivial (Below.refl _ _) (Nat.le_refl _) (by simp) ?_; (case hd => rfl); (case hg => rfl); (case hr => first | (go_simp; done) | (go_simp; rfl) | (obtain ⟨A_, c_, e_⟩ := Kd.R_slice HO110.out; rw [e_]; go_simp; done) | (obtain ⟨A_, c_, e_⟩ := Kd.R_slice HO110.out; rw [e_]; go_simp; rfl)); (case hp => exact (Reps.none _ _)); intro v105 w8 ho9 hb hg_ hnew_; clear hg_ hnew_; (first | rw [← Ny104.out] at ho9 | (simp only [Int.reduceToNat] at ho9; rw [← Ny104.out] at ho9)); have n0_ := am (Kd.R_elder' (Kd.rv HO_3.out) (Kd.R_base ho9) hb); have n1_ := am (Kd.R_lower ho9 (below_size (bm HB))); have n2_ := am (below_step (bm HB) hb); clear HO_3 HB; revert n0_ n1_ n2_; intro HO_3 HO106 HB; clear hb ho9; have p107 : 0 ≤ (x4_1 : Int) := da; have q107 : x4_1 < (l0.length : Int) := da; obtain ⟨ad107, A107_0, c107_0, e107, hx107_0, hl107_0, hi107_0⟩ := at_L3 HR0.out x4_1 p107 q107; cases e107; replace hx107_0 := (HB.out.cell (World.block_lt_of_cell? w _ hx107_0)).trans hx107_0; have HR107_0 := am hi107_0; have HC107_0 := am hl107_0; clear hi107_0 hl107_0; replace p107 := eq_true p107; replace q107 := eq_true q107) | ((with_reducible refine gate_builtin (b := .append) (xs := #[.tmp 13, .tmp 17]) rfl ?_); at_builtin; refine Kd.R_append_rows Kd.bool (w0 := w) w.heap.size rfl (.tmp 13) (.tmp 17) 37 4 (.bool false) 1 rfl Try.underlying37 info4 rfl (by decide) (by omega) v105 y104 (rd_L3 l0 x4_1) _ _ _ (fun _ => True) (fun _ => False) rfl rfl ?aO ?aR (fun _ _ h => h) (fun _ h => h.elim) ?aF ?aB ?aS ?aL ?_; (case aR => repeat (first | exact (Kd.C_below HR107_0.out HB.out) | (with_reducible refine Kd.C_alloc ?_ _) | (with_reducible refine Kd.C_drewN ?_ _) | (with_reducible refine Kd.C_drew ?_))); (case aB => exact (bm HB)); (case aF => exact (fun _ _ => trivial)); (case aO => exact (Kd.rv HO106.out)); (case aS => exact (below_size (bm HB))); (case aL => have := LMc6.out; omega); intro v109 w10 ho hb hg hat; rw [← Ny108.out] at ho; have n0_ := am (Kd.R_after (ok := (fun _ => True)) (Kd.rv HO_3.out) hg hat); have n1_ := am (hb); have n2_ := am (ho); clear HO_3 HB HO106; revert n0_ n1_ n2_; intro HO_3 HB HO110; clear ho hb hg hat; obtain ⟨Ao12, co12, eo12⟩ := Kd.R_slice HO110.out; subst eo12) | ((with_reducible refine gate_builtin (b := .append) (xs := #[.tmp 12, .tmp 19]) rfl ?_); at_builtin; refine Kd.R_append (Kd.slice 4 Kd.bool) (w0 := w) w.heap.size rfl (.tmp 12) (.tmp 19) 32 37 (.slice none 0 0) 24 rfl Try.underlying32 info37 rfl (by decide) (by omega) u3 x3_1 y108 [.slice Ao12 y108.length co12] (fun _ => True) (fun k_ => ((fun _ => True)) k_ ∧ some k_ ≠ (u3 : Value).ownBlock) rfl rfl ?aP (fun _ hk => hk) ?aF ?aO ?aB ?aS ?aL ?_; (case aP => exact Kd.M_row (Kd.R_mono (Kd.R_apart' (HO110.out) (Kd.R_typed HO_3.out) (by decide)) (fun k_ hk => ⟨trivial, hk.2⟩))); (case aB => exact (bm HB)); (case aF => exact (fun _ _ => trivial)); (case aO => exact (by (with_reducible repeat (first | apply Kd.R_alloc | apply Kd.R_drewN | apply Kd.R_drew)); exact Kd.R_mono HO_3.out (fun _ hk => trivial))); (case aS => exact (below_size (bm HB))); (case aL => have := LMc7.out; omega); intro v112 w11 ho hb hg hat; rw [← Ny111.out] at ho; have n0_ := am (hb); have n1_ := am (ho); clear HB HO_3 HO110; revert n0_ n1_; intro HB HO113; clear ho hb hg hat))
    go_roundg k1
    case measure => have := HK1.out; omega
    case rel => exact ⟨(y111), (wrap64 (x4_1 + 1)), rfl, H', ⟨by have := HK1.out; omega⟩, ⟨Kd.rv HO113.out⟩, ⟨bm HB⟩⟩
   ·rw [if_neg c4] at H
    have c4b0 : decide (x4_1 < (l0.length : Int)) = false := decide_eq_false c4
    clear c4
    obtain rfl := Option.some.inj H
    go_wp2
    go_ret
    exact ⟨_, rfl, by (with_reducible repeat (first | apply Kd.R_alloc | apply Kd.R_drewN | apply Kd.R_drew)); exact HO_3.out, bm HB⟩
/-! ### spec_ClueOf: function 62 -/
mutual
def spec_ClueOf.l0 : Nat → List Bool → List Int → Int → Int → Option (List Int)
 | 0, _, _, _, _ => none
 | k + 1, x0, x3, x4, x5 => if x5 ≤ (x0.length : Int) then (spec_ClueOf.j1 k x0 x3 x4 x5 (decide ((x0.length : Int) ≤ 8))) else (spec_ClueOf.j1 k x0 x3 x4 x5 false)
def spec_ClueOf.j1 : Nat → List Bool → List Int → Int → Int → Bool → Option (List Int)
 | 0, _, _, _, _, _ => none
 | k + 1, x0, x3, x4, x5, x15 => if x15 = true then (if x5 < (x0.length : Int) then (if 0 ≤ x5 then (spec_ClueOf.j2 k x0 x3 x4 x5 (rdOf false x0 x5)) else (none)) else (spec_ClueOf.j2 k x0 x3 x4 x5 false)) else (some x3)
def spec_ClueOf.j2 : Nat → List Bool → List Int → Int → Int → Bool → Option (List Int)
 | 0, _, _, _, _, _ => none
 | k + 1, x0, x3, x4, x5, x27 => if x27 = true then (spec_ClueOf.l0 k x0 x3 (wrap64 (x4 + 1)) (wrap64 (x5 + 1))) else (if x4 > 0 then (if x3.length < 17592186044416 then (spec_ClueOf.l0 k x0 (x3 ++ [x4]) 0 (wrap64 (x5 + 1))) else (none)) else (spec_ClueOf.l0 k x0 x3 x4 (wrap64 (x5 + 1))))
end
def spec_ClueOf.f (k : Nat) (l0 : List Bool) : Option (List Int) := spec_ClueOf.l0 k l0 (([] : List Int)) 0 0
set_option maxHeartbeats 8000000 in
set_option maxRecDepth 100000 in
theorem spec_ClueOf.calls (k : Nat) (A0 : Option Addr) (c0 : Nat) (l0 : List Bool) (r : List Int) (w : World) (hr0 : Kd.C Kd.bool w A0 l0.length l0) (hc0 : l0.length ≤ c0) (h : spec_ClueOf.f k l0 = some r) :
  Calls Try.prog 62 #[.slice A0 l0.length c0] w fun e w' => ∃ v0_ : Value, e = .returned (v0_) ∧ Kd.R (Kd.int .i64) 3 w' w.heap.size (fun _ => True) v0_ r ∧ Below w.heap.size w w' := by
 have HR0 := am hr0
 have HC0 := am hc0
 clear hr0 hc0
 have HB := am (Below.refl w.heap.size w)
 have H : (spec_ClueOf.l0 k l0 (([] : List Int)) 0 0) = some r := h
 clear h
 obtain ⟨y114, hy114⟩ : ∃ y_ : List Int, y_ = (([] : List Int)) := ⟨_, rfl⟩
 replace H : (spec_ClueOf.l0 k l0 y114 0 0) = some r := by first | (rw [hy114]; with_reducible exact H) | (have H2_ := (Option.bind_some _ _).symm.trans H; rw [hy114]; with_reducible exact H2_) | (have H2_ := (Option.bind_some _ _).symm.trans H; with_reducible exact H2_) | with_reducible exact H | (rw [hy114]; exact H) | exact H
 have Ny114 := am hy114
 clear hy114
 have H' := am H
 clear H
 go_enter Try.func62, Try.ntmps62
 go_wp2_with (first | ((with_reducible refine gate_dst (N := 6) rfl ?_); (try (refine gate_guard (by rfl) ?_; dsimp only)); refine Kd.R_lit (Kd.int .i64) _ 3 ?hg (N := 6) ?hd (xs := ([] : List Int)) (inner := []) (ok := fun _ => True) (okp := fun _ => True) ?hr ?hp (fun _ hk => hk) trivial (Below.refl _ _) (Nat.le_refl _) (by simp) ?_; (case hd => rfl); (case hg => rfl); (case hr => first | (go_simp; done) | (go_simp; rfl)); (case hp => exact (Reps.none _ _)); intro v115 w2 ho3 hb hg_ hnew_; clear hg_ hnew_; (first | rw [← Ny114.out] at ho3 | (simp only [Int.reduceToNat] at ho3; rw [← Ny114.out] at ho3)); have n0_ := am (Kd.R_lower ho3 (below_size (bm HB))); have n1_ := am (below_step (bm HB) hb); clear HB; revert n0_ n1_; intro HO116 HB; clear hb ho3))
 go_loopg [3, 4, 5] k (fun kq v3 v4 v5 w' => ∃ (x3_1 : List Int) (x4_1 : Int) (x5_1 : Int), v4 = .int .i64 x4_1 ∧ v5 = .int .i64 x5_1 ∧ Aside0 (spec_ClueOf.l0 kq l0 x3_1 x4_1 x5_1 = some r) ∧ Aside0 (kq ≤ k) ∧ Aside0 (Kd.R (Kd.int .i64) 3 w' w.heap.size (fun _ => True) v3 x3_1) ∧ Aside0 (Below w.heap.size w w'))
 case atStart => exact ⟨(y114), (0), (0), rfl, rfl, H', ⟨Nat.le_refl _⟩, ⟨Kd.rv HO116.out⟩, ⟨bm HB⟩⟩
 case round =>
  clear H'
  try clear p2
  obtain ⟨x3_1, x4_1, x5_1, rfl, rfl, HA, HK1, HO_3, HB⟩ := hrel
  cases gk with
  | zero => exact absurd HA.out (by simp [spec_ClueOf.l0])
  | succ k1 =>
   have H := HA.out
   clear HA
   simp only [spec_ClueOf.l0] at H
   have HC4 := am H
   clear H
   go_upto_region 4 with (fail)
   go_cut [15] (fun v15 wc => ∃ (kq : Nat) (x15_3 : Bool), v15 = .bool x15_3 ∧ Aside0 (spec_ClueOf.j1 kq l0 x3_1 x4_1 x5_1 x15_3 = some r) ∧ Aside0 (kq ≤ k1) ∧ Aside0 (Kd.R (Kd.int .i64) 3 wc w.heap.size (fun _ => True) u3 x3_1) ∧ Aside0 (Below w.heap.size w wc))
   case first =>
    have H := HC4.out
    clear HC4
    by_cases c5 : x5_1 ≤ (l0.length : Int)
    ·rw [if_pos c5] at H
     have c5b0 : decide (x5_1 ≤ (l0.length : Int)) = true := decide_eq_true c5
     clear c5
     (first | rw [c5b0] | (simp only [i64_w, i32_w]; rw [c5b0]) | skip)
     have H' := am H
     clear H
     go_wp2
     go_meet
     case rel => exact ⟨_, (decide ((l0.length : Int) ≤ 8)), rfl, H', ⟨by have := HK1.out; first | omega | exact Nat.le_refl _⟩, ⟨Kd.rv HO_3.out⟩, ⟨bm HB⟩⟩
    ·rw [if_neg c5] at H
     have c5b0 : decide (x5_1 ≤ (l0.length : Int)) = false := decide_eq_false c5
     clear c5
     (first | rw [c5b0] | (simp only [i64_w, i32_w]; rw [c5b0]) | skip)
     have H' := am H
     clear H
     go_wp2
     go_meet
     case rel => exact ⟨_, (false), rfl, H', ⟨by have := HK1.out; first | omega | exact Nat.le_refl _⟩, ⟨Kd.rv HO_3.out⟩, ⟨bm HB⟩⟩
   case rest =>
    clear HC4
    try clear p2
    try clear c5
    try clear c5b0
    try clear p2
    obtain ⟨kq, x15_3, rfl, HA, HJ3, HO_3, HB⟩ := hcut
    cases kq with
    | zero => exact absurd HA.out (by simp [spec_ClueOf.j1])
    | succ kj3 =>
     have H := HA.out
     clear HA
     simp only [spec_ClueOf.j1] at H
     by_cases c6 : x15_3 = true
     ·subst c6
      rw [if_pos rfl] at H
      have HC7 := am H
      clear H
      go_upto_region 6 with (fail)
      go_cut [27] (fun v27 wc => ∃ (kq : Nat) (x27_6 : Bool), v27 = .bool x27_6 ∧ Aside0 (spec_ClueOf.j2 kq l0 x3_1 x4_1 x5_1 x27_6 = some r) ∧ Aside0 (kq ≤ kj3) ∧ Aside0 (Kd.R (Kd.int .i64) 3 wc w.heap.size (fun _ => True) u3 x3_1) ∧ Aside0 (Below w.heap.size w wc))
      case first =>
       have H := HC7.out
       clear HC7
       by_cases c8 : x5_1 < (l0.length : Int)
       ·rw [if_pos c8] at H
        have c8b0 : decide (x5_1 < (l0.length : Int)) = true := decide_eq_true c8
        clear c8
        (first | rw [c8b0] | (simp only [i64_w, i32_w]; rw [c8b0]) | skip)
        have q_ := ifs H
        clear H
        obtain ⟨c9, H⟩ := q_
        have c9b0 : decide (0 ≤ x5_1) = true := decide_eq_true c9
        clear c9
        have H' := am H
        clear H
        have p117 : 0 ≤ (x5_1 : Int) := da
        have q117 : x5_1 < (l0.length : Int) := da
        obtain ⟨ad117, e117, hx117_0⟩ := Kd.at_bool HR0.out x5_1 p117 q117
        cases e117
        replace hx117_0 := (HB.out.cell (World.block_lt_of_cell? w _ hx117_0)).trans hx117_0
        replace p117 := eq_true p117
        replace q117 := eq_true q117
        go_wp2
        go_meet
        case rel => exact ⟨_, (rdOf false l0 x5_1), rfl, H', ⟨by have := HK1.out; have := HJ3.out; first | omega | exact Nat.le_refl _⟩, ⟨Kd.rv HO_3.out⟩, ⟨bm HB⟩⟩
       ·rw [if_neg c8] at H
        have c8b0 : decide (x5_1 < (l0.length : Int)) = false := decide_eq_false c8
        clear c8
        (first | rw [c8b0] | (simp only [i64_w, i32_w]; rw [c8b0]) | skip)
        have H' := am H
        clear H
        go_wp2
        go_meet
        case rel => exact ⟨_, (false), rfl, H', ⟨by have := HK1.out; have := HJ3.out; first | omega | exact Nat.le_refl _⟩, ⟨Kd.rv HO_3.out⟩, ⟨bm HB⟩⟩
      case rest =>
       clear HC7
       try clear p1
       try clear q1
       try clear hx1
       try clear p2
       try clear c5
       try clear c5b0
       try clear c6
       try clear c8
       try clear c8b0
       try clear c9
       try clear c9b0
       try clear hx117_0
       try clear p117
       try clear p2
       try clear q117
       obtain ⟨kq, x27_6, rfl, HA, HJ6, HO_3, HB⟩ := hcut
       cases kq with
       | zero => exact absurd HA.out (by simp [spec_ClueOf.j2])
       | succ kj6 =>
        have H := HA.out
        clear HA
        simp only [spec_ClueOf.j2] at H
        by_cases c10 : x27_6 = true
        ·subst c10
         rw [if_pos rfl] at H
         have H' := am H
         clear H
         go_wp2
         go_roundg kj6
         case measure => have := HK1.out; have := HJ3.out; have := HJ6.out; omega
         case rel => exact ⟨(x3_1), (wrap64 (x4_1 + 1)), (wrap64 (x5_1 + 1)), rfl, rfl, H', ⟨by have := HK1.out; have := HJ3.out; have := HJ6.out; omega⟩, ⟨Kd.rv HO_3.out⟩, ⟨bm HB⟩⟩
        ·replace c10 := Bool.eq_false_iff.mpr c10
         subst c10
         rw [if_neg (show ¬ (false = true) by decide)] at H
         by_cases c11 : x4_1 > 0
         ·rw [if_pos c11] at H
          have c11b0 : decide (0 < x4_1) = true := decide_eq_true c11
          clear c11
          have q_ := ifs H
          clear H
          obtain ⟨c12, H⟩ := q_
          have LMc12 := am c12
          clear c12
          obtain ⟨y118, hy118⟩ : ∃ y_ : List Int, y_ = (x3_1 ++ [x4_1]) := ⟨_, rfl⟩
          replace H : (spec_ClueOf.l0 kj6 l0 y118 0 (wrap64 (x5_1 + 1))) = some r := by first | (rw [hy118]; with_reducible exact H) | (have H2_ := (Option.bind_some _ _).symm.trans H; rw [hy118]; with_reducible exact H2_) | (have H2_ := (Option.bind_some _ _).symm.trans H; with_reducible exact H2_) | with_reducible exact H | (rw [hy118]; exact H) | exact H
          have Ny118 := am hy118
          clear hy118
          have H' := am H
          clear H
          go_wp2_with (first | ((with_reducible refine gate_builtin (b := .append) (xs := #[.tmp 32, .tmp 34]) rfl ?_); (try (refine gate_guard (by rfl) ?_; dsimp only)); at_builtin; refine Kd.R_append (Kd.int .i64) (w0 := w) w.heap.size rfl (.tmp 32) (.tmp 34) 36 3 (.int .i64 0) 8 rfl Try.underlying36 info3 rfl (by decide) (by omega) u3 x3_1 x4_1 [.int .i64 x4_1] (fun _ => True) (fun _ => False) rfl rfl ?aP (fun _ hk => hk.elim) ?aF ?aO ?aB ?aS ?aL ?_; (case aP => exact rfl); (case aB => exact (bm HB)); (case aF => exact (fun _ _ => trivial)); (case aO => exact (Kd.rv HO_3.out)); (case aS => exact (below_size (bm HB))); (case aL => have := LMc12.out; omega); intro v119 w13 ho hb hg hat; rw [← Ny118.out] at ho; have n0_ := am (hb); have n1_ := am (ho); clear HB HO_3; revert n0_ n1_; intro HB HO120; clear ho hb hg hat))
          go_roundg kj6
          case measure => have := HK1.out; have := HJ3.out; have := HJ6.out; omega
          case rel => exact ⟨(y118), (0), (wrap64 (x5_1 + 1)), rfl, rfl, H', ⟨by have := HK1.out; have := HJ3.out; have := HJ6.out; omega⟩, ⟨Kd.rv HO120.out⟩, ⟨bm HB⟩⟩
         ·rw [if_neg c11] at H
          have c11b0 : decide (0 < x4_1) = false := decide_eq_false c11
          clear c11
          have H' := am H
          clear H
          go_wp2
          go_roundg kj6
          case measure => have := HK1.out; have := HJ3.out; have := HJ6.out; omega
          case rel => exact ⟨(x3_1), (x4_1), (wrap64 (x5_1 + 1)), rfl, rfl, H', ⟨by have := HK1.out; have := HJ3.out; have := HJ6.out; omega⟩, ⟨Kd.rv HO_3.out⟩, ⟨bm HB⟩⟩
     ·replace c6 := Bool.eq_false_iff.mpr c6
      subst c6
      rw [if_neg (show ¬ (false = true) by decide)] at H
      obtain rfl := Option.some.inj H
      go_wp2
      go_ret
      exact ⟨_, rfl, by (with_reducible repeat (first | apply Kd.R_alloc | apply Kd.R_drewN | apply Kd.R_drew)); exact HO_3.out, bm HB⟩
/-! ### spec_l13Column: function 63 -/
def spec_l13Column.l0 : Nat → List (List Bool) → Int → List Bool → Int → Option (List Bool)
 | 0, _, _, _, _ => none
 | k + 1, x0, x1, x5, x6 => if x6 < (x0.length : Int) then (if 0 ≤ x6 then (if 0 ≤ x1 then (if x1 < ((rd_L3 x0 x6).length : Int) then (if x5.length < 140737488355328 then (spec_l13Column.l0 k x0 x1 (x5 ++ [rdOf false (rd_L3 x0 x6) x1]) (wrap64 (x6 + 1))) else (none)) else (none)) else (none)) else (none)) else (some x5)
def spec_l13Column.f (k : Nat) (l0 : List (List Bool)) (a1 : Int) : Option (List Bool) := spec_l13Column.l0 k l0 a1 (([] : List Bool)) 0
set_option maxHeartbeats 8000000 in
set_option maxRecDepth 100000 in
theorem spec_l13Column.calls (k : Nat) (A0 : Option Addr) (c0 : Nat) (l0 : List (List Bool)) (a1 : Int) (r : List Bool) (w : World) (hr0 : Kd.C (Kd.slice 4 Kd.bool) w A0 l0.length l0) (hc0 : l0.length ≤ c0) (h : spec_l13Column.f k l0 a1 = some r) :
  Calls Try.prog 63 #[.slice A0 l0.length c0, .int .i64 a1] w fun e w' => ∃ v0_ : Value, e = .returned (v0_) ∧ Kd.R Kd.bool 4 w' w.heap.size (fun _ => True) v0_ r ∧ Below w.heap.size w w' := by
 have HR0 := am hr0
 have HC0 := am hc0
 clear hr0 hc0
 have HB := am (Below.refl w.heap.size w)
 have H : (spec_l13Column.l0 k l0 a1 (([] : List Bool)) 0) = some r := h
 clear h
 obtain ⟨y121, hy121⟩ : ∃ y_ : List Bool, y_ = (([] : List Bool)) := ⟨_, rfl⟩
 replace H : (spec_l13Column.l0 k l0 a1 y121 0) = some r := by first | (rw [hy121]; with_reducible exact H) | (have H2_ := (Option.bind_some _ _).symm.trans H; rw [hy121]; with_reducible exact H2_) | (have H2_ := (Option.bind_some _ _).symm.trans H; with_reducible exact H2_) | with_reducible exact H | (rw [hy121]; exact H) | exact H
 have Ny121 := am hy121
 clear hy121
 have H' := am H
 clear H
 go_enter Try.func63, Try.ntmps63
 go_wp2_with (first | ((with_reducible refine gate_dst (N := 7) rfl ?_); refine Kd.R_lit Kd.bool _ 4 ?hg (N := 7) ?hd (xs := ([] : List Bool)) (inner := []) (ok := fun _ => True) (okp := fun _ => True) ?hr ?hp (fun _ hk => hk) trivial (Below.refl _ _) (Nat.le_refl _) (by simp) ?_; (case hd => rfl); (case hg => rfl); (case hr => first | (go_simp; done) | (go_simp; rfl)); (case hp => exact (Reps.none _ _)); intro v122 w3 ho4 hb hg_ hnew_; clear hg_ hnew_; (first | rw [← Ny121.out] at ho4 | (simp only [Int.reduceToNat] at ho4; rw [← Ny121.out] at ho4)); have n0_ := am (Kd.R_lower ho4 (below_size (bm HB))); have n1_ := am (below_step (bm HB) hb); clear HB; revert n0_ n1_; intro HO123 HB; clear hb ho4))
 go_loopg [5, 6] k (fun kq v5 v6 w' => ∃ (x5_1 : List Bool) (x6_1 : Int), v6 = .int .i64 x6_1 ∧ Aside0 (spec_l13Column.l0 kq l0 a1 x5_1 x6_1 = some r) ∧ Aside0 (kq ≤ k) ∧ Aside0 (Kd.R Kd.bool 4 w' w.heap.size (fun _ => True) v5 x5_1) ∧ Aside0 (Below w.heap.size w w'))
 case atStart => exact ⟨(y121), (0), rfl, H', ⟨Nat.le_refl _⟩, ⟨Kd.rv HO123.out⟩, ⟨bm HB⟩⟩
 case round =>
  clear H'
  try clear p2
  obtain ⟨x5_1, x6_1, rfl, HA, HK1, HO_5, HB⟩ := hrel
  cases gk with
  | zero => exact absurd HA.out (by simp [spec_l13Column.l0])
  | succ k1 =>
   have H := HA.out
   clear HA
   simp only [spec_l13Column.l0] at H
   by_cases c5 : x6_1 < (l0.length : Int)
   ·rw [if_pos c5] at H
    have c5b0 : decide (x6_1 < (l0.length : Int)) = true := decide_eq_true c5
    clear c5
    have q_ := ifs H
    clear H
    obtain ⟨c6, H⟩ := q_
    have c6b0 : decide (0 ≤ x6_1) = true := decide_eq_true c6
    clear c6
    have q_ := ifs H
    clear H
    obtain ⟨c7, H⟩ := q_
    have c7b0 : decide (0 ≤ a1) = true := decide_eq_true c7
    clear c7
    have q_ := ifs H
    clear H
    obtain ⟨c8, H⟩ := q_
    have c8b0 : decide (a1 < ((rd_L3 l0 x6_1).length : Int)) = true := decide_eq_true c8
    clear c8
    have q_ := ifs H
    clear H
    obtain ⟨c9, H⟩ := q_
    have LMc9 := am c9
    clear c9
    obtain ⟨y126, hy126⟩ : ∃ y_ : List Bool, y_ = (x5_1 ++ [rdOf false (rd_L3 l0 x6_1) a1]) := ⟨_, rfl⟩
    replace H : (spec_l13Column.l0 k1 l0 a1 y126 (wrap64 (x6_1 + 1))) = some r := by first | (rw [hy126]; with_reducible exact H) | (have H2_ := (Option.bind_some _ _).symm.trans H; rw [hy126]; with_reducible exact H2_) | (have H2_ := (Option.bind_some _ _).symm.trans H; with_reducible exact H2_) | with_reducible exact H | (rw [hy126]; exact H) | exact H
    have Ny126 := am hy126
    clear hy126
    have H' := am H
    clear H
    have p124 : 0 ≤ (x6_1 : Int) := da
    have q124 : x6_1 < (l0.length : Int) := da
    obtain ⟨ad124, A124_0, c124_0, e124, hx124_0, hl124_0, hi124_0⟩ := at_L3 HR0.out x6_1 p124 q124
    cases e124
    replace hx124_0 := (HB.out.cell (World.block_lt_of_cell? w _ hx124_0)).trans hx124_0
    have HR124_0 := am hi124_0
    have HC124_0 := am hl124_0
    clear hi124_0 hl124_0
    replace p124 := eq_true p124
    replace q124 := eq_true q124
    have p125 : 0 ≤ (a1 : Int) := da
    have q125 : a1 < ((rd_L3 l0 x6_1).length : Int) := da
    obtain ⟨ad125, e125, hx125_0⟩ := Kd.at_bool HR124_0.out a1 p125 q125
    cases e125
    replace hx125_0 := (HB.out.cell (World.block_lt_of_cell? w _ hx125_0)).trans hx125_0
    replace p125 := eq_true p125
    replace q125 := eq_true q125
    go_wp2_with (first | ((with_reducible refine gate_builtin (b := .append) (xs := #[.tmp 14, .tmp 22]) rfl ?_); at_builtin; refine Kd.R_append Kd.bool (w0 := w) w.heap.size rfl (.tmp 14) (.tmp 22) 37 4 (.bool false) 1 rfl Try.underlying37 info4 rfl (by decide) (by omega) u5 x5_1 (rdOf false (rd_L3 l0 x6_1) a1) [.bool (rdOf false (rd_L3 l0 x6_1) a1)] (fun _ => True) (fun _ => False) rfl rfl ?aP (fun _ hk => hk.elim) ?aF ?aO ?aB ?aS ?aL ?_; (case aP => exact rfl); (case aB => exact (bm HB)); (case aF => exact (fun _ _ => trivial)); (case aO => exact (Kd.rv HO_5.out)); (case aS => exact (below_size (bm HB))); (case aL => have := LMc9.out; omega); intro v127 w10 ho hb hg hat; rw [← Ny126.out] at ho; have n0_ := am (hb); have n1_ := am (ho); clear HB HO_5; revert n0_ n1_; intro HB HO128; clear ho hb hg hat))
    go_roundg k1
    case measure => have := HK1.out; omega
    case rel => exact ⟨(y126), (wrap64 (x6_1 + 1)), rfl, H', ⟨by have := HK1.out; omega⟩, ⟨Kd.rv HO128.out⟩, ⟨bm HB⟩⟩
   ·rw [if_neg c5] at H
    have c5b0 : decide (x6_1 < (l0.length : Int)) = false := decide_eq_false c5
    clear c5
    obtain rfl := Option.some.inj H
    go_wp2
    go_ret
    exact ⟨_, rfl, by (with_reducible repeat (first | apply Kd.R_alloc | apply Kd.R_drewN | apply Kd.R_drew)); exact HO_5.out, bm HB⟩
end Go.Proofs.Ytapnohcfnclleaa.PFnPictureLines
