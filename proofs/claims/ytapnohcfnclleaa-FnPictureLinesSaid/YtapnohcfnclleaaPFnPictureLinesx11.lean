-- Made by a program of this session (the kit print, shortened, twice): the kit print itself does not give this text
import Derived.Test.YtapnohcfnclleaaV4
import Derived.Test.YtapnohcfnclleaaPFnPictureLinesx0
import Derived.Test.YtapnohcfnclleaaPFnPictureLinesx9
import Derived.Test.YtapnohcfnclleaaPFnPictureLinesx10
namespace Go.Proofs.Ytapnohcfnclleaa.PFnPictureLines
open Go.RowKit Go.Proofs.YtapnohcfnclleaaW.PrintWords Go.Proofs.YtapnohcfnclleaaW.PrintLast Go.Proofs.YtapnohcfnclleaaW.PrintMore
attribute [local go_sem] max2_int min2_int max_two min_two max_three min_three max_four min_four   -- for this text's walks alone
set_option linter.unusedVariables false
set_option linter.unusedSimpArgs false
/-! ### spec_LineForced: function 50 -/
mutual
def spec_LineForced.j0 : Nat → List Int → List Int → Bool → Option (List Int × Bool)
 | 0, _, _, _ => none
 | k + 1, x0, x1, x22 => if x22 = true then (some ((([] : List Int)), false)) else (if 0 ≤ (x1.length : Int) then (if ((x1.length : Int) : Int).toNat ≤ 35184372088832 then (spec_LineForced.l0 k x0 x1 (List.replicate ((x1.length : Int) : Int).toNat 0) 0 0) else (none)) else (none))
def spec_LineForced.l0 : Nat → List Int → List Int → List Int → Int → Int → Option (List Int × Bool)
 | 0, _, _, _, _, _ => none
 | k + 1, x0, x1, x6, x7, x8 => if x8 < (shl .i64 1 (x1.length : Int)) then ((spec_l12Line.f k x8 (x1.length : Int)).bind fun t419 => ((spec_l12Fits.f k t419 x1).bind fun t422 => (if t422 = true then ((spec_l12Same.f k t419 x0).bind fun t423 => (spec_LineForced.j2 k x0 x1 x6 x7 x8 t419 (!t423))) else (spec_LineForced.j2 k x0 x1 x6 x7 x8 t419 true)))) else (if x7 = 0 then ((some (([] : List Int) : List Int)).bind fun y427 => (if y427.length + x1.length < 17592186044416 then (some ((y427 ++ x1), false)) else (none))) else (spec_LineForced.l2 k x6 x7 (([] : List Int)) 0))
def spec_LineForced.j2 : Nat → List Int → List Int → List Int → Int → Int → List Bool → Bool → Option (List Int × Bool)
 | 0, _, _, _, _, _, _, _ => none
 | k + 1, x0, x1, x6, x7, x8, x9, x47 => if x47 = true then (spec_LineForced.l0 k x0 x1 x6 x7 (wrap64 (x8 + 1))) else (spec_LineForced.l1 k x0 x1 x6 (wrap64 (x7 + 1)) x8 x9 0)
def spec_LineForced.l1 : Nat → List Int → List Int → List Int → Int → Int → List Bool → Int → Option (List Int × Bool)
 | 0, _, _, _, _, _, _, _ => none
 | k + 1, x0, x1, x6, x7, x8, x9, x10 => if x10 < (x9.length : Int) then (if 0 ≤ x10 then (if rdOf false x9 x10 = true then (if x10 < (x6.length : Int) then (spec_LineForced.l1 k x0 x1 (x6.set (x10 : Int).toNat (wrap64 ((rd x6 x10) + 1))) x7 x8 x9 (wrap64 (x10 + 1))) else (none)) else (spec_LineForced.l1 k x0 x1 x6 x7 x8 x9 (wrap64 (x10 + 1)))) else (none)) else (spec_LineForced.l0 k x0 x1 x6 x7 (wrap64 (x8 + 1)))
def spec_LineForced.l2 : Nat → List Int → Int → List Int → Int → Option (List Int × Bool)
 | 0, _, _, _, _ => none
 | k + 1, x6, x7, x11, x12 => if x12 < (x6.length : Int) then (if 0 ≤ x12 then (if (rd x6 x12) = 0 then (if x11.length < 17592186044416 then (spec_LineForced.l2 k x6 x7 (x11 ++ [0]) (wrap64 (x12 + 1))) else (none)) else (if (rd x6 x12) = x7 then (if x11.length < 17592186044416 then (spec_LineForced.l2 k x6 x7 (x11 ++ [1]) (wrap64 (x12 + 1))) else (none)) else (if x11.length < 17592186044416 then (spec_LineForced.l2 k x6 x7 (x11 ++ [(-1)]) (wrap64 (x12 + 1))) else (none)))) else (none)) else (some (x11, true))
end
def spec_LineForced.f (k : Nat) (l0 : List Int) (l1 : List Int) : Option (List Int × Bool) := (spec_KnownValid.f k l1).bind fun t411 => (if t411 = true then ((spec_ClueValid.f k l0 (l1.length : Int)).bind fun t412 => (spec_LineForced.j0 k l0 l1 (!t412))) else (spec_LineForced.j0 k l0 l1 true))
set_option maxHeartbeats 8000000 in
set_option maxRecDepth 100000 in
theorem spec_LineForced.calls (k : Nat) (A0 : Option Addr) (c0 : Nat) (l0 : List Int) (A1 : Option Addr) (c1 : Nat) (l1 : List Int) (r1 : List Int) (r2 : Bool) (w : World) (hr0 : Kd.C (Kd.int .i64) w A0 l0.length l0) (hc0 : l0.length ≤ c0) (hr1 : Kd.C (Kd.int .i64) w A1 l1.length l1) (hc1 : l1.length ≤ c1) (h : spec_LineForced.f k l0 l1 = some (r1, r2)) :
  Calls Try.prog 50 #[.slice A0 l0.length c0, .slice A1 l1.length c1] w fun e w' => ∃ v0_ : Value, e = .returned (.tuple #[v0_, .bool r2]) ∧ Kd.R (Kd.int .i64) 3 w' w.heap.size (fun _ => True) v0_ r1 ∧ Below w.heap.size w w' := by
 have HR0 := am hr0
 have HC0 := am hc0
 clear hr0 hc0
 have HR1 := am hr1
 have HC1 := am hc1
 clear hr1 hc1
 have HB := am (Below.refl w.heap.size w)
 have H : ((spec_KnownValid.f k l1).bind fun t411 => (if t411 = true then ((spec_ClueValid.f k l0 (l1.length : Int)).bind fun t412 => (spec_LineForced.j0 k l0 l1 (!t412))) else (spec_LineForced.j0 k l0 l1 true))) = some (r1, r2) := h
 clear h
 have HC3 := am H
 clear H
 go_enter Try.func50, Try.ntmps50
 go_upto_region 1 with (fail)
 go_cut [22] (fun v22 wc => ∃ (kq : Nat) (x22_2 : Bool), v22 = .bool x22_2 ∧ Aside0 (spec_LineForced.j0 kq l0 l1 x22_2 = some (r1, r2)) ∧ Aside0 (kq ≤ k) ∧ Aside0 (Below w.heap.size w wc))
 case first =>
  have H := HC3.out
  clear HC3
  replace H := Option.bind_eq_some_iff.mp H
  obtain ⟨t411, A40, H⟩ := H
  replace H : (if t411 = true then ((spec_ClueValid.f k l0 (l1.length : Int)).bind fun t412 => (spec_LineForced.j0 k l0 l1 (!t412))) else (spec_LineForced.j0 k l0 l1 true)) = some (r1, r2) := H
  have A4 := am A40
  clear A40
  by_cases c5 : t411 = true
  ·subst c5
   rw [if_pos rfl] at H
   replace H := Option.bind_eq_some_iff.mp H
   obtain ⟨t412, A60, H⟩ := H
   replace H : (spec_LineForced.j0 k l0 l1 (!t412)) = some (r1, r2) := H
   have A6 := am A60
   clear A60
   have H' := am H
   clear H
   go_wp2_with (first | ((with_reducible refine gate_callee (f := 80) rfl ?_); refine goesL_ (some 14) rfl rfl Try.func80 (by kernel_rfl) rfl #[.slice A1 l1.length c1] rfl (by (try simp only [List.map_toArray, List.map_cons, List.map_nil]); first | done | rfl | (simp only [List.length_drop, List.length_take]; rfl)) ?_; (with_reducible refine (spec_KnownValid.calls k _ _ l1 true _ ?side1 ?side2 A4.out).mono ?_); (case side1 => repeat (first | exact (Kd.C_below HR1.out HB.out) | (with_reducible refine Kd.C_alloc ?_ _) | (with_reducible refine Kd.C_drewN ?_ _) | (with_reducible refine Kd.C_drew ?_))); (case side2 => exact HC1.out); rintro e w' ⟨rfl, ⟨nd, rfl⟩⟩; refine ⟨_, rfl, ?_⟩) | (go_at_call 52; (with_reducible refine (spec_ClueValid.calls k _ _ l0 (l1.length : Int) t412 _ ?side1 ?side2 A6.out).mono ?_); (case side1 => repeat (first | exact (Kd.C_below HR0.out (bm HB)) | (with_reducible refine Kd.C_alloc ?_ _) | (with_reducible refine Kd.C_drewN ?_ _) | (with_reducible refine Kd.C_drew ?_))); (case side2 => exact HC0.out); rintro e w' ⟨rfl, ⟨nd, rfl⟩⟩))
   go_meet
   case rel => exact ⟨_, (!t412), rfl, H', ⟨by first | omega | exact Nat.le_refl _⟩, ⟨bm HB⟩⟩
  ·replace c5 := Bool.eq_false_iff.mpr c5
   subst c5
   rw [if_neg (show ¬ (false = true) by decide)] at H
   have H' := am H
   clear H
   go_wp2_with (first | ((with_reducible refine gate_callee (f := 80) rfl ?_); refine goesL_ (some 14) rfl rfl Try.func80 (by kernel_rfl) rfl #[.slice A1 l1.length c1] rfl (by (try simp only [List.map_toArray, List.map_cons, List.map_nil]); first | done | rfl | (simp only [List.length_drop, List.length_take]; rfl)) ?_; (with_reducible refine (spec_KnownValid.calls k _ _ l1 false _ ?side1 ?side2 A4.out).mono ?_); (case side1 => repeat (first | exact (Kd.C_below HR1.out HB.out) | (with_reducible refine Kd.C_alloc ?_ _) | (with_reducible refine Kd.C_drewN ?_ _) | (with_reducible refine Kd.C_drew ?_))); (case side2 => exact HC1.out); rintro e w' ⟨rfl, ⟨nd, rfl⟩⟩; refine ⟨_, rfl, ?_⟩))
   go_meet
   case rel => exact ⟨_, (true), rfl, H', ⟨by first | omega | exact Nat.le_refl _⟩, ⟨bm HB⟩⟩
 case rest =>
  clear HC3
  obtain ⟨kq, x22_2, rfl, HA, HJ2, HB⟩ := hcut
  cases kq with
  | zero => exact absurd HA.out (by simp [spec_LineForced.j0])
  | succ kj2 =>
   have H := HA.out
   clear HA
   simp only [spec_LineForced.j0] at H
   by_cases c7 : x22_2 = true
   ·subst c7
    rw [if_pos rfl] at H
    obtain ⟨y413, hy413⟩ : ∃ y_ : List Int, y_ = (([] : List Int)) := ⟨_, rfl⟩
    replace H : (some (y413, false)) = some (r1, r2) := by first | (rw [hy413]; with_reducible exact H) | (have H2_ := (Option.bind_some _ _).symm.trans H; rw [hy413]; with_reducible exact H2_) | (have H2_ := (Option.bind_some _ _).symm.trans H; with_reducible exact H2_) | with_reducible exact H | (rw [hy413]; exact H) | exact H
    have Ny413 := am hy413
    clear hy413
    simp only [Option.some.injEq, Prod.mk.injEq] at H
    obtain ⟨rfl, rfl⟩ := H
    go_wp2_with (first | ((with_reducible refine gate_dst (N := 23) rfl ?_); (try (refine gate_guard (by rfl) ?_; dsimp only)); refine Kd.R_lit (Kd.int .i64) _ 3 ?hg (N := 23) ?hd (xs := ([] : List Int)) (inner := []) (ok := fun _ => True) (okp := fun _ => True) ?hr ?hp (fun _ hk => hk) trivial (Below.refl _ _) (Nat.le_refl _) (by simp) ?_; (case hd => rfl); (case hg => rfl); (case hr => first | (go_simp; done) | (go_simp; rfl)); (case hp => exact (Reps.none _ _)); intro v414 w8 ho9 hb hg_ hnew_; clear hg_ hnew_; (first | rw [← Ny413.out] at ho9 | (simp only [Int.reduceToNat] at ho9; rw [← Ny413.out] at ho9)); have n0_ := am (Kd.R_lower ho9 (below_size (bm HB))); have n1_ := am (below_step (bm HB) hb); clear HB; revert n0_ n1_; intro HO415 HB; clear hb ho9))
    go_ret2
    exact ⟨_, rfl, by (with_reducible repeat (first | apply Kd.R_alloc | apply Kd.R_drewN | apply Kd.R_drew)); exact HO415.out, bm HB⟩
   ·replace c7 := Bool.eq_false_iff.mpr c7
    subst c7
    rw [if_neg (show ¬ (false = true) by decide)] at H
    have q_ := ifs H
    clear H
    obtain ⟨c10, H⟩ := q_
    have c10b0 := eq_true c10
    have c10b1 : decide (0 ≤ (l1.length : Int)) = true := decide_eq_true c10
    clear c10
    have q_ := ifs H
    clear H
    obtain ⟨c11, H⟩ := q_
    have c11b0 := eq_true c11
    have c11b1 : decide (((l1.length : Int) : Int).toNat ≤ 35184372088832) = true := decide_eq_true c11
    clear c11
    obtain ⟨y416, hy416⟩ : ∃ y_ : List Int, y_ = (List.replicate ((l1.length : Int) : Int).toNat 0) := ⟨_, rfl⟩
    replace H : (spec_LineForced.l0 kj2 l0 l1 y416 0 0) = some (r1, r2) := by first | (rw [hy416]; with_reducible exact H) | (have H2_ := (Option.bind_some _ _).symm.trans H; rw [hy416]; with_reducible exact H2_) | (have H2_ := (Option.bind_some _ _).symm.trans H; with_reducible exact H2_) | with_reducible exact H | (rw [hy416]; exact H) | exact H
    have Ny416 := am hy416
    clear hy416
    have H' := am H
    clear H
    go_wp2_with (first | ((with_reducible refine gate_dst (N := 26) rfl ?_); (try (refine gate_guard (by rfl) ?_; dsimp only)); refine Kd.R_make (Kd.int .i64) _ 3 rfl (N := 26) rfl 36 _ _ rfl (l1.length : Int) rfl rfl Try.underlying36 (.int .i64 0) 8 info3 rfl (by decide) (by omega) 0 (ok := fun _ => True) (okp := fun _ => True) rfl (fun _ hk => hk) trivial (da) (Nat.le_trans (Nat.mul_le_mul_right _ (da : (l1.length : Int).toNat ≤ 35184372088832)) (by omega)) (Below.refl _ _) (Nat.le_refl _) ?_; intro v417 w12 ho13 hb hg_ hnew_; clear hg_ hnew_; (first | rw [← Ny416.out] at ho13 | (simp only [Int.reduceToNat] at ho13; rw [← Ny416.out] at ho13)); have n0_ := am (Kd.R_lower ho13 (below_size (bm HB))); have n1_ := am (below_step (bm HB) hb); clear HB; revert n0_ n1_; intro HO418 HB; clear hb ho13))
    go_loopg [7, 8] kj2 (fun kq v7 v8 w' => ∃ (x6_2 : List Int) (x7_2 : Int) (x8_2 : Int), v7 = .int .i64 x7_2 ∧ v8 = .int .i64 x8_2 ∧ Aside0 (spec_LineForced.l0 kq l0 l1 x6_2 x7_2 x8_2 = some (r1, r2)) ∧ Aside0 (kq ≤ kj2) ∧ Aside0 (Kd.R (Kd.int .i64) 3 w' w.heap.size (fun _ => True) v417 x6_2) ∧ Aside0 (Below w.heap.size w w'))
    case atStart => exact ⟨(y416), (0), (0), rfl, rfl, H', ⟨Nat.le_refl _⟩, ⟨Kd.rv HO418.out⟩, ⟨bm HB⟩⟩
    case round =>
     clear H'
     clear c10b0 c10b1 c11b0 c11b1
     obtain ⟨x6_2, x7_2, x8_2, rfl, rfl, HA, HK2, HO_6, HB⟩ := hrel
     cases gk with
     | zero => exact absurd HA.out (by simp [spec_LineForced.l0])
     | succ k2 =>
      have H := HA.out
      clear HA
      simp only [spec_LineForced.l0] at H
      obtain ⟨ji14, hji14⟩ : ∃ j_ : Int, (shl .i64 1 (l1.length : Int)) = j_ := ⟨_, rfl⟩
      replace H : (if x8_2 < (ji14) then ((spec_l12Line.f k2 x8_2 (l1.length : Int)).bind fun t419 => ((spec_l12Fits.f k2 t419 l1).bind fun t422 => (if t422 = true then ((spec_l12Same.f k2 t419 l0).bind fun t423 => (spec_LineForced.j2 k2 l0 l1 x6_2 x7_2 x8_2 t419 (!t423))) else (spec_LineForced.j2 k2 l0 l1 x6_2 x7_2 x8_2 t419 true)))) else (if x7_2 = 0 then ((some (([] : List Int) : List Int)).bind fun y427 => (if y427.length + l1.length < 17592186044416 then (some ((y427 ++ l1), false)) else (none))) else (spec_LineForced.l2 k2 x6_2 x7_2 (([] : List Int)) 0))) = some (r1, r2) := by first | (rw [hji14] at H; exact H) | (simp only [hji14] at H ⊢; exact H)
      have hji14_ : (IntKind.i64.wrap (1 * 2 ^ min (l1.length : Int).toNat 64)) = ji14 := hji14
      have hji14z : (l1.length : Int) ≤ 64 → (IntKind.i64.wrap (1 * 2 ^ (l1.length : Int).toNat)) = ji14 := shl_small hji14
      have hji14p : (IntKind.i64.wrap (1 * 2 ^ min l1.length 64)) = ji14 := hji14_
      have hji14q : (l1.length : Int) ≤ 64 → (IntKind.i64.wrap (1 * 2 ^ l1.length)) = ji14 := hji14z
      have hji14r : (IntKind.i64.wrap (2 ^ min l1.length 64)) = ji14 := by have h_ := hji14p; rw [Int.one_mul] at h_; exact h_
      have hji14s : (l1.length : Int) ≤ 64 → (IntKind.i64.wrap (2 ^ l1.length)) = ji14 := fun hle_ => by have h_ := hji14q hle_; rw [Int.one_mul] at h_; exact h_
      have hji14u : (IntKind.i64.wrap (2 ^ min (l1.length : Int).toNat 64)) = ji14 := by have h_ := hji14_; rw [Int.one_mul] at h_; exact h_
      have hji14v : (l1.length : Int) ≤ 64 → (IntKind.i64.wrap (2 ^ (l1.length : Int).toNat)) = ji14 := fun hle_ => by have h_ := hji14z hle_; rw [Int.one_mul] at h_; exact h_
      have hji14y : (wrap64 (1 * 2 ^ min (l1.length : Int).toNat 64)) = ji14 := (i64_w _).symm.trans hji14_
      have hji14x : (l1.length : Int) ≤ 64 → (wrap64 (1 * 2 ^ (l1.length : Int).toNat)) = ji14 := fun h_ => (i64_w _).symm.trans (hji14z h_)
      by_cases c15 : x8_2 < (ji14)
      ·rw [if_pos c15] at H
       have c15b0 : decide (x8_2 < (ji14)) = true := decide_eq_true c15
       clear c15
       replace H := Option.bind_eq_some_iff.mp H
       obtain ⟨t419, A160, H⟩ := H
       replace H : ((spec_l12Fits.f k2 t419 l1).bind fun t422 => (if t422 = true then ((spec_l12Same.f k2 t419 l0).bind fun t423 => (spec_LineForced.j2 k2 l0 l1 x6_2 x7_2 x8_2 t419 (!t423))) else (spec_LineForced.j2 k2 l0 l1 x6_2 x7_2 x8_2 t419 true))) = some (r1, r2) := H
       have A16 := am A160
       clear A160
       have HC17 := am H
       clear H
       go_upto_region 9 with (first | ((with_reducible refine gate_callee (f := 81) rfl ?_); refine goesL_ (some 37) rfl rfl Try.func81 (by kernel_rfl) rfl #[.int .i64 x8_2, .int .i64 (l1.length : Int)] rfl (by (try simp only [List.map_toArray, List.map_cons, List.map_nil]); first | done | rfl | (simp only [List.length_drop, List.length_take]; rfl)) ?_; (with_reducible refine (spec_l12Line.calls k2 x8_2 (l1.length : Int) t419 _ A16.out).mono ?_); rintro e w18 ⟨v420, rfl, ho0, hb⟩; refine ⟨_, rfl, ?_⟩; have n0_ := am (Kd.R_below (Kd.rv HO_6.out) hb); have n1_ := am (Kd.R_lower ho0 (below_size (bm HB))); have n2_ := am (below_step (bm HB) hb); clear HO_6 HB; revert n0_ n1_ n2_; intro HO_6 HO421 HB; (try clear hb); (try clear hb2); (try clear hk); (try clear hi); (try clear ho0)))
       (try simp only [Act.put, List.setIfInBounds_toArray, List.set_cons_zero, List.set_cons_succ])
       go_cut [47] (fun v47 wc => ∃ (kq : Nat) (x47_16 : Bool), v47 = .bool x47_16 ∧ Aside0 (spec_LineForced.j2 kq l0 l1 x6_2 x7_2 x8_2 t419 x47_16 = some (r1, r2)) ∧ Aside0 (kq ≤ k2) ∧ Aside0 (Kd.R (Kd.int .i64) 3 wc w.heap.size (fun _ => True) v417 x6_2) ∧ Aside0 (Kd.R Kd.bool 4 wc w.heap.size (fun _ => True) v420 t419) ∧ Aside0 (Below w.heap.size w wc))
       case first =>
        have H := HC17.out
        clear HC17
        replace H := Option.bind_eq_some_iff.mp H
        obtain ⟨t422, A190, H⟩ := H
        replace H : (if t422 = true then ((spec_l12Same.f k2 t419 l0).bind fun t423 => (spec_LineForced.j2 k2 l0 l1 x6_2 x7_2 x8_2 t419 (!t423))) else (spec_LineForced.j2 k2 l0 l1 x6_2 x7_2 x8_2 t419 true)) = some (r1, r2) := H
        have A19 := am A190
        clear A190
        by_cases c20 : t422 = true
        ·subst c20
         rw [if_pos rfl] at H
         replace H := Option.bind_eq_some_iff.mp H
         obtain ⟨t423, A210, H⟩ := H
         replace H : (spec_LineForced.j2 k2 l0 l1 x6_2 x7_2 x8_2 t419 (!t423)) = some (r1, r2) := H
         have A21 := am A210
         clear A210
         have H' := am H
         clear H
         obtain ⟨Ao22, co22, eo22⟩ := Kd.R_slice HO421.out
         subst eo22
         go_wp2_with (first | ((with_reducible refine gate_callee (f := 82) rfl ?_); refine goesL_ (some 40) rfl rfl Try.func82 (by kernel_rfl) rfl #[.slice Ao22 t419.length co22, .slice A1 l1.length c1] rfl (by (try simp only [List.map_toArray, List.map_cons, List.map_nil]); first | done | rfl | (simp only [List.length_drop, List.length_take]; rfl)) ?_; (with_reducible refine (spec_l12Fits.calls k2 _ _ t419 _ _ l1 true _ ?side1 ?side2 ?side3 ?side4 A19.out).mono ?_); (case side1 => exact Kd.cv (Kd.R_reads' HO421.out).2.2); (case side2 => exact (Kd.R_reads' HO421.out).2.1); (case side3 => repeat (first | exact (Kd.C_below HR1.out HB.out) | (with_reducible refine Kd.C_alloc ?_ _) | (with_reducible refine Kd.C_drewN ?_ _) | (with_reducible refine Kd.C_drew ?_))); (case side4 => exact HC1.out); rintro e w' ⟨rfl, ⟨nd, rfl⟩⟩; refine ⟨_, rfl, ?_⟩) | (go_at_call 83; (with_reducible refine (spec_l12Same.calls k2 _ _ t419 _ _ l0 t423 _ ?side1 ?side2 ?side3 ?side4 A21.out).mono ?_); (case side1 => exact Kd.cv (Kd.R_reads' HO421.out).2.2); (case side2 => exact (Kd.R_reads' HO421.out).2.1); (case side3 => repeat (first | exact (Kd.C_below HR0.out (bm HB)) | (with_reducible refine Kd.C_alloc ?_ _) | (with_reducible refine Kd.C_drewN ?_ _) | (with_reducible refine Kd.C_drew ?_))); (case side4 => exact HC0.out); rintro e w23 ⟨rfl, hb⟩; have n0_ := am (Kd.R_below (Kd.rv HO_6.out) hb); have n1_ := am (Kd.R_below (Kd.rv HO421.out) hb); have n2_ := am (below_step (bm HB) hb); clear HO_6 HO421 HB; revert n0_ n1_ n2_; intro HO_6 HO421 HB; (try clear hb); (try clear hb2); (try clear hk); (try clear hi)))
         go_meet
         case rel => exact ⟨_, (!t423), rfl, H', ⟨by have := HJ2.out; have := HK2.out; first | omega | exact Nat.le_refl _⟩, ⟨Kd.rv HO_6.out⟩, ⟨Kd.rv HO421.out⟩, ⟨bm HB⟩⟩
        ·replace c20 := Bool.eq_false_iff.mpr c20
         subst c20
         rw [if_neg (show ¬ (false = true) by decide)] at H
         have H' := am H
         clear H
         obtain ⟨Ao24, co24, eo24⟩ := Kd.R_slice HO421.out
         subst eo24
         go_wp2_with (first | ((with_reducible refine gate_callee (f := 82) rfl ?_); refine goesL_ (some 40) rfl rfl Try.func82 (by kernel_rfl) rfl #[.slice Ao24 t419.length co24, .slice A1 l1.length c1] rfl (by (try simp only [List.map_toArray, List.map_cons, List.map_nil]); first | done | rfl | (simp only [List.length_drop, List.length_take]; rfl)) ?_; (with_reducible refine (spec_l12Fits.calls k2 _ _ t419 _ _ l1 false _ ?side1 ?side2 ?side3 ?side4 A19.out).mono ?_); (case side1 => exact Kd.cv (Kd.R_reads' HO421.out).2.2); (case side2 => exact (Kd.R_reads' HO421.out).2.1); (case side3 => repeat (first | exact (Kd.C_below HR1.out HB.out) | (with_reducible refine Kd.C_alloc ?_ _) | (with_reducible refine Kd.C_drewN ?_ _) | (with_reducible refine Kd.C_drew ?_))); (case side4 => exact HC1.out); rintro e w' ⟨rfl, ⟨nd, rfl⟩⟩; refine ⟨_, rfl, ?_⟩))
         go_meet
         case rel => exact ⟨_, (true), rfl, H', ⟨by have := HJ2.out; have := HK2.out; first | omega | exact Nat.le_refl _⟩, ⟨Kd.rv HO_6.out⟩, ⟨Kd.rv HO421.out⟩, ⟨bm HB⟩⟩
       case rest =>
        clear HC17
        clear c15b0
        obtain ⟨kq, x47_16, rfl, HA, HJ16, HO_6, HO_9, HB⟩ := hcut
        cases kq with
        | zero => exact absurd HA.out (by simp [spec_LineForced.j2])
        | succ kj16 =>
         have H := HA.out
         clear HA
         simp only [spec_LineForced.j2] at H
         by_cases c25 : x47_16 = true
         ·subst c25
          rw [if_pos rfl] at H
          have H' := am H
          clear H
          go_wp2
          go_roundg kj16
          case measure => have := HJ2.out; have := HK2.out; have := HJ16.out; omega
          case rel => exact ⟨(x6_2), (x7_2), (wrap64 (x8_2 + 1)), rfl, rfl, H', ⟨by have := HJ2.out; have := HK2.out; have := HJ16.out; omega⟩, ⟨Kd.rv HO_6.out⟩, ⟨bm HB⟩⟩
         ·replace c25 := Bool.eq_false_iff.mpr c25
          subst c25
          rw [if_neg (show ¬ (false = true) by decide)] at H
          have H' := am H
          clear H
          go_wp2
          go_loopg [10] kj16 (fun kq v10 w' => ∃ (x6_4 : List Int) (x10_4 : Int), v10 = .int .i64 x10_4 ∧ Aside0 (spec_LineForced.l1 kq l0 l1 x6_4 (wrap64 (x7_2 + 1)) x8_2 t419 x10_4 = some (r1, r2)) ∧ Aside0 (kq ≤ kj16) ∧ Aside0 (Kd.R (Kd.int .i64) 3 w' w.heap.size (fun _ => True) v417 x6_4) ∧ Aside0 (Kd.R Kd.bool 4 w' w.heap.size (fun _ => True) v420 t419) ∧ Aside0 (Below w.heap.size w w'))
          case atStart => exact ⟨(x6_2), (0), rfl, H', ⟨Nat.le_refl _⟩, ⟨Kd.rv HO_6.out⟩, ⟨Kd.rv HO_9.out⟩, ⟨bm HB⟩⟩
          case round =>
           clear H'
           obtain ⟨x6_4, x10_4, rfl, HA, HK4, HO_6, HO_9, HB⟩ := hrel
           cases gk with
           | zero => exact absurd HA.out (by simp [spec_LineForced.l1])
           | succ k4 =>
            have H := HA.out
            clear HA
            simp only [spec_LineForced.l1] at H
            by_cases c26 : x10_4 < (t419.length : Int)
            ·rw [if_pos c26] at H
             have c26b0 : decide (x10_4 < (t419.length : Int)) = true := decide_eq_true c26
             clear c26
             have q_ := ifs H
             clear H
             obtain ⟨c27, H⟩ := q_
             have c27b0 : decide (0 ≤ x10_4) = true := decide_eq_true c27
             clear c27
             obtain ⟨bq28, hbq28⟩ : ∃ b_ : Bool, b_ = (rdOf false t419 x10_4) := ⟨_, rfl⟩
             replace H : (if bq28 = true then (if x10_4 < (x6_4.length : Int) then (spec_LineForced.l1 k4 l0 l1 (x6_4.set (x10_4 : Int).toNat (wrap64 ((rd x6_4 x10_4) + 1))) (wrap64 (x7_2 + 1)) x8_2 t419 (wrap64 (x10_4 + 1))) else (none)) else (spec_LineForced.l1 k4 l0 l1 x6_4 (wrap64 (x7_2 + 1)) x8_2 t419 (wrap64 (x10_4 + 1)))) = some (r1, r2) := by rw [← hbq28] at H; exact H
             have Nbq28 := am hbq28
             clear hbq28
             by_cases c29 : bq28 = true
             ·subst c29
              rw [if_pos rfl] at H
              have q_ := ifs H
              clear H
              obtain ⟨c30, H⟩ := q_
              have c30b0 : decide (x10_4 < (x6_4.length : Int)) = true := decide_eq_true c30
              clear c30
              obtain ⟨y426, hy426⟩ : ∃ y_ : List Int, y_ = (x6_4.set (x10_4 : Int).toNat (wrap64 ((rd x6_4 x10_4) + 1))) := ⟨_, rfl⟩
              replace H : (spec_LineForced.l1 k4 l0 l1 y426 (wrap64 (x7_2 + 1)) x8_2 t419 (wrap64 (x10_4 + 1))) = some (r1, r2) := by first | (rw [hy426]; with_reducible exact H) | (have H2_ := (Option.bind_some _ _).symm.trans H; rw [hy426]; with_reducible exact H2_) | (have H2_ := (Option.bind_some _ _).symm.trans H; with_reducible exact H2_) | with_reducible exact H | (rw [hy426]; exact H) | exact H
              have Ny426 := am hy426
              clear hy426
              have H' := am H
              clear H
              obtain ⟨Ao32, co32, eo32⟩ := Kd.R_slice HO_9.out
              subst eo32
              have p424 : 0 ≤ (x10_4 : Int) := da
              have q424 : x10_4 < (t419.length : Int) := da
              obtain ⟨ad424, e424, hx424_0⟩ := Kd.at_bool (Kd.R_reads' HO_9.out).2.2 x10_4 p424 q424
              (try rw [← Nbq28.out] at hx424_0)
              cases e424
              replace p424 := eq_true p424
              replace q424 := eq_true q424
              obtain ⟨Ao33, co33, eo33⟩ := Kd.R_slice HO_6.out
              subst eo33
              have p425 : 0 ≤ (x10_4 : Int) := da
              have q425 : x10_4 < (x6_4.length : Int) := da
              obtain ⟨ad425, e425, hx425_0⟩ := Kd.at_int (Kd.R_reads' HO_6.out).2.2 x10_4 p425 q425
              cases e425
              replace p425 := eq_true p425
              replace q425 := eq_true q425
              have p31 : 0 ≤ (x10_4 : Int) := da
              have q31 : (x10_4 : Int) < ((x6_4.length : Int) : Int) := da
              obtain ⟨go31, co31, eo31, gb31, gl31, cl31, HG31⟩ := Kd.R_form HO_6.out (by omega)
              (first | cases eo31 | (injection eo31 with ea_ en_ ec_; (first | subst ea_ | (injection ea_ with ea_; subst ea_)); subst ec_; clear en_))
              have GB31 := am gb31
              have GG31 := am HG31
              clear gb31 gl31 HG31
              (first | simp only [add_plain] at hx425_0 | skip)
              obtain ⟨hx31_0, hf31_0⟩ := Kd.R_celln 0 HO_6.out (x10_4 : Int) p31 q31
              replace p31 := eq_true p31
              replace q31 := eq_true q31
              have HP34 := Kd.R_putg HO_6.out (x10_4 : Int) (wrap64 ((rd x6_4 x10_4) + 1))
              go_wp2_with (first | ((with_reducible refine gate_store (t := 3) (p := 67) rfl ?_); refine store_event (t := 3) (p := 67) (v := ?vo_w35) (w1 := (wr.setCell ⟨go31, (x10_4 : Int).toNat, none⟩ (.int .i64 (wrap64 ((rd x6_4 x10_4) + 1))))) ?hg ?ho ?hn ?hr ?_; (case ho => rfl); (case hg => rfl); (case hn => rfl); (case hr => first | (go_simp; done) | (go_simp; rfl)); intro w35 hw; have hg : wr.grownBy w35 (some go31) := (by rw [hw]; exact HP34.2); have hp_ : Kd.R (Kd.int .i64) 3 w35 w.heap.size (fun _ => True) (.slice (some ⟨go31, 0, none⟩) x6_4.length co33) y426 := (by rw [hw, Ny426.out]; exact HP34.1); clear HP34; have n0_ := am (hp_); have n1_ := am (Kd.R_over' (v := (.slice (some ⟨go31, 0, none⟩) x6_4.length co33)) (Kd.rv HO_9.out) (Kd.R_typed HO_6.out) (by decide) hg); have n2_ := am ((by rw [hw]; exact below_set (HB.out) GB31.out : Below w.heap.size w w35)); clear HO_6 HO_9 HB; revert n0_ n1_ n2_; intro HO_6 HO_9 HB; clear hg hw hp_))
              go_roundg k4
              case measure => have := HJ2.out; have := HK2.out; have := HJ16.out; have := HK4.out; omega
              case rel => exact ⟨(y426), (wrap64 (x10_4 + 1)), rfl, H', ⟨by have := HJ2.out; have := HK2.out; have := HJ16.out; have := HK4.out; omega⟩, ⟨Kd.rv HO_6.out⟩, ⟨Kd.rv HO_9.out⟩, ⟨bm HB⟩⟩
             ·replace c29 := Bool.eq_false_iff.mpr c29
              subst c29
              rw [if_neg (show ¬ (false = true) by decide)] at H
              have H' := am H
              clear H
              obtain ⟨Ao36, co36, eo36⟩ := Kd.R_slice HO_9.out
              subst eo36
              have p424 : 0 ≤ (x10_4 : Int) := da
              have q424 : x10_4 < (t419.length : Int) := da
              obtain ⟨ad424, e424, hx424_0⟩ := Kd.at_bool (Kd.R_reads' HO_9.out).2.2 x10_4 p424 q424
              (try rw [← Nbq28.out] at hx424_0)
              cases e424
              replace p424 := eq_true p424
              replace q424 := eq_true q424
              go_wp2
              go_roundg k4
              case measure => have := HJ2.out; have := HK2.out; have := HJ16.out; have := HK4.out; omega
              case rel => exact ⟨(x6_4), (wrap64 (x10_4 + 1)), rfl, H', ⟨by have := HJ2.out; have := HK2.out; have := HJ16.out; have := HK4.out; omega⟩, ⟨Kd.rv HO_6.out⟩, ⟨Kd.rv HO_9.out⟩, ⟨bm HB⟩⟩
            ·rw [if_neg c26] at H
             have c26b0 : decide (x10_4 < (t419.length : Int)) = false := decide_eq_false c26
             clear c26
             have H' := am H
             clear H
             obtain ⟨Ao37, co37, eo37⟩ := Kd.R_slice HO_9.out
             subst eo37
             go_wp2
             go_roundg k4
             case measure => have := HJ2.out; have := HK2.out; have := HJ16.out; have := HK4.out; omega
             case rel => exact ⟨(x6_4), ((wrap64 (x7_2 + 1))), (wrap64 (x8_2 + 1)), rfl, rfl, H', ⟨by have := HJ2.out; have := HK2.out; have := HJ16.out; have := HK4.out; omega⟩, ⟨Kd.rv HO_6.out⟩, ⟨bm HB⟩⟩
      ·rw [if_neg c15] at H
       have c15b0 : decide (x8_2 < (ji14)) = false := decide_eq_false c15
       clear c15
       by_cases c38 : x7_2 = 0
       ·rw [if_pos c38] at H
        have c38b0 : (x7_2 == 0) = true := beq_iff_eq.mpr c38
        have c38b1 : (x7_2 != 0) = false := bne_eq_false_iff_eq.mpr c38
        clear c38
        obtain ⟨y427, hy427⟩ : ∃ y_ : List Int, y_ = (([] : List Int)) := ⟨_, rfl⟩
        replace H : (if y427.length + l1.length < 17592186044416 then (some ((y427 ++ l1), false)) else (none)) = some (r1, r2) := by first | (rw [hy427]; with_reducible exact H) | (have H2_ := (Option.bind_some _ _).symm.trans H; rw [hy427]; with_reducible exact H2_) | (have H2_ := (Option.bind_some _ _).symm.trans H; with_reducible exact H2_) | with_reducible exact H | (rw [hy427]; exact H) | exact H
        have Ny427 := am hy427
        clear hy427
        have q_ := ifs H
        clear H
        obtain ⟨c39, H⟩ := q_
        have LMc39 := am c39
        clear c39
        obtain ⟨y430, hy430⟩ : ∃ y_ : List Int, y_ = (y427 ++ l1) := ⟨_, rfl⟩
        replace H : (some (y430, false)) = some (r1, r2) := by first | (rw [hy430]; with_reducible exact H) | (have H2_ := (Option.bind_some _ _).symm.trans H; rw [hy430]; with_reducible exact H2_) | (have H2_ := (Option.bind_some _ _).symm.trans H; with_reducible exact H2_) | with_reducible exact H | (rw [hy430]; exact H) | exact H
        have Ny430 := am hy430
        clear hy430
        simp only [Option.some.injEq, Prod.mk.injEq] at H
        obtain ⟨rfl, rfl⟩ := H
        go_wp2_with (first | ((with_reducible refine gate_dst (N := 70) rfl ?_); (try (refine gate_guard (by rfl) ?_; dsimp only)); refine Kd.R_lit (Kd.int .i64) _ 3 ?hg (N := 70) ?hd (xs := ([] : List Int)) (inner := []) (ok := fun _ => True) (okp := fun _ => True) ?hr ?hp (fun _ hk => hk) trivial (Below.refl _ _) (Nat.le_refl _) (by simp) ?_; (case hd => rfl); (case hg => rfl); (case hr => first | (go_simp; done) | (go_simp; rfl)); (case hp => exact (Reps.none _ _)); intro v428 w40 ho41 hb hg_ hnew_; clear hg_ hnew_; (first | rw [← Ny427.out] at ho41 | (simp only [Int.reduceToNat] at ho41; rw [← Ny427.out] at ho41)); have n0_ := am (Kd.R_elder' (Kd.rv HO_6.out) (Kd.R_base ho41) hb); have n1_ := am (Kd.R_lower (Kd.R_new' ho41 (Kd.R_lt (Kd.rv HO_6.out))) (below_size (bm HB))); have n2_ := am (below_step (bm HB) hb); clear HO_6 HB; revert n0_ n1_ n2_; intro HO_6 HO429 HB; clear hb ho41) | ((with_reducible refine gate_builtin (b := .append) (xs := #[.tmp 70, .tmp 71]) rfl ?_); (try (refine gate_guard (by rfl) ?_; dsimp only)); at_builtin; refine Kd.R_append_rows (Kd.int .i64) (w0 := w) w.heap.size rfl (.tmp 70) (.tmp 71) 36 3 (.int .i64 0) 8 rfl Try.underlying36 info3 rfl (by decide) (by omega) v428 y427 l1 _ _ _ (fun k_ => some k_ ≠ (v417 : Value).ownBlock) (fun _ => False) rfl rfl ?aO ?aR (fun _ _ h => h) (fun _ h => h.elim) ?aF ?aB ?aS ?aL ?_; (case aR => repeat (first | exact (Kd.C_below HR1.out HB.out) | (with_reducible refine Kd.C_alloc ?_ _) | (with_reducible refine Kd.C_drewN ?_ _) | (with_reducible refine Kd.C_drew ?_))); (case aB => exact (bm HB)); (case aF => exact (fun k_ hk => Kd.fresh' (Kd.R_lt (Kd.rv HO_6.out)) k_ hk)); (case aO => exact (by (with_reducible repeat (first | apply Kd.R_alloc | apply Kd.R_drewN | apply Kd.R_drew)); exact Kd.R_mono HO429.out (fun _ hk => hk.2))); (case aS => exact (below_size (bm HB))); (case aL => have := LMc39.out; omega); intro v431 w42 ho hb hg hat; rw [← Ny430.out] at ho; have n0_ := am (Kd.R_after (ok := (fun _ => True)) (Kd.rv HO_6.out) hg hat); have n1_ := am (hb); have n2_ := am (ho); clear HO_6 HB HO429; revert n0_ n1_ n2_; intro HO_6 HB HO432; clear ho hb hg hat))
        go_ret2
        exact ⟨_, by first | rfl | (simp [errW_none, errW_some] <;> rfl) | (simp only [← hji14]; first | rfl | (simp [errW_none, errW_some] <;> rfl)) | (simp [*, errW_none, errW_some] <;> rfl), by (with_reducible repeat (first | apply Kd.R_alloc | apply Kd.R_drewN | apply Kd.R_drew)); exact Kd.R_mono HO432.out (fun _ hk => trivial), bm HB⟩
       ·rw [if_neg c38] at H
        have c38b0 : (x7_2 == 0) = false := beq_eq_false_iff_ne.mpr c38
        have c38b1 : (x7_2 != 0) = true := bne_iff_ne.mpr c38
        obtain ⟨y433, hy433⟩ : ∃ y_ : List Int, y_ = (([] : List Int)) := ⟨_, rfl⟩
        replace H : (spec_LineForced.l2 k2 x6_2 x7_2 y433 0) = some (r1, r2) := by first | (rw [hy433]; with_reducible exact H) | (have H2_ := (Option.bind_some _ _).symm.trans H; rw [hy433]; with_reducible exact H2_) | (have H2_ := (Option.bind_some _ _).symm.trans H; with_reducible exact H2_) | with_reducible exact H | (rw [hy433]; exact H) | exact H
        have Ny433 := am hy433
        clear hy433
        have H' := am H
        clear H
        go_wp2_with (first | ((with_reducible refine gate_dst (N := 73) rfl ?_); (try (refine gate_guard (by rfl) ?_; dsimp only)); refine Kd.R_lit (Kd.int .i64) _ 3 ?hg (N := 73) ?hd (xs := ([] : List Int)) (inner := []) (ok := fun _ => True) (okp := fun _ => True) ?hr ?hp (fun _ hk => hk) trivial (Below.refl _ _) (Nat.le_refl _) (by simp) ?_; (case hd => rfl); (case hg => rfl); (case hr => first | (go_simp; done) | (go_simp; rfl)); (case hp => exact (Reps.none _ _)); intro v434 w43 ho44 hb hg_ hnew_; clear hg_ hnew_; (first | rw [← Ny433.out] at ho44 | (simp only [Int.reduceToNat] at ho44; rw [← Ny433.out] at ho44)); have n0_ := am (Kd.R_elder' (Kd.rv HO_6.out) (Kd.R_base ho44) hb); have n1_ := am (Kd.R_lower (Kd.R_new' ho44 (Kd.R_lt (Kd.rv HO_6.out))) (below_size (bm HB))); have n2_ := am (below_step (bm HB) hb); clear HO_6 HB; revert n0_ n1_ n2_; intro HO_6 HO435 HB; clear hb ho44))
        go_loopg [11, 12] k2 (fun kq v11 v12 w' => ∃ (x11_3 : List Int) (x12_3 : Int), v12 = .int .i64 x12_3 ∧ Aside0 (spec_LineForced.l2 kq x6_2 x7_2 x11_3 x12_3 = some (r1, r2)) ∧ Aside0 (kq ≤ k2) ∧ Aside0 (Kd.R (Kd.int .i64) 3 w' w.heap.size (fun k_ => some k_ ≠ (v11 : Value).ownBlock) v417 x6_2) ∧ Aside0 (Kd.R (Kd.int .i64) 3 w' w.heap.size (fun k_ => some k_ ≠ (v417 : Value).ownBlock) v11 x11_3) ∧ Aside0 (Below w.heap.size w w'))
        case atStart => exact ⟨(y433), (0), rfl, H', ⟨Nat.le_refl _⟩, ⟨by (with_reducible repeat (first | apply Kd.R_alloc | apply Kd.R_drewN | apply Kd.R_drew)); exact Kd.R_mono HO_6.out (fun _ hk => hk.2)⟩, ⟨by (with_reducible repeat (first | apply Kd.R_alloc | apply Kd.R_drewN | apply Kd.R_drew)); exact Kd.R_mono HO435.out (fun _ hk => hk.2)⟩, ⟨bm HB⟩⟩
        case round =>
         clear H'
         clear c15b0 c38 c38b0 c38b1
         obtain ⟨x11_3, x12_3, rfl, HA, HK3, HO_6, HO_11, HB⟩ := hrel
         cases gk with
         | zero => exact absurd HA.out (by simp [spec_LineForced.l2])
         | succ k3 =>
          have H := HA.out
          clear HA
          simp only [spec_LineForced.l2] at H
          by_cases c45 : x12_3 < (x6_2.length : Int)
          ·rw [if_pos c45] at H
           have c45b0 : decide (x12_3 < (x6_2.length : Int)) = true := decide_eq_true c45
           clear c45
           have q_ := ifs H
           clear H
           obtain ⟨c46, H⟩ := q_
           have c46b0 : decide (0 ≤ x12_3) = true := decide_eq_true c46
           clear c46
           by_cases c47 : (rd x6_2 x12_3) = 0
           ·rw [if_pos c47] at H
            have c47b0 : ((rd x6_2 x12_3) == 0) = true := beq_iff_eq.mpr c47
            have c47b1 : ((rd x6_2 x12_3) != 0) = false := bne_eq_false_iff_eq.mpr c47
            clear c47
            have q_ := ifs H
            clear H
            obtain ⟨c48, H⟩ := q_
            have LMc48 := am c48
            clear c48
            obtain ⟨y437, hy437⟩ : ∃ y_ : List Int, y_ = (x11_3 ++ [0]) := ⟨_, rfl⟩
            replace H : (spec_LineForced.l2 k3 x6_2 x7_2 y437 (wrap64 (x12_3 + 1))) = some (r1, r2) := by first | (rw [hy437]; with_reducible exact H) | (have H2_ := (Option.bind_some _ _).symm.trans H; rw [hy437]; with_reducible exact H2_) | (have H2_ := (Option.bind_some _ _).symm.trans H; with_reducible exact H2_) | with_reducible exact H | (rw [hy437]; exact H) | exact H
            have Ny437 := am hy437
            clear hy437
            have H' := am H
            clear H
            obtain ⟨Ao49, co49, eo49⟩ := Kd.R_slice HO_6.out
            subst eo49
            have p436 : 0 ≤ (x12_3 : Int) := da
            have q436 : x12_3 < (x6_2.length : Int) := da
            obtain ⟨ad436, e436, hx436_0⟩ := Kd.at_int (Kd.R_reads' HO_6.out).2.2 x12_3 p436 q436
            cases e436
            replace p436 := eq_true p436
            replace q436 := eq_true q436
            go_wp2_with (first | ((with_reducible refine gate_builtin (b := .append) (xs := #[.tmp 89, .tmp 90]) rfl ?_); (try (refine gate_guard (by rfl) ?_; dsimp only)); at_builtin; refine Kd.R_append (Kd.int .i64) (w0 := w) w.heap.size rfl (.tmp 89) (.tmp 90) 36 3 (.int .i64 0) 8 rfl Try.underlying36 info3 rfl (by decide) (by omega) u11 x11_3 0 [.int .i64 0] (fun k_ => some k_ ≠ (.slice (some ad436) x6_2.length co49 : Value).ownBlock) (fun _ => False) rfl rfl ?aP (fun _ hk => hk.elim) ?aF ?aO ?aB ?aS ?aL ?_; (case aP => exact rfl); (case aB => exact (bm HB)); (case aF => exact (fun k_ hk => Kd.fresh' (Kd.R_lt (Kd.rv HO_6.out)) k_ hk)); (case aO => exact (Kd.rv HO_11.out)); (case aS => exact (below_size (bm HB))); (case aL => have := LMc48.out; omega); intro v438 w50 ho hb hg hat; rw [← Ny437.out] at ho; have n0_ := am (Kd.R_after (ok := (fun _ => True)) (by (with_reducible repeat (first | apply Kd.R_alloc | apply Kd.R_drewN | apply Kd.R_drew)); exact Kd.R_mono HO_6.out (fun _ hk => ⟨trivial, hk⟩)) hg hat); have n1_ := am (hb); have n2_ := am (ho); clear HO_6 HB HO_11; revert n0_ n1_ n2_; intro HO_6 HB HO439; clear ho hb hg hat))
            go_roundg k3
            case measure => have := HJ2.out; have := HK2.out; have := HK3.out; omega
            case rel => exact ⟨(y437), (wrap64 (x12_3 + 1)), rfl, H', ⟨by have := HJ2.out; have := HK2.out; have := HK3.out; omega⟩, ⟨by (with_reducible repeat (first | apply Kd.R_alloc | apply Kd.R_drewN | apply Kd.R_drew)); exact Kd.R_mono HO_6.out (fun _ hk => hk.2)⟩, ⟨Kd.rv HO439.out⟩, ⟨bm HB⟩⟩
           ·rw [if_neg c47] at H
            have c47b0 : ((rd x6_2 x12_3) == 0) = false := beq_eq_false_iff_ne.mpr c47
            have c47b1 : ((rd x6_2 x12_3) != 0) = true := bne_iff_ne.mpr c47
            by_cases c51 : (rd x6_2 x12_3) = x7_2
            ·rw [if_pos c51] at H
             have c51b0 : ((rd x6_2 x12_3) == x7_2) = true := beq_iff_eq.mpr c51
             have c51b1 : ((rd x6_2 x12_3) != x7_2) = false := bne_eq_false_iff_eq.mpr c51
             clear c51
             have q_ := ifs H
             clear H
             obtain ⟨c52, H⟩ := q_
             have LMc52 := am c52
             clear c52
             obtain ⟨y440, hy440⟩ : ∃ y_ : List Int, y_ = (x11_3 ++ [1]) := ⟨_, rfl⟩
             replace H : (spec_LineForced.l2 k3 x6_2 x7_2 y440 (wrap64 (x12_3 + 1))) = some (r1, r2) := by first | (rw [hy440]; with_reducible exact H) | (have H2_ := (Option.bind_some _ _).symm.trans H; rw [hy440]; with_reducible exact H2_) | (have H2_ := (Option.bind_some _ _).symm.trans H; with_reducible exact H2_) | with_reducible exact H | (rw [hy440]; exact H) | exact H
             have Ny440 := am hy440
             clear hy440
             have H' := am H
             clear H
             obtain ⟨Ao53, co53, eo53⟩ := Kd.R_slice HO_6.out
             subst eo53
             have p436 : 0 ≤ (x12_3 : Int) := da
             have q436 : x12_3 < (x6_2.length : Int) := da
             obtain ⟨ad436, e436, hx436_0⟩ := Kd.at_int (Kd.R_reads' HO_6.out).2.2 x12_3 p436 q436
             cases e436
             replace p436 := eq_true p436
             replace q436 := eq_true q436
             go_wp2_with (first | ((with_reducible refine gate_builtin (b := .append) (xs := #[.tmp 95, .tmp 96]) rfl ?_); (try (refine gate_guard (by rfl) ?_; dsimp only)); at_builtin; refine Kd.R_append (Kd.int .i64) (w0 := w) w.heap.size rfl (.tmp 95) (.tmp 96) 36 3 (.int .i64 0) 8 rfl Try.underlying36 info3 rfl (by decide) (by omega) u11 x11_3 1 [.int .i64 1] (fun k_ => some k_ ≠ (.slice (some ad436) x6_2.length co53 : Value).ownBlock) (fun _ => False) rfl rfl ?aP (fun _ hk => hk.elim) ?aF ?aO ?aB ?aS ?aL ?_; (case aP => exact rfl); (case aB => exact (bm HB)); (case aF => exact (fun k_ hk => Kd.fresh' (Kd.R_lt (Kd.rv HO_6.out)) k_ hk)); (case aO => exact (Kd.rv HO_11.out)); (case aS => exact (below_size (bm HB))); (case aL => have := LMc52.out; omega); intro v441 w54 ho hb hg hat; rw [← Ny440.out] at ho; have n0_ := am (Kd.R_after (ok := (fun _ => True)) (by (with_reducible repeat (first | apply Kd.R_alloc | apply Kd.R_drewN | apply Kd.R_drew)); exact Kd.R_mono HO_6.out (fun _ hk => ⟨trivial, hk⟩)) hg hat); have n1_ := am (hb); have n2_ := am (ho); clear HO_6 HB HO_11; revert n0_ n1_ n2_; intro HO_6 HB HO442; clear ho hb hg hat))
             go_roundg k3
             case measure => have := HJ2.out; have := HK2.out; have := HK3.out; omega
             case rel => exact ⟨(y440), (wrap64 (x12_3 + 1)), rfl, H', ⟨by have := HJ2.out; have := HK2.out; have := HK3.out; omega⟩, ⟨by (with_reducible repeat (first | apply Kd.R_alloc | apply Kd.R_drewN | apply Kd.R_drew)); exact Kd.R_mono HO_6.out (fun _ hk => hk.2)⟩, ⟨Kd.rv HO442.out⟩, ⟨bm HB⟩⟩
            ·rw [if_neg c51] at H
             have c51b0 : ((rd x6_2 x12_3) == x7_2) = false := beq_eq_false_iff_ne.mpr c51
             have c51b1 : ((rd x6_2 x12_3) != x7_2) = true := bne_iff_ne.mpr c51
             have q_ := ifs H
             clear H
             obtain ⟨c55, H⟩ := q_
             have LMc55 := am c55
             clear c55
             obtain ⟨y443, hy443⟩ : ∃ y_ : List Int, y_ = (x11_3 ++ [(-1)]) := ⟨_, rfl⟩
             replace H : (spec_LineForced.l2 k3 x6_2 x7_2 y443 (wrap64 (x12_3 + 1))) = some (r1, r2) := by first | (rw [hy443]; with_reducible exact H) | (have H2_ := (Option.bind_some _ _).symm.trans H; rw [hy443]; with_reducible exact H2_) | (have H2_ := (Option.bind_some _ _).symm.trans H; with_reducible exact H2_) | with_reducible exact H | (rw [hy443]; exact H) | exact H
             have Ny443 := am hy443
             clear hy443
             have H' := am H
             clear H
             obtain ⟨Ao56, co56, eo56⟩ := Kd.R_slice HO_6.out
             subst eo56
             have p436 : 0 ≤ (x12_3 : Int) := da
             have q436 : x12_3 < (x6_2.length : Int) := da
             obtain ⟨ad436, e436, hx436_0⟩ := Kd.at_int (Kd.R_reads' HO_6.out).2.2 x12_3 p436 q436
             cases e436
             replace p436 := eq_true p436
             replace q436 := eq_true q436
             go_wp2_with (first | ((with_reducible refine gate_builtin (b := .append) (xs := #[.tmp 84, .tmp 85]) rfl ?_); (try (refine gate_guard (by rfl) ?_; dsimp only)); at_builtin; refine Kd.R_append (Kd.int .i64) (w0 := w) w.heap.size rfl (.tmp 84) (.tmp 85) 36 3 (.int .i64 0) 8 rfl Try.underlying36 info3 rfl (by decide) (by omega) u11 x11_3 (-1) [.int .i64 (-1)] (fun k_ => some k_ ≠ (.slice (some ad436) x6_2.length co56 : Value).ownBlock) (fun _ => False) rfl rfl ?aP (fun _ hk => hk.elim) ?aF ?aO ?aB ?aS ?aL ?_; (case aP => exact rfl); (case aB => exact (bm HB)); (case aF => exact (fun k_ hk => Kd.fresh' (Kd.R_lt (Kd.rv HO_6.out)) k_ hk)); (case aO => exact (Kd.rv HO_11.out)); (case aS => exact (below_size (bm HB))); (case aL => have := LMc55.out; omega); intro v444 w57 ho hb hg hat; rw [← Ny443.out] at ho; have n0_ := am (Kd.R_after (ok := (fun _ => True)) (by (with_reducible repeat (first | apply Kd.R_alloc | apply Kd.R_drewN | apply Kd.R_drew)); exact Kd.R_mono HO_6.out (fun _ hk => ⟨trivial, hk⟩)) hg hat); have n1_ := am (hb); have n2_ := am (ho); clear HO_6 HB HO_11; revert n0_ n1_ n2_; intro HO_6 HB HO445; clear ho hb hg hat))
             go_roundg k3
             case measure => have := HJ2.out; have := HK2.out; have := HK3.out; omega
             case rel => exact ⟨(y443), (wrap64 (x12_3 + 1)), rfl, H', ⟨by have := HJ2.out; have := HK2.out; have := HK3.out; omega⟩, ⟨by (with_reducible repeat (first | apply Kd.R_alloc | apply Kd.R_drewN | apply Kd.R_drew)); exact Kd.R_mono HO_6.out (fun _ hk => hk.2)⟩, ⟨Kd.rv HO445.out⟩, ⟨bm HB⟩⟩
          ·rw [if_neg c45] at H
           have c45b0 : decide (x12_3 < (x6_2.length : Int)) = false := decide_eq_false c45
           clear c45
           simp only [Option.some.injEq, Prod.mk.injEq] at H
           obtain ⟨rfl, rfl⟩ := H
           obtain ⟨Ao58, co58, eo58⟩ := Kd.R_slice HO_6.out
           subst eo58
           go_wp2
           go_ret2
           exact ⟨_, by first | rfl | (simp [errW_none, errW_some] <;> rfl) | (simp only [← hji14]; first | rfl | (simp [errW_none, errW_some] <;> rfl)) | (simp [*, errW_none, errW_some] <;> rfl), by (with_reducible repeat (first | apply Kd.R_alloc | apply Kd.R_drewN | apply Kd.R_drew)); exact Kd.R_mono HO_11.out (fun _ hk => trivial), bm HB⟩
end Go.Proofs.Ytapnohcfnclleaa.PFnPictureLines
