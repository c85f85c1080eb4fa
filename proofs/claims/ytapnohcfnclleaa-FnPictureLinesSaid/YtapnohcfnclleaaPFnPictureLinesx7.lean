-- Made by a program of this session (the kit print, shortened, twice): the kit print itself does not give this text
import Derived.Test.YtapnohcfnclleaaV4
import Derived.Test.YtapnohcfnclleaaPFnPictureLinesx0
import Derived.Test.YtapnohcfnclleaaPFnPictureLinesx5
import Derived.Test.YtapnohcfnclleaaPFnPictureLinesx6
import Derived.Lib.LazyBuf
namespace Go.Proofs.Ytapnohcfnclleaa.PFnPictureLines
open Go.RowKit Go.Proofs.YtapnohcfnclleaaW.PrintWords Go.Proofs.YtapnohcfnclleaaW.PrintLast Go.Proofs.YtapnohcfnclleaaW.PrintMore
attribute [local go_sem] max2_int min2_int max_two min_two max_three min_three max_four min_four   -- for this text's walks alone
set_option linter.unusedVariables false
set_option linter.unusedSimpArgs false
/-! ### impl_linesFor: function 78 -/
mutual
def impl_linesFor.l0 : Nat → List Int → List Int → List Int → Int → Int → Option (List Int)
 | 0, _, _, _, _, _ => none
 | k + 1, x0, x1, x5, x13, x14 => if x14 < x13 then (impl_linesFor.l1 k x0 x1 x5 x14 true x13 x14 x1 (x1.length : Int) 0) else (some x5)
def impl_linesFor.l1 : Nat → List Int → List Int → List Int → Int → Bool → Int → Int → List Int → Int → Int → Option (List Int)
 | 0, _, _, _, _, _, _, _, _, _, _ => none
 | k + 1, x0, x1, x5, x6, x7, x13, x14, x17, x18, x19 => if x19 < x18 then (if 0 ≤ x19 then (if x19 < (x17.length : Int) then (if x7 = true then (if (rd x17 x19) < 0 then (impl_linesFor.l1 k x0 x1 x5 x6 true x13 x14 x17 x18 (wrap64 (x19 + 1))) else (impl_linesFor.l1 k x0 x1 x5 x6 ((rd x17 x19) == (Go.bits .and .i64 (shr .i64 x6 x19) 1)) x13 x14 x17 x18 (wrap64 (x19 + 1)))) else (impl_linesFor.l1 k x0 x1 x5 x6 false x13 x14 x17 x18 (wrap64 (x19 + 1)))) else (none)) else (none)) else (if x7 = true then ((impl_lineOf.f k x6 (x1.length : Int)).bind fun t286 => ((impl_ClueOf.f k t286).bind fun t289 => ((slices_Equal_int_int.f k t289 x0).bind fun t292 => (if t292 = true then (if x5.length < 17592186044416 then (impl_linesFor.l0 k x0 x1 (x5 ++ [x6]) x13 (wrap64 (x14 + 1))) else (none)) else (impl_linesFor.l0 k x0 x1 x5 x13 (wrap64 (x14 + 1))))))) else (impl_linesFor.l0 k x0 x1 x5 x13 (wrap64 (x14 + 1))))
end
def impl_linesFor.f (k : Nat) (l0 : List Int) (l1 : List Int) : Option (List Int) := impl_linesFor.l0 k l0 l1 (([] : List Int)) (shl .i64 1 (l1.length : Int)) 0
set_option maxHeartbeats 8000000 in
set_option maxRecDepth 100000 in
theorem impl_linesFor.calls (k : Nat) (A0 : Option Addr) (c0 : Nat) (l0 : List Int) (A1 : Option Addr) (c1 : Nat) (l1 : List Int) (r : List Int) (w : World) (hr0 : Kd.C (Kd.int .i64) w A0 l0.length l0) (hc0 : l0.length ≤ c0) (hr1 : Kd.C (Kd.int .i64) w A1 l1.length l1) (hc1 : l1.length ≤ c1) (h : impl_linesFor.f k l0 l1 = some r) :
  Calls Try.prog 78 #[.slice A0 l0.length c0, .slice A1 l1.length c1] w fun e w' => ∃ v0_ : Value, e = .returned (v0_) ∧ Kd.R (Kd.int .i64) 3 w' w.heap.size (fun _ => True) v0_ r ∧ Below w.heap.size w w' := by
 have HR0 := am hr0
 have HC0 := am hc0
 clear hr0 hc0
 have HR1 := am hr1
 have HC1 := am hc1
 clear hr1 hc1
 have HB := am (Below.refl w.heap.size w)
 have H : (impl_linesFor.l0 k l0 l1 (([] : List Int)) (shl .i64 1 (l1.length : Int)) 0) = some r := h
 clear h
 obtain ⟨y282, hy282⟩ : ∃ y_ : List Int, y_ = (([] : List Int)) := ⟨_, rfl⟩
 replace H : (impl_linesFor.l0 k l0 l1 y282 (shl .i64 1 (l1.length : Int)) 0) = some r := by first | (rw [hy282]; with_reducible exact H) | (have H2_ := (Option.bind_some _ _).symm.trans H; rw [hy282]; with_reducible exact H2_) | (have H2_ := (Option.bind_some _ _).symm.trans H; with_reducible exact H2_) | with_reducible exact H | (rw [hy282]; exact H) | exact H
 have Ny282 := am hy282
 clear hy282
 obtain ⟨ji3, hji3⟩ : ∃ j_ : Int, (shl .i64 1 (l1.length : Int)) = j_ := ⟨_, rfl⟩
 replace H : (impl_linesFor.l0 k l0 l1 y282 ji3 0) = some r := by first | (rw [hji3] at H; exact H) | (simp only [hji3] at H ⊢; exact H)
 have hji3_ : (IntKind.i64.wrap (1 * 2 ^ min (l1.length : Int).toNat 64)) = ji3 := hji3
 have hji3z : (l1.length : Int) ≤ 64 → (IntKind.i64.wrap (1 * 2 ^ (l1.length : Int).toNat)) = ji3 := shl_small hji3
 have hji3p : (IntKind.i64.wrap (1 * 2 ^ min l1.length 64)) = ji3 := hji3_
 have hji3q : (l1.length : Int) ≤ 64 → (IntKind.i64.wrap (1 * 2 ^ l1.length)) = ji3 := hji3z
 have hji3r : (IntKind.i64.wrap (2 ^ min l1.length 64)) = ji3 := by have h_ := hji3p; rw [Int.one_mul] at h_; exact h_
 have hji3s : (l1.length : Int) ≤ 64 → (IntKind.i64.wrap (2 ^ l1.length)) = ji3 := fun hle_ => by have h_ := hji3q hle_; rw [Int.one_mul] at h_; exact h_
 have hji3u : (IntKind.i64.wrap (2 ^ min (l1.length : Int).toNat 64)) = ji3 := by have h_ := hji3_; rw [Int.one_mul] at h_; exact h_
 have hji3v : (l1.length : Int) ≤ 64 → (IntKind.i64.wrap (2 ^ (l1.length : Int).toNat)) = ji3 := fun hle_ => by have h_ := hji3z hle_; rw [Int.one_mul] at h_; exact h_
 have hji3y : (wrap64 (1 * 2 ^ min (l1.length : Int).toNat 64)) = ji3 := (i64_w _).symm.trans hji3_
 have hji3x : (l1.length : Int) ≤ 64 → (wrap64 (1 * 2 ^ (l1.length : Int).toNat)) = ji3 := fun h_ => (i64_w _).symm.trans (hji3z h_)
 have H' := am H
 clear H
 go_enter Try.func78, Try.ntmps78
 go_wp2_with (first | ((with_reducible refine gate_dst (N := 10) rfl ?_); (try (refine gate_guard (by rfl) ?_; dsimp only)); refine Kd.R_lit (Kd.int .i64) _ 3 ?hg (N := 10) ?hd (xs := ([] : List Int)) (inner := []) (ok := fun _ => True) (okp := fun _ => True) ?hr ?hp (fun _ hk => hk) trivial (Below.refl _ _) (Nat.le_refl _) (by simp) ?_; (case hd => rfl); (case hg => rfl); (case hr => first | (go_simp; done) | (go_simp; rfl)); (case hp => exact (Reps.none _ _)); intro v283 w4 ho5 hb hg_ hnew_; clear hg_ hnew_; (first | rw [← Ny282.out] at ho5 | (simp only [Int.reduceToNat] at ho5; rw [← Ny282.out] at ho5)); have n0_ := am (Kd.R_lower ho5 (below_size (bm HB))); have n1_ := am (below_step (bm HB) hb); clear HB; revert n0_ n1_; intro HO284 HB; clear hb ho5))
 go_loopg [5, 14] k (fun kq v5 v14 w' => ∃ (x5_1 : List Int) (x14_1 : Int), v14 = .int .i64 x14_1 ∧ Aside0 (impl_linesFor.l0 kq l0 l1 x5_1 ji3 x14_1 = some r) ∧ Aside0 (kq ≤ k) ∧ Aside0 (Kd.R (Kd.int .i64) 3 w' w.heap.size (fun _ => True) v5 x5_1) ∧ Aside0 (Below w.heap.size w w'))
 case atStart => exact ⟨(y282), (0), rfl, H', ⟨Nat.le_refl _⟩, ⟨Kd.rv HO284.out⟩, ⟨bm HB⟩⟩
 case round =>
  clear H'
  try clear c1
  try clear p2
  obtain ⟨x5_1, x14_1, rfl, HA, HK1, HO_5, HB⟩ := hrel
  cases gk with
  | zero => exact absurd HA.out (by simp [impl_linesFor.l0])
  | succ k1 =>
   have H := HA.out
   clear HA
   simp only [impl_linesFor.l0] at H
   by_cases c6 : x14_1 < ji3
   ·rw [if_pos c6] at H
    have c6b0 : decide (x14_1 < ji3) = true := decide_eq_true c6
    clear c6
    have H' := am H
    clear H
    go_wp2
    go_loopg [7, 19] k1 (fun kq v7 v19 w' => ∃ (x7_2 : Bool) (x19_2 : Int), v7 = .bool x7_2 ∧ v19 = .int .i64 x19_2 ∧ Aside0 (impl_linesFor.l1 kq l0 l1 x5_1 x14_1 x7_2 ji3 x14_1 l1 (l1.length : Int) x19_2 = some r) ∧ Aside0 (kq ≤ k1) ∧ Aside0 (Kd.R (Kd.int .i64) 3 w' w.heap.size (fun _ => True) u5 x5_1) ∧ Aside0 (Below w.heap.size w w'))
    case atStart => exact ⟨(true), (0), rfl, rfl, H', ⟨Nat.le_refl _⟩, ⟨Kd.rv HO_5.out⟩, ⟨bm HB⟩⟩
    case round =>
     clear H'
     try clear c1
     try clear p2
     try clear c6
     try clear c6b0
     try clear p6
     try clear p2
     obtain ⟨x7_2, x19_2, rfl, rfl, HA, HK2, HO_5, HB⟩ := hrel
     cases gk with
     | zero => exact absurd HA.out (by simp [impl_linesFor.l1])
     | succ k2 =>
      have H := HA.out
      clear HA
      simp only [impl_linesFor.l1] at H
      by_cases c7 : x19_2 < (l1.length : Int)
      ·rw [if_pos c7] at H
       have c7b0 : decide (x19_2 < (l1.length : Int)) = true := decide_eq_true c7
       clear c7
       have q_ := ifs H
       clear H
       obtain ⟨c8, H⟩ := q_
       have c8b0 : decide (0 ≤ x19_2) = true := decide_eq_true c8
       clear c8
       have q_ := ifs H
       clear H
       obtain ⟨c9, H⟩ := q_
       have c9b0 : decide (x19_2 < (l1.length : Int)) = true := decide_eq_true c9
       clear c9
       by_cases c10 : x7_2 = true
       ·subst c10
        rw [if_pos rfl] at H
        by_cases c11 : (rd l1 x19_2) < 0
        ·rw [if_pos c11] at H
         have c11b0 : decide ((rd l1 x19_2) < 0) = true := decide_eq_true c11
         clear c11
         have H' := am H
         clear H
         have p285 : 0 ≤ (x19_2 : Int) := da
         have q285 : x19_2 < (l1.length : Int) := da
         obtain ⟨ad285, e285, hx285_0⟩ := Kd.at_int HR1.out x19_2 p285 q285
         cases e285
         replace hx285_0 := (HB.out.cell (World.block_lt_of_cell? w _ hx285_0)).trans hx285_0
         replace p285 := eq_true p285
         replace q285 := eq_true q285
         go_wp2
         go_roundg k2
         case measure => have := HK1.out; have := HK2.out; omega
         case rel => exact ⟨(true), (wrap64 (x19_2 + 1)), rfl, rfl, H', ⟨by have := HK1.out; have := HK2.out; omega⟩, ⟨Kd.rv HO_5.out⟩, ⟨bm HB⟩⟩
        ·rw [if_neg c11] at H
         have c11b0 : decide ((rd l1 x19_2) < 0) = false := decide_eq_false c11
         clear c11
         have c12b0 := eq_true (da : 0 ≤ x19_2)
         obtain ⟨ji13, hji13⟩ : ∃ j_ : Int, (shr .i64 x14_1 x19_2) = j_ := ⟨_, rfl⟩
         replace H : (impl_linesFor.l1 k2 l0 l1 x5_1 x14_1 ((rd l1 x19_2) == (Go.bits .and .i64 (ji13) 1)) ji3 x14_1 l1 (l1.length : Int) (wrap64 (x19_2 + 1))) = some r := by first | (rw [hji13] at H; exact H) | (simp only [hji13] at H ⊢; exact H)
         have hji13_ : (x14_1 / 2 ^ min x19_2.toNat 64) = ji13 := hji13
         have hji13z : x19_2 ≤ 64 → (x14_1 / 2 ^ x19_2.toNat) = ji13 := shr_small hji13
         have H' := am H
         clear H
         have p285 : 0 ≤ (x19_2 : Int) := da
         have q285 : x19_2 < (l1.length : Int) := da
         obtain ⟨ad285, e285, hx285_0⟩ := Kd.at_int HR1.out x19_2 p285 q285
         cases e285
         replace hx285_0 := (HB.out.cell (World.block_lt_of_cell? w _ hx285_0)).trans hx285_0
         replace p285 := eq_true p285
         replace q285 := eq_true q285
         go_wp2
         go_roundg k2
         case measure => have := HK1.out; have := HK2.out; omega
         case rel => exact ⟨(((rd l1 x19_2) == (Go.bits .and .i64 (ji13) 1))), (wrap64 (x19_2 + 1)), (by first | rfl | (simp; done) | (simp only [← hji13] <;> (first | rfl | simp)) | (simp [*]; done)), rfl, H', ⟨by have := HK1.out; have := HK2.out; omega⟩, ⟨Kd.rv HO_5.out⟩, ⟨bm HB⟩⟩
       ·replace c10 := Bool.eq_false_iff.mpr c10
        subst c10
        rw [if_neg (show ¬ (false = true) by decide)] at H
        have H' := am H
        clear H
        have p285 : 0 ≤ (x19_2 : Int) := da
        have q285 : x19_2 < (l1.length : Int) := da
        obtain ⟨ad285, e285, hx285_0⟩ := Kd.at_int HR1.out x19_2 p285 q285
        cases e285
        replace hx285_0 := (HB.out.cell (World.block_lt_of_cell? w _ hx285_0)).trans hx285_0
        replace p285 := eq_true p285
        replace q285 := eq_true q285
        go_wp2
        go_roundg k2
        case measure => have := HK1.out; have := HK2.out; omega
        case rel => exact ⟨(false), (wrap64 (x19_2 + 1)), rfl, rfl, H', ⟨by have := HK1.out; have := HK2.out; omega⟩, ⟨Kd.rv HO_5.out⟩, ⟨bm HB⟩⟩
      ·rw [if_neg c7] at H
       have c7b0 : decide (x19_2 < (l1.length : Int)) = false := decide_eq_false c7
       clear c7
       by_cases c14 : x7_2 = true
       ·subst c14
        rw [if_pos rfl] at H
        replace H := Option.bind_eq_some_iff.mp H
        obtain ⟨t286, A150, H⟩ := H
        replace H : ((impl_ClueOf.f k2 t286).bind fun t289 => ((slices_Equal_int_int.f k2 t289 l0).bind fun t292 => (if t292 = true then (if x5_1.length < 17592186044416 then (impl_linesFor.l0 k2 l0 l1 (x5_1 ++ [x14_1]) ji3 (wrap64 (x14_1 + 1))) else (none)) else (impl_linesFor.l0 k2 l0 l1 x5_1 ji3 (wrap64 (x14_1 + 1)))))) = some r := H
        have A15 := am A150
        clear A150
        replace H := Option.bind_eq_some_iff.mp H
        obtain ⟨t289, A160, H⟩ := H
        replace H : ((slices_Equal_int_int.f k2 t289 l0).bind fun t292 => (if t292 = true then (if x5_1.length < 17592186044416 then (impl_linesFor.l0 k2 l0 l1 (x5_1 ++ [x14_1]) ji3 (wrap64 (x14_1 + 1))) else (none)) else (impl_linesFor.l0 k2 l0 l1 x5_1 ji3 (wrap64 (x14_1 + 1))))) = some r := H
        have A16 := am A160
        clear A160
        replace H := Option.bind_eq_some_iff.mp H
        obtain ⟨t292, A170, H⟩ := H
        replace H : (if t292 = true then (if x5_1.length < 17592186044416 then (impl_linesFor.l0 k2 l0 l1 (x5_1 ++ [x14_1]) ji3 (wrap64 (x14_1 + 1))) else (none)) else (impl_linesFor.l0 k2 l0 l1 x5_1 ji3 (wrap64 (x14_1 + 1)))) = some r := H
        have A17 := am A170
        clear A170
        by_cases c18 : t292 = true
        ·subst c18
         rw [if_pos rfl] at H
         have q_ := ifs H
         clear H
         obtain ⟨c19, H⟩ := q_
         have LMc19 := am c19
         clear c19
         obtain ⟨y293, hy293⟩ : ∃ y_ : List Int, y_ = (x5_1 ++ [x14_1]) := ⟨_, rfl⟩
         replace H : (impl_linesFor.l0 k2 l0 l1 y293 ji3 (wrap64 (x14_1 + 1))) = some r := by first | (rw [hy293]; with_reducible exact H) | (have H2_ := (Option.bind_some _ _).symm.trans H; rw [hy293]; with_reducible exact H2_) | (have H2_ := (Option.bind_some _ _).symm.trans H; with_reducible exact H2_) | with_reducible exact H | (rw [hy293]; exact H) | exact H
         have Ny293 := am hy293
         clear hy293
         have H' := am H
         clear H
         go_wp2_with (first | (go_at_call 56; (with_reducible refine (impl_lineOf.calls k2 x14_1 (l1.length : Int) t286 _ A15.out).mono ?_); rintro e w20 ⟨v287, rfl, ho0, hb⟩; have n0_ := am (Kd.R_below (Kd.rv HO_5.out) hb); have n1_ := am (Kd.R_lower ho0 (below_size (bm HB))); have n2_ := am (below_step (bm HB) hb); clear HO_5 HB; revert n0_ n1_ n2_; intro HO_5 HO288 HB; (try clear hb); (try clear hb2); (try clear hk); (try clear hi); (try clear ho0); obtain ⟨Ao21, co21, eo21⟩ := Kd.R_slice HO288.out; subst eo21) | (go_at_call 65; (with_reducible refine (impl_ClueOf.calls k2 _ _ t286 t289 _ ?side1 ?side2 A16.out).mono ?_); (case side1 => exact Kd.cv (Kd.R_reads' HO288.out).2.2); (case side2 => exact (Kd.R_reads' HO288.out).2.1); rintro e w22 ⟨v290, rfl, ho0, hb⟩; have n0_ := am (Kd.R_elder' (Kd.rv HO_5.out) (Kd.R_base ho0) hb); have n1_ := am (Kd.R_below (Kd.rv HO288.out) hb); have n2_ := am (Kd.R_lower (Kd.R_new' ho0 (Kd.R_lt (Kd.rv HO_5.out))) (below_size (bm HB))); have n3_ := am (below_step (bm HB) hb); clear HO_5 HO288 HB; revert n0_ n1_ n2_ n3_; intro HO_5 HO288 HO291 HB; (try clear hb); (try clear hb2); (try clear hk); (try clear hi); (try clear ho0); obtain ⟨Ao23, co23, eo23⟩ := Kd.R_slice HO291.out; subst eo23) | (go_at_call 48; (with_reducible refine (slices_Equal_int_int.calls k2 _ _ t289 _ _ l0 true _ ?side1 ?side2 ?side3 ?side4 A17.out).mono ?_); (case side1 => exact Kd.cv (Kd.R_reads' HO291.out).2.2); (case side2 => exact (Kd.R_reads' HO291.out).2.1); (case side3 => repeat (first | exact (Kd.C_below HR0.out HB.out) | (with_reducible refine Kd.C_alloc ?_ _) | (with_reducible refine Kd.C_drewN ?_ _) | (with_reducible refine Kd.C_drew ?_))); (case side4 => exact HC0.out); rintro e w' ⟨rfl, ⟨nd, rfl⟩⟩) | ((with_reducible refine gate_builtin (b := .append) (xs := #[.tmp 48, .tmp 50]) rfl ?_); (try (refine gate_guard (by rfl) ?_; dsimp only)); at_builtin; refine Kd.R_append (Kd.int .i64) (w0 := w) w.heap.size rfl (.tmp 48) (.tmp 50) 36 3 (.int .i64 0) 8 rfl Try.underlying36 info3 rfl (by decide) (by omega) u5 x5_1 x14_1 [.int .i64 x14_1] (fun k_ => some k_ ≠ (.slice Ao23 t289.length co23 : Value).ownBlock) (fun _ => False) rfl rfl ?aP (fun _ hk => hk.elim) ?aF ?aO ?aB ?aS ?aL ?_; (case aP => exact rfl); (case aB => exact (bm HB)); (case aF => exact (fun k_ hk => Kd.fresh' (Kd.R_lt (Kd.rv HO291.out)) k_ hk)); (case aO => exact (by (with_reducible repeat (first | apply Kd.R_alloc | apply Kd.R_drewN | apply Kd.R_drew)); exact Kd.R_mono HO_5.out (fun _ hk => hk.2))); (case aS => exact (below_size (bm HB))); (case aL => have := LMc19.out; omega); intro v294 w24 ho hb hg hat; rw [← Ny293.out] at ho; have n0_ := am (Kd.R_over' (Kd.rv HO288.out) (Kd.R_typed (Kd.rv HO_5.out)) (by decide) hg); have n1_ := am (Kd.R_after (ok := (fun _ => True)) (Kd.rv HO291.out) hg hat); have n2_ := am (hb); have n3_ := am (ho); clear HO288 HO291 HB HO_5; revert n0_ n1_ n2_ n3_; intro HO288 HO291 HB HO295; clear ho hb hg hat))
         go_roundg k2
         case measure => have := HK1.out; have := HK2.out; omega
         case rel => exact ⟨(y293), (wrap64 (x14_1 + 1)), rfl, H', ⟨by have := HK1.out; have := HK2.out; omega⟩, ⟨by (with_reducible repeat (first | apply Kd.R_alloc | apply Kd.R_drewN | apply Kd.R_drew)); exact Kd.R_mono HO295.out (fun _ hk => trivial)⟩, ⟨bm HB⟩⟩
        ·replace c18 := Bool.eq_false_iff.mpr c18
         subst c18
         rw [if_neg (show ¬ (false = true) by decide)] at H
         have H' := am H
         clear H
         go_wp2_with (first | (go_at_call 56; (with_reducible refine (impl_lineOf.calls k2 x14_1 (l1.length : Int) t286 _ A15.out).mono ?_); rintro e w25 ⟨v287, rfl, ho0, hb⟩; have n0_ := am (Kd.R_below (Kd.rv HO_5.out) hb); have n1_ := am (Kd.R_lower ho0 (below_size (bm HB))); have n2_ := am (below_step (bm HB) hb); clear HO_5 HB; revert n0_ n1_ n2_; intro HO_5 HO288 HB; (try clear hb); (try clear hb2); (try clear hk); (try clear hi); (try clear ho0); obtain ⟨Ao26, co26, eo26⟩ := Kd.R_slice HO288.out; subst eo26) | (go_at_call 65; (with_reducible refine (impl_ClueOf.calls k2 _ _ t286 t289 _ ?side1 ?side2 A16.out).mono ?_); (case side1 => exact Kd.cv (Kd.R_reads' HO288.out).2.2); (case side2 => exact (Kd.R_reads' HO288.out).2.1); rintro e w27 ⟨v290, rfl, ho0, hb⟩; have n0_ := am (Kd.R_elder' (Kd.rv HO_5.out) (Kd.R_base ho0) hb); have n1_ := am (Kd.R_below (Kd.rv HO288.out) hb); have n2_ := am (Kd.R_lower (Kd.R_new' ho0 (Kd.R_lt (Kd.rv HO_5.out))) (below_size (bm HB))); have n3_ := am (below_step (bm HB) hb); clear HO_5 HO288 HB; revert n0_ n1_ n2_ n3_; intro HO_5 HO288 HO291 HB; (try clear hb); (try clear hb2); (try clear hk); (try clear hi); (try clear ho0); obtain ⟨Ao28, co28, eo28⟩ := Kd.R_slice HO291.out; subst eo28) | (go_at_call 48; (with_reducible refine (slices_Equal_int_int.calls k2 _ _ t289 _ _ l0 false _ ?side1 ?side2 ?side3 ?side4 A17.out).mono ?_); (case side1 => exact Kd.cv (Kd.R_reads' HO291.out).2.2); (case side2 => exact (Kd.R_reads' HO291.out).2.1); (case side3 => repeat (first | exact (Kd.C_below HR0.out HB.out) | (with_reducible refine Kd.C_alloc ?_ _) | (with_reducible refine Kd.C_drewN ?_ _) | (with_reducible refine Kd.C_drew ?_))); (case side4 => exact HC0.out); rintro e w' ⟨rfl, ⟨nd, rfl⟩⟩))
         go_roundg k2
         case measure => have := HK1.out; have := HK2.out; omega
         case rel => exact ⟨(x5_1), (wrap64 (x14_1 + 1)), rfl, H', ⟨by have := HK1.out; have := HK2.out; omega⟩, ⟨by (with_reducible repeat (first | apply Kd.R_alloc | apply Kd.R_drewN | apply Kd.R_drew)); exact Kd.R_mono HO_5.out (fun _ hk => trivial)⟩, ⟨bm HB⟩⟩
       ·replace c14 := Bool.eq_false_iff.mpr c14
        subst c14
        rw [if_neg (show ¬ (false = true) by decide)] at H
        have H' := am H
        clear H
        go_wp2
        go_roundg k2
        case measure => have := HK1.out; have := HK2.out; omega
        case rel => exact ⟨(x5_1), (wrap64 (x14_1 + 1)), rfl, H', ⟨by have := HK1.out; have := HK2.out; omega⟩, ⟨Kd.rv HO_5.out⟩, ⟨bm HB⟩⟩
   ·rw [if_neg c6] at H
    have c6b0 : decide (x14_1 < ji3) = false := decide_eq_false c6
    clear c6
    obtain rfl := Option.some.inj H
    go_wp2
    go_ret
    exact ⟨_, by first | rfl | (simp [errW_none, errW_some] <;> rfl) | (simp only [← hji3]; first | rfl | (simp [errW_none, errW_some] <;> rfl)) | (simp [*, errW_none, errW_some] <;> rfl), by (with_reducible repeat (first | apply Kd.R_alloc | apply Kd.R_drewN | apply Kd.R_drew)); exact HO_5.out, bm HB⟩
--@import Derived.Lib.LazyBuf
/-! ### slices_Clone_int_int: function 79 -/
def slices_Clone_int_int.f (l0 : List Int) : Option (List Int) := (some (([] : List Int) : List Int)).bind fun y296 => (if y296.length + l0.length < 17592186044416 then (some (y296 ++ l0)) else (none))
set_option maxHeartbeats 8000000 in
set_option maxRecDepth 100000 in
theorem slices_Clone_int_int.calls (A0 : Option Addr) (c0 : Nat) (l0 : List Int) (r : List Int) (w : World) (hr0 : Kd.C (Kd.int .i64) w A0 l0.length l0) (hc0 : l0.length ≤ c0) (h : slices_Clone_int_int.f l0 = some r) :
  Calls Try.prog 79 #[.slice A0 l0.length c0] w fun e w' => ∃ v0_ : Value, e = .returned (v0_) ∧ Kd.R (Kd.int .i64) 3 w' w.heap.size (fun _ => True) v0_ r ∧ Below w.heap.size w w' := by
 cases A0 with
 | none =>
  have hl : l0 = [] := by
   rcases Nat.eq_zero_or_pos l0.length with h0 | h0
   ·exact List.eq_nil_of_length_eq_zero h0
   ·obtain ⟨ad, e, _⟩ := hr0.2.2 h0
    cases e
  subst hl
  have HB := am (Below.refl w.heap.size w)
  have hr : r = [] := by
   have H : some ([] : List Int) = some r := h
   exact (Option.some.inj H).symm
  subst hr
  clear h hr0 hc0
  have hnil := fun (w_ : World) (a_ : Option Addr) (l_ c_ : Nat) => Go.run_eql_slice_nil (P := Try.prog) w_ 36 3 a_ l_ c_ Try.underlying36
  go_enter Try.func79, Try.ntmps79
  go_wp2
  go_ret
  exact ⟨_, by first | rfl | (simp; done), Kd.R_nil _ _ _ _ _, bm HB⟩
 | some ad0 =>
  have HR0 := am hr0
  have HC0 := am hc0
  clear hr0 hc0
  have HB := am (Below.refl w.heap.size w)
  have H : ((some (([] : List Int) : List Int)).bind fun y296 => (if y296.length + l0.length < 17592186044416 then (some (y296 ++ l0)) else (none))) = some r := h
  clear h
  obtain ⟨y296, hy296⟩ : ∃ y_ : List Int, y_ = (([] : List Int)) := ⟨_, rfl⟩
  replace H : (if y296.length + l0.length < 17592186044416 then (some (y296 ++ l0)) else (none)) = some r := by first | (rw [hy296]; with_reducible exact H) | (have H2_ := (Option.bind_some _ _).symm.trans H; rw [hy296]; with_reducible exact H2_) | (have H2_ := (Option.bind_some _ _).symm.trans H; with_reducible exact H2_) | with_reducible exact H | (rw [hy296]; exact H) | exact H
  have Ny296 := am hy296
  clear hy296
  have q_ := ifs H
  clear H
  obtain ⟨c2, H⟩ := q_
  have LMc2 := am c2
  clear c2
  obtain ⟨y299, hy299⟩ : ∃ y_ : List Int, y_ = (y296 ++ l0) := ⟨_, rfl⟩
  replace H : (some y299) = some r := by first | (rw [hy299]; with_reducible exact H) | (have H2_ := (Option.bind_some _ _).symm.trans H; rw [hy299]; with_reducible exact H2_) | (have H2_ := (Option.bind_some _ _).symm.trans H; with_reducible exact H2_) | with_reducible exact H | (rw [hy299]; exact H) | exact H
  have Ny299 := am hy299
  clear hy299
  obtain rfl := Option.some.inj H
  have hnil := fun (w_ : World) (a_ : Option Addr) (l_ c_ : Nat) => Go.run_eql_slice_nil (P := Try.prog) w_ 36 3 a_ l_ c_ Try.underlying36
  go_enter Try.func79, Try.ntmps79
  go_wp2_with (first | ((with_reducible refine gate_dst (N := 5) rfl ?_); refine Kd.R_lit (Kd.int .i64) _ 3 ?hg (N := 5) ?hd (xs := ([] : List Int)) (inner := []) (ok := fun _ => True) (okp := fun _ => True) ?hr ?hp (fun _ hk => hk) trivial (Below.refl _ _) (Nat.le_refl _) (by simp) ?_; (case hd => rfl); (case hg => rfl); (case hr => first | (go_simp; done) | (go_simp; rfl)); (case hp => exact (Reps.none _ _)); intro v297 w3 ho4 hb hg_ hnew_; clear hg_ hnew_; (first | rw [← Ny296.out] at ho4 | (simp only [Int.reduceToNat] at ho4; rw [← Ny296.out] at ho4)); have n0_ := am (Kd.R_lower ho4 (below_size (bm HB))); have n1_ := am (below_step (bm HB) hb); clear HB; revert n0_ n1_; intro HO298 HB; clear hb ho4) | ((with_reducible refine gate_builtin (b := .append) (xs := #[.tmp 5, .tmp 6]) rfl ?_); at_builtin; refine Kd.R_append_rows (Kd.int .i64) (w0 := w) w.heap.size rfl (.tmp 5) (.tmp 6) 36 3 (.int .i64 0) 8 rfl Try.underlying36 info3 rfl (by decide) (by omega) v297 y296 l0 _ _ _ (fun _ => True) (fun _ => False) rfl rfl ?aO ?aR (fun _ _ h => h) (fun _ h => h.elim) ?aF ?aB ?aS ?aL ?_; (case aR => repeat (first | exact (Kd.C_below HR0.out HB.out) | (with_reducible refine Kd.C_alloc ?_ _) | (with_reducible refine Kd.C_drewN ?_ _) | (with_reducible refine Kd.C_drew ?_))); (case aB => exact (bm HB)); (case aF => exact (fun _ _ => trivial)); (case aO => exact (Kd.rv HO298.out)); (case aS => exact (below_size (bm HB))); (case aL => have := LMc2.out; omega); intro v300 w5 ho hb hg hat; rw [← Ny299.out] at ho; have n0_ := am (hb); have n1_ := am (ho); clear HB HO298; revert n0_ n1_; intro HB HO301; clear ho hb hg hat))
  go_ret
  exact ⟨_, rfl, by (with_reducible repeat (first | apply Kd.R_alloc | apply Kd.R_drewN | apply Kd.R_drew)); exact HO301.out, bm HB⟩
/-! ### impl_LineForced: function 47 -/
mutual
def impl_LineForced.j0 : Nat → List Int → List Int → Bool → Option (List Int × Bool)
 | 0, _, _, _ => none
 | k + 1, x0, x1, x22 => if x22 = true then (some (([] : List Int), false)) else ((impl_linesFor.f k x0 x1).bind fun t304 => (if (t304.length : Int) = 0 then ((slices_Clone_int_int.f x1).bind fun t307 => (some (t307, false))) else (impl_LineForced.l0 k x1 (-1) 0 t304 (t304.length : Int) 0)))
def impl_LineForced.l0 : Nat → List Int → Int → Int → List Int → Int → Int → Option (List Int × Bool)
 | 0, _, _, _, _, _, _ => none
 | k + 1, x1, x7, x8, x31, x32, x33 => if x33 < x32 then (if 0 ≤ x33 then (if x33 < (x31.length : Int) then (impl_LineForced.l0 k x1 (Go.bits .and .i64 x7 (rd x31 x33)) (Go.bits .or .i64 x8 (rd x31 x33)) x31 x32 (wrap64 (x33 + 1))) else (none)) else (none)) else (if 0 ≤ (x1.length : Int) then (if ((x1.length : Int) : Int).toNat ≤ 35184372088832 then ((some (List.replicate ((x1.length : Int) : Int).toNat 0 : List Int)).bind fun y311 => (impl_LineForced.l1 k x7 x8 y311 (y311.length : Int) 0)) else (none)) else (none))
def impl_LineForced.l1 : Nat → Int → Int → List Int → Int → Int → Option (List Int × Bool)
 | 0, _, _, _, _, _ => none
 | k + 1, x7, x8, x11, x48, x49 => if x49 < x48 then (if 0 ≤ x49 then (if (Go.bits .and .i64 (shr .i64 x7 x49) 1) = 1 then (if x49 < (x11.length : Int) then (impl_LineForced.l1 k x7 x8 (x11.set (x49 : Int).toNat 1) x48 (wrap64 (x49 + 1))) else (none)) else (if (Go.bits .and .i64 (shr .i64 x8 x49) 1) = 1 then (if x49 < (x11.length : Int) then (impl_LineForced.l1 k x7 x8 (x11.set (x49 : Int).toNat (-1)) x48 (wrap64 (x49 + 1))) else (none)) else (impl_LineForced.l1 k x7 x8 x11 x48 (wrap64 (x49 + 1))))) else (none)) else (some (x11, true))
end
def impl_LineForced.f (k : Nat) (l0 : List Int) (l1 : List Int) : Option (List Int × Bool) := (impl_KnownValid.f k l1).bind fun t302 => (if t302 = true then ((impl_ClueValid.f k l0 (l1.length : Int)).bind fun t303 => (impl_LineForced.j0 k l0 l1 (!t303))) else (impl_LineForced.j0 k l0 l1 true))
set_option maxHeartbeats 8000000 in
set_option maxRecDepth 100000 in
theorem impl_LineForced.calls (k : Nat) (A0 : Option Addr) (c0 : Nat) (l0 : List Int) (A1 : Option Addr) (c1 : Nat) (l1 : List Int) (r1 : List Int) (r2 : Bool) (w : World) (hr0 : Kd.C (Kd.int .i64) w A0 l0.length l0) (hc0 : l0.length ≤ c0) (hr1 : Kd.C (Kd.int .i64) w A1 l1.length l1) (hc1 : l1.length ≤ c1) (h : impl_LineForced.f k l0 l1 = some (r1, r2)) :
  Calls Try.prog 47 #[.slice A0 l0.length c0, .slice A1 l1.length c1] w fun e w' => ∃ v0_ : Value, e = .returned (.tuple #[v0_, .bool r2]) ∧ Kd.R (Kd.int .i64) 3 w' w.heap.size (fun _ => True) v0_ r1 ∧ Below w.heap.size w w' := by
 have HR0 := am hr0
 have HC0 := am hc0
 clear hr0 hc0
 have HR1 := am hr1
 have HC1 := am hc1
 clear hr1 hc1
 have HB := am (Below.refl w.heap.size w)
 have H : ((impl_KnownValid.f k l1).bind fun t302 => (if t302 = true then ((impl_ClueValid.f k l0 (l1.length : Int)).bind fun t303 => (impl_LineForced.j0 k l0 l1 (!t303))) else (impl_LineForced.j0 k l0 l1 true))) = some (r1, r2) := h
 clear h
 have HC3 := am H
 clear H
 go_enter Try.func47, Try.ntmps47
 go_upto_region 1 with (fail)
 go_cut [22] (fun v22 wc => ∃ (kq : Nat) (x22_2 : Bool), v22 = .bool x22_2 ∧ Aside0 (impl_LineForced.j0 kq l0 l1 x22_2 = some (r1, r2)) ∧ Aside0 (kq ≤ k) ∧ Aside0 (Below w.heap.size w wc))
 case first =>
  have H := HC3.out
  clear HC3
  replace H := Option.bind_eq_some_iff.mp H
  obtain ⟨t302, A40, H⟩ := H
  replace H : (if t302 = true then ((impl_ClueValid.f k l0 (l1.length : Int)).bind fun t303 => (impl_LineForced.j0 k l0 l1 (!t303))) else (impl_LineForced.j0 k l0 l1 true)) = some (r1, r2) := H
  have A4 := am A40
  clear A40
  by_cases c5 : t302 = true
  ·subst c5
   rw [if_pos rfl] at H
   replace H := Option.bind_eq_some_iff.mp H
   obtain ⟨t303, A60, H⟩ := H
   replace H : (impl_LineForced.j0 k l0 l1 (!t303)) = some (r1, r2) := H
   have A6 := am A60
   clear A60
   have H' := am H
   clear H
   go_wp2_with (first | ((with_reducible refine gate_callee (f := 77) rfl ?_); refine goesL_ (some 14) rfl rfl Try.func77 (by kernel_rfl) rfl #[.slice A1 l1.length c1] rfl (by (try simp only [List.map_toArray, List.map_cons, List.map_nil]); first | done | rfl | (simp only [List.length_drop, List.length_take]; rfl)) ?_; (with_reducible refine (impl_KnownValid.calls k _ _ l1 true _ ?side1 ?side2 A4.out).mono ?_); (case side1 => repeat (first | exact (Kd.C_below HR1.out HB.out) | (with_reducible refine Kd.C_alloc ?_ _) | (with_reducible refine Kd.C_drewN ?_ _) | (with_reducible refine Kd.C_drew ?_))); (case side2 => exact HC1.out); rintro e w' ⟨rfl, ⟨nd, rfl⟩⟩; refine ⟨_, rfl, ?_⟩) | (go_at_call 59; (with_reducible refine (impl_ClueValid.calls k _ _ l0 (l1.length : Int) t303 _ ?side1 ?side2 A6.out).mono ?_); (case side1 => repeat (first | exact (Kd.C_below HR0.out (bm HB)) | (with_reducible refine Kd.C_alloc ?_ _) | (with_reducible refine Kd.C_drewN ?_ _) | (with_reducible refine Kd.C_drew ?_))); (case side2 => exact HC0.out); rintro e w' ⟨rfl, ⟨nd, rfl⟩⟩))
   go_meet
   case rel => exact ⟨_, (!t303), rfl, H', ⟨by first | omega | exact Nat.le_refl _⟩, ⟨bm HB⟩⟩
  ·replace c5 := Bool.eq_false_iff.mpr c5
   subst c5
   rw [if_neg (show ¬ (false = true) by decide)] at H
   have H' := am H
   clear H
   go_wp2_with (first | ((with_reducible refine gate_callee (f := 77) rfl ?_); refine goesL_ (some 14) rfl rfl Try.func77 (by kernel_rfl) rfl #[.slice A1 l1.length c1] rfl (by (try simp only [List.map_toArray, List.map_cons, List.map_nil]); first | done | rfl | (simp only [List.length_drop, List.length_take]; rfl)) ?_; (with_reducible refine (impl_KnownValid.calls k _ _ l1 false _ ?side1 ?side2 A4.out).mono ?_); (case side1 => repeat (first | exact (Kd.C_below HR1.out HB.out) | (with_reducible refine Kd.C_alloc ?_ _) | (with_reducible refine Kd.C_drewN ?_ _) | (with_reducible refine Kd.C_drew ?_))); (case side2 => exact HC1.out); rintro e w' ⟨rfl, ⟨nd, rfl⟩⟩; refine ⟨_, rfl, ?_⟩))
   go_meet
   case rel => exact ⟨_, (true), rfl, H', ⟨by first | omega | exact Nat.le_refl _⟩, ⟨bm HB⟩⟩
 case rest =>
  clear HC3
  try clear c1
  try clear p2
  try clear c4
  try clear c5
  obtain ⟨kq, x22_2, rfl, HA, HJ2, HB⟩ := hcut
  cases kq with
  | zero => exact absurd HA.out (by simp [impl_LineForced.j0])
  | succ kj2 =>
   have H := HA.out
   clear HA
   simp only [impl_LineForced.j0] at H
   by_cases c7 : x22_2 = true
   ·subst c7
    rw [if_pos rfl] at H
    simp only [Option.some.injEq, Prod.mk.injEq] at H
    obtain ⟨rfl, rfl⟩ := H
    go_wp2
    go_ret2
    exact ⟨_, rfl, by first | exact Kd.R_nil _ _ _ _ _ | exact Kd.N_nil _ _ _ _ _ | exact Kd.V_nil _ _ _ _ _ | exact Kd.Q_nil _ _ _ _ _ | exact Kd.S_nil _ _ _ _ _, bm HB⟩
   ·replace c7 := Bool.eq_false_iff.mpr c7
    subst c7
    rw [if_neg (show ¬ (false = true) by decide)] at H
    replace H := Option.bind_eq_some_iff.mp H
    obtain ⟨t304, A80, H⟩ := H
    replace H : (if (t304.length : Int) = 0 then ((slices_Clone_int_int.f l1).bind fun t307 => (some (t307, false))) else (impl_LineForced.l0 kj2 l1 (-1) 0 t304 (t304.length : Int) 0)) = some (r1, r2) := H
    have A8 := am A80
    clear A80
    by_cases c9 : (t304.length : Int) = 0
    ·rw [if_pos c9] at H
     have c9b0 : ((t304.length : Int) == 0) = true := beq_iff_eq.mpr c9
     have c9b1 : ((t304.length : Int) != 0) = false := bne_eq_false_iff_eq.mpr c9
     clear c9
     replace H := Option.bind_eq_some_iff.mp H
     obtain ⟨t307, A100, H⟩ := H
     replace H : (some (t307, false)) = some (r1, r2) := H
     have A10 := am A100
     clear A100
     simp only [Option.some.injEq, Prod.mk.injEq] at H
     obtain ⟨rfl, rfl⟩ := H
     go_wp2_with (first | ((with_reducible refine gate_callee (f := 78) rfl ?_); refine goesL_ (some 25) rfl rfl Try.func78 (by kernel_rfl) rfl #[.slice A0 l0.length c0, .slice A1 l1.length c1] rfl (by (try simp only [List.map_toArray, List.map_cons, List.map_nil]); first | done | rfl | (simp only [List.length_drop, List.length_take]; rfl)) ?_; (with_reducible refine (impl_linesFor.calls kj2 _ _ l0 _ _ l1 t304 _ ?side1 ?side2 ?side3 ?side4 A8.out).mono ?_); (case side1 => repeat (first | exact (Kd.C_below HR0.out HB.out) | (with_reducible refine Kd.C_alloc ?_ _) | (with_reducible refine Kd.C_drewN ?_ _) | (with_reducible refine Kd.C_drew ?_))); (case side2 => exact HC0.out); (case side3 => repeat (first | exact (Kd.C_below HR1.out HB.out) | (with_reducible refine Kd.C_alloc ?_ _) | (with_reducible refine Kd.C_drewN ?_ _) | (with_reducible refine Kd.C_drew ?_))); (case side4 => exact HC1.out); rintro e w11 ⟨v305, rfl, ho0, hb⟩; refine ⟨_, rfl, ?_⟩; have n0_ := am (Kd.R_lower ho0 (below_size (bm HB))); have n1_ := am (below_step (bm HB) hb); clear HB; revert n0_ n1_; intro HO306 HB; (try clear hb); (try clear hb2); (try clear hk); (try clear hi); (try clear ho0); obtain ⟨Ao12, co12, eo12⟩ := Kd.R_slice HO306.out; subst eo12) | ((with_reducible refine gate_callee (f := 79) rfl ?_); refine goesL_ (some 30) rfl rfl Try.func79 (by kernel_rfl) rfl #[.slice A1 l1.length c1] rfl (by (try simp only [List.map_toArray, List.map_cons, List.map_nil]); first | done | rfl | (simp only [List.length_drop, List.length_take]; rfl)) ?_; (with_reducible refine (slices_Clone_int_int.calls _ _ l1 t307 _ ?side1 ?side2 A10.out).mono ?_); (case side1 => repeat (first | exact (Kd.C_below HR1.out HB.out) | (with_reducible refine Kd.C_alloc ?_ _) | (with_reducible refine Kd.C_drewN ?_ _) | (with_reducible refine Kd.C_drew ?_))); (case side2 => exact HC1.out); rintro e w13 ⟨v308, rfl, ho0, hb⟩; refine ⟨_, rfl, ?_⟩; have n0_ := am (Kd.R_elder' (Kd.rv HO306.out) (Kd.R_base ho0) hb); have n1_ := am (Kd.R_lower (Kd.R_new' ho0 (Kd.R_lt (Kd.rv HO306.out))) (below_size (bm HB))); have n2_ := am (below_step (bm HB) hb); clear HO306 HB; revert n0_ n1_ n2_; intro HO306 HO309 HB; (try clear hb); (try clear hb2); (try clear hk); (try clear hi); (try clear ho0)))
     go_ret2
     exact ⟨_, rfl, by (with_reducible repeat (first | apply Kd.R_alloc | apply Kd.R_drewN | apply Kd.R_drew)); exact Kd.R_mono HO309.out (fun _ hk => trivial), bm HB⟩
    ·rw [if_neg c9] at H
     have c9b0 : ((t304.length : Int) == 0) = false := beq_eq_false_iff_ne.mpr c9
     have c9b1 : ((t304.length : Int) != 0) = true := bne_iff_ne.mpr c9
     have c9b2 : ¬ (t304 = []) := fun h_ => c9 (by rw [h_]; rfl)
     have H' := am H
     clear H
     go_wp2_with (first | ((with_reducible refine gate_callee (f := 78) rfl ?_); refine goesL_ (some 25) rfl rfl Try.func78 (by kernel_rfl) rfl #[.slice A0 l0.length c0, .slice A1 l1.length c1] rfl (by (try simp only [List.map_toArray, List.map_cons, List.map_nil]); first | done | rfl | (simp only [List.length_drop, List.length_take]; rfl)) ?_; (with_reducible refine (impl_linesFor.calls kj2 _ _ l0 _ _ l1 t304 _ ?side1 ?side2 ?side3 ?side4 A8.out).mono ?_); (case side1 => repeat (first | exact (Kd.C_below HR0.out HB.out) | (with_reducible refine Kd.C_alloc ?_ _) | (with_reducible refine Kd.C_drewN ?_ _) | (with_reducible refine Kd.C_drew ?_))); (case side2 => exact HC0.out); (case side3 => repeat (first | exact (Kd.C_below HR1.out HB.out) | (with_reducible refine Kd.C_alloc ?_ _) | (with_reducible refine Kd.C_drewN ?_ _) | (with_reducible refine Kd.C_drew ?_))); (case side4 => exact HC1.out); rintro e w14 ⟨v305, rfl, ho0, hb⟩; refine ⟨_, rfl, ?_⟩; have n0_ := am (Kd.R_lower ho0 (below_size (bm HB))); have n1_ := am (below_step (bm HB) hb); clear HB; revert n0_ n1_; intro HO306 HB; (try clear hb); (try clear hb2); (try clear hk); (try clear hi); (try clear ho0); obtain ⟨Ao15, co15, eo15⟩ := Kd.R_slice HO306.out; subst eo15))
     go_loopg [7, 8, 33] kj2 (fun kq v7 v8 v33 w' => ∃ (x7_2 : Int) (x8_2 : Int) (x33_2 : Int), v7 = .int .i64 x7_2 ∧ v8 = .int .i64 x8_2 ∧ v33 = .int .i64 x33_2 ∧ Aside0 (impl_LineForced.l0 kq l1 x7_2 x8_2 t304 (t304.length : Int) x33_2 = some (r1, r2)) ∧ Aside0 (kq ≤ kj2) ∧ Aside0 (Kd.R (Kd.int .i64) 3 w' w.heap.size (fun _ => True) (.slice Ao15 t304.length co15) t304) ∧ Aside0 (Below w.heap.size w w'))
     case atStart => exact ⟨((-1)), (0), (0), rfl, rfl, rfl, H', ⟨Nat.le_refl _⟩, ⟨Kd.rv HO306.out⟩, ⟨bm HB⟩⟩
     case round =>
      clear H'
      try clear c1
      try clear p2
      try clear c4
      try clear c5
      try clear c7
      try clear c9
      try clear c9b0
      try clear c9b1
      try clear c9b2
      try clear p2
      obtain ⟨x7_2, x8_2, x33_2, rfl, rfl, rfl, HA, HK2, HO_31, HB⟩ := hrel
      cases gk with
      | zero => exact absurd HA.out (by simp [impl_LineForced.l0])
      | succ k2 =>
       have H := HA.out
       clear HA
       simp only [impl_LineForced.l0] at H
       by_cases c16 : x33_2 < (t304.length : Int)
       ·rw [if_pos c16] at H
        have c16b0 : decide (x33_2 < (t304.length : Int)) = true := decide_eq_true c16
        clear c16
        have q_ := ifs H
        clear H
        obtain ⟨c17, H⟩ := q_
        have c17b0 : decide (0 ≤ x33_2) = true := decide_eq_true c17
        clear c17
        have q_ := ifs H
        clear H
        obtain ⟨c18, H⟩ := q_
        have c18b0 : decide (x33_2 < (t304.length : Int)) = true := decide_eq_true c18
        clear c18
        have H' := am H
        clear H
        have p310 : 0 ≤ (x33_2 : Int) := da
        have q310 : x33_2 < (t304.length : Int) := da
        obtain ⟨ad310, e310, hx310_0⟩ := Kd.at_int (Kd.R_reads' HO_31.out).2.2 x33_2 p310 q310
        cases e310
        replace p310 := eq_true p310
        replace q310 := eq_true q310
        go_wp2
        go_roundg k2
        case measure => have := HJ2.out; have := HK2.out; omega
        case rel => exact ⟨(Go.bits .and .i64 x7_2 (rd t304 x33_2)), (Go.bits .or .i64 x8_2 (rd t304 x33_2)), (wrap64 (x33_2 + 1)), rfl, rfl, rfl, H', ⟨by have := HJ2.out; have := HK2.out; omega⟩, ⟨Kd.rv HO_31.out⟩, ⟨bm HB⟩⟩
       ·rw [if_neg c16] at H
        have c16b0 : decide (x33_2 < (t304.length : Int)) = false := decide_eq_false c16
        clear c16
        have q_ := ifs H
        clear H
        obtain ⟨c19, H⟩ := q_
        have c19b0 := eq_true c19
        have c19b1 : decide (0 ≤ (l1.length : Int)) = true := decide_eq_true c19
        clear c19
        have q_ := ifs H
        clear H
        obtain ⟨c20, H⟩ := q_
        have c20b0 := eq_true c20
        have c20b1 : decide (((l1.length : Int) : Int).toNat ≤ 35184372088832) = true := decide_eq_true c20
        clear c20
        obtain ⟨y311, hy311⟩ : ∃ y_ : List Int, y_ = (List.replicate ((l1.length : Int) : Int).toNat 0) := ⟨_, rfl⟩
        replace H : (impl_LineForced.l1 k2 x7_2 x8_2 y311 (y311.length : Int) 0) = some (r1, r2) := by first | (rw [hy311]; with_reducible exact H) | (have H2_ := (Option.bind_some _ _).symm.trans H; rw [hy311]; with_reducible exact H2_) | (have H2_ := (Option.bind_some _ _).symm.trans H; with_reducible exact H2_) | with_reducible exact H | (rw [hy311]; exact H) | exact H
        have Ny311 := am hy311
        clear hy311
        have H' := am H
        clear H
        go_wp2_with (first | ((with_reducible refine gate_dst (N := 46) rfl ?_); (try (refine gate_guard (by rfl) ?_; dsimp only)); refine Kd.R_make (Kd.int .i64) _ 3 rfl (N := 46) rfl 36 _ _ rfl (l1.length : Int) rfl rfl Try.underlying36 (.int .i64 0) 8 info3 rfl (by decide) (by omega) 0 (ok := fun _ => True) (okp := fun _ => True) rfl (fun _ hk => hk) trivial (da) (Nat.le_trans (Nat.mul_le_mul_right _ (da : (l1.length : Int).toNat ≤ 35184372088832)) (by omega)) (Below.refl _ _) (Nat.le_refl _) ?_; intro v312 w21 ho22 hb hg_ hnew_; clear hg_ hnew_; (first | rw [← Ny311.out] at ho22 | (simp only [Int.reduceToNat] at ho22; rw [← Ny311.out] at ho22)); have n0_ := am (Kd.R_elder' (Kd.rv HO_31.out) (Kd.R_base ho22) hb); have n1_ := am (Kd.R_lower (Kd.R_new' ho22 (Kd.R_lt (Kd.rv HO_31.out))) (below_size (bm HB))); have n2_ := am (below_step (bm HB) hb); clear HO_31 HB; revert n0_ n1_ n2_; intro HO_31 HO313 HB; clear hb ho22; obtain ⟨Ao23, co23, eo23⟩ := Kd.R_slice HO313.out; subst eo23))
        go_loopg [49] k2 (fun kq v49 w' => ∃ (x11_3 : List Int) (x49_3 : Int), v49 = .int .i64 x49_3 ∧ Aside0 (impl_LineForced.l1 kq x7_2 x8_2 x11_3 (y311.length : Int) x49_3 = some (r1, r2)) ∧ Aside0 (kq ≤ k2) ∧ Aside0 (Kd.R (Kd.int .i64) 3 w' w.heap.size (fun _ => True) (.slice Ao23 y311.length co23) x11_3) ∧ Aside0 (Below w.heap.size w w'))
        case atStart => exact ⟨(y311), (0), rfl, H', ⟨Nat.le_refl _⟩, ⟨by (with_reducible repeat (first | apply Kd.R_alloc | apply Kd.R_drewN | apply Kd.R_drew)); exact Kd.R_mono HO313.out (fun _ hk => trivial)⟩, ⟨bm HB⟩⟩
        case round =>
         clear H'
         try clear c1
         try clear c2
         try clear p2
         try clear p3
         try clear q3
         try clear hx3
         try clear c4
         try clear c5
         try clear p6
         try clear c7
         try clear c9
         try clear c9b0
         try clear c9b1
         try clear c9b2
         try clear c16
         try clear c16b0
         try clear c17
         try clear c17b0
         try clear c18
         try clear c18b0
         try clear c19
         try clear c19b0
         try clear c19b1
         try clear c20
         try clear c20b0
         try clear c20b1
         try clear hx310_0
         try clear p2
         try clear p310
         try clear q310
         obtain ⟨x11_3, x49_3, rfl, HA, HK3, HO_11, HB⟩ := hrel
         have hl11_3 := (Kd.R_reads' HO_11.out).1
         rw [hl11_3] at HO_11
         (try simp only [hl11_3])
         cases gk with
         | zero => exact absurd HA.out (by simp [impl_LineForced.l1])
         | succ k3 =>
          have H := HA.out
          clear HA
          simp only [impl_LineForced.l1] at H
          by_cases c24 : x49_3 < (y311.length : Int)
          ·rw [if_pos c24] at H
           have c24b0 : decide (x49_3 < (y311.length : Int)) = true := decide_eq_true c24
           (try (have c24b0_x11_3 : decide (x49_3 < (x11_3.length : Int)) = true := by rw [← hl11_3]; exact c24b0))
           clear c24
           have q_ := ifs H
           clear H
           obtain ⟨c25, H⟩ := q_
           have c25b0 := eq_true c25
           have c25b1 : decide (0 ≤ x49_3) = true := decide_eq_true c25
           clear c25
           obtain ⟨ji26, hji26⟩ : ∃ j_ : Int, (shr .i64 x7_2 x49_3) = j_ := ⟨_, rfl⟩
           replace H : (if (Go.bits .and .i64 (ji26) 1) = 1 then (if x49_3 < (x11_3.length : Int) then (impl_LineForced.l1 k3 x7_2 x8_2 (x11_3.set (x49_3 : Int).toNat 1) (y311.length : Int) (wrap64 (x49_3 + 1))) else (none)) else (if (Go.bits .and .i64 (shr .i64 x8_2 x49_3) 1) = 1 then (if x49_3 < (x11_3.length : Int) then (impl_LineForced.l1 k3 x7_2 x8_2 (x11_3.set (x49_3 : Int).toNat (-1)) (y311.length : Int) (wrap64 (x49_3 + 1))) else (none)) else (impl_LineForced.l1 k3 x7_2 x8_2 x11_3 (y311.length : Int) (wrap64 (x49_3 + 1))))) = some (r1, r2) := by first | (rw [hji26] at H; exact H) | (simp only [hji26] at H ⊢; exact H)
           have hji26_ : (x7_2 / 2 ^ min x49_3.toNat 64) = ji26 := hji26
           have hji26z : x49_3 ≤ 64 → (x7_2 / 2 ^ x49_3.toNat) = ji26 := shr_small hji26
           by_cases c27 : (Go.bits .and .i64 (ji26) 1) = 1
           ·rw [if_pos c27] at H
            have c27b0 : ((Go.bits .and .i64 (ji26) 1) == 1) = true := beq_iff_eq.mpr c27
            have c27b1 : ((Go.bits .and .i64 (ji26) 1) != 1) = false := bne_eq_false_iff_eq.mpr c27
            clear c27
            have q_ := ifs H
            clear H
            obtain ⟨c28, H⟩ := q_
            have c28b0 : decide (x49_3 < (x11_3.length : Int)) = true := decide_eq_true c28
            clear c28
            obtain ⟨y314, hy314⟩ : ∃ y_ : List Int, y_ = (x11_3.set (x49_3 : Int).toNat 1) := ⟨_, rfl⟩
            replace H : (impl_LineForced.l1 k3 x7_2 x8_2 y314 (y311.length : Int) (wrap64 (x49_3 + 1))) = some (r1, r2) := by first | (rw [hy314]; with_reducible exact H) | (have H2_ := (Option.bind_some _ _).symm.trans H; rw [hy314]; with_reducible exact H2_) | (have H2_ := (Option.bind_some _ _).symm.trans H; with_reducible exact H2_) | with_reducible exact H | (rw [hy314]; exact H) | exact H
            have Ny314 := am hy314
            clear hy314
            have H' := am H
            clear H
            have p29 : 0 ≤ (x49_3 : Int) := da
            have q29 : (x49_3 : Int) < ((x11_3.length : Int) : Int) := da
            obtain ⟨go29, co29, eo29, gb29, gl29, cl29, HG29⟩ := Kd.R_form HO_11.out (by omega)
            (first | cases eo29 | (injection eo29 with ea_ en_ ec_; (first | subst ea_ | (injection ea_ with ea_; subst ea_)); subst ec_; clear en_))
            have GB29 := am gb29
            have GG29 := am HG29
            clear gb29 gl29 HG29
            obtain ⟨hx29_0, hf29_0⟩ := Kd.R_celln 0 HO_11.out (x49_3 : Int) p29 q29
            replace p29 := eq_true p29
            replace q29 := eq_true q29
            have HP30 := Kd.R_putg HO_11.out (x49_3 : Int) 1
            go_wp2_with (first | ((with_reducible refine gate_store (t := 3) (p := 60) rfl ?_); refine store_event (t := 3) (p := 60) (v := ?vo_w31) (w1 := (wr.setCell ⟨go29, (x49_3 : Int).toNat, none⟩ (.int .i64 1))) ?hg ?ho ?hn ?hr ?_; (case ho => rfl); (case hg => rfl); (case hn => rfl); (case hr => first | (go_simp; done) | (go_simp; rfl)); intro w31 hw; have hg : wr.grownBy w31 (some go29) := (by rw [hw]; exact HP30.2); have hp_ : Kd.R (Kd.int .i64) 3 w31 w.heap.size (fun _ => True) (.slice (some ⟨go29, 0, none⟩) x11_3.length co23) y314 := (by rw [hw, Ny314.out]; exact HP30.1); clear HP30; have n0_ := am (hp_); have n1_ := am ((by rw [hw]; exact below_set (HB.out) GB29.out : Below w.heap.size w w31)); clear HO_11 HB; revert n0_ n1_; intro HO_11 HB; clear hg hw hp_))
            (try simp only [← hl11_3])
            go_roundg k3
            case measure => have := HJ2.out; have := HK2.out; have := HK3.out; omega
            case rel => exact ⟨(y314), (wrap64 (x49_3 + 1)), rfl, H', ⟨by have := HJ2.out; have := HK2.out; have := HK3.out; omega⟩, ⟨by (try simp only [hl11_3]); (with_reducible repeat (first | apply Kd.R_alloc | apply Kd.R_drewN | apply Kd.R_drew)); exact HO_11.out⟩, ⟨bm HB⟩⟩
           ·rw [if_neg c27] at H
            have c27b0 : ((Go.bits .and .i64 (ji26) 1) == 1) = false := beq_eq_false_iff_ne.mpr c27
            have c27b1 : ((Go.bits .and .i64 (ji26) 1) != 1) = true := bne_iff_ne.mpr c27
            have c32b0 := eq_true (da : 0 ≤ x49_3)
            obtain ⟨ji33, hji33⟩ : ∃ j_ : Int, (shr .i64 x8_2 x49_3) = j_ := ⟨_, rfl⟩
            replace H : (if (Go.bits .and .i64 (ji33) 1) = 1 then (if x49_3 < (x11_3.length : Int) then (impl_LineForced.l1 k3 x7_2 x8_2 (x11_3.set (x49_3 : Int).toNat (-1)) (y311.length : Int) (wrap64 (x49_3 + 1))) else (none)) else (impl_LineForced.l1 k3 x7_2 x8_2 x11_3 (y311.length : Int) (wrap64 (x49_3 + 1)))) = some (r1, r2) := by first | (rw [hji33] at H; exact H) | (simp only [hji33] at H ⊢; exact H)
            have hji33_ : (x8_2 / 2 ^ min x49_3.toNat 64) = ji33 := hji33
            have hji33z : x49_3 ≤ 64 → (x8_2 / 2 ^ x49_3.toNat) = ji33 := shr_small hji33
            by_cases c34 : (Go.bits .and .i64 (ji33) 1) = 1
            ·rw [if_pos c34] at H
             have c34b0 : ((Go.bits .and .i64 (ji33) 1) == 1) = true := beq_iff_eq.mpr c34
             have c34b1 : ((Go.bits .and .i64 (ji33) 1) != 1) = false := bne_eq_false_iff_eq.mpr c34
             clear c34
             have q_ := ifs H
             clear H
             obtain ⟨c35, H⟩ := q_
             have c35b0 : decide (x49_3 < (x11_3.length : Int)) = true := decide_eq_true c35
             clear c35
             obtain ⟨y315, hy315⟩ : ∃ y_ : List Int, y_ = (x11_3.set (x49_3 : Int).toNat (-1)) := ⟨_, rfl⟩
             replace H : (impl_LineForced.l1 k3 x7_2 x8_2 y315 (y311.length : Int) (wrap64 (x49_3 + 1))) = some (r1, r2) := by first | (rw [hy315]; with_reducible exact H) | (have H2_ := (Option.bind_some _ _).symm.trans H; rw [hy315]; with_reducible exact H2_) | (have H2_ := (Option.bind_some _ _).symm.trans H; with_reducible exact H2_) | with_reducible exact H | (rw [hy315]; exact H) | exact H
             have Ny315 := am hy315
             clear hy315
             have H' := am H
             clear H
             have p36 : 0 ≤ (x49_3 : Int) := da
             have q36 : (x49_3 : Int) < ((x11_3.length : Int) : Int) := da
             obtain ⟨go36, co36, eo36, gb36, gl36, cl36, HG36⟩ := Kd.R_form HO_11.out (by omega)
             (first | cases eo36 | (injection eo36 with ea_ en_ ec_; (first | subst ea_ | (injection ea_ with ea_; subst ea_)); subst ec_; clear en_))
             have GB36 := am gb36
             have GG36 := am HG36
             clear gb36 gl36 HG36
             obtain ⟨hx36_0, hf36_0⟩ := Kd.R_celln 0 HO_11.out (x49_3 : Int) p36 q36
             replace p36 := eq_true p36
             replace q36 := eq_true q36
             have HP37 := Kd.R_putg HO_11.out (x49_3 : Int) (-1)
             go_wp2_with (first | ((with_reducible refine gate_store (t := 3) (p := 69) rfl ?_); refine store_event (t := 3) (p := 69) (v := ?vo_w38) (w1 := (wr.setCell ⟨go36, (x49_3 : Int).toNat, none⟩ (.int .i64 (-1)))) ?hg ?ho ?hn ?hr ?_; (case ho => rfl); (case hg => rfl); (case hn => rfl); (case hr => first | (go_simp; done) | (go_simp; rfl)); intro w38 hw; have hg : wr.grownBy w38 (some go36) := (by rw [hw]; exact HP37.2); have hp_ : Kd.R (Kd.int .i64) 3 w38 w.heap.size (fun _ => True) (.slice (some ⟨go36, 0, none⟩) x11_3.length co23) y315 := (by rw [hw, Ny315.out]; exact HP37.1); clear HP37; have n0_ := am (hp_); have n1_ := am ((by rw [hw]; exact below_set (HB.out) GB36.out : Below w.heap.size w w38)); clear HO_11 HB; revert n0_ n1_; intro HO_11 HB; clear hg hw hp_))
             (try simp only [← hl11_3])
             go_roundg k3
             case measure => have := HJ2.out; have := HK2.out; have := HK3.out; omega
             case rel => exact ⟨(y315), (wrap64 (x49_3 + 1)), rfl, H', ⟨by have := HJ2.out; have := HK2.out; have := HK3.out; omega⟩, ⟨by (try simp only [hl11_3]); (with_reducible repeat (first | apply Kd.R_alloc | apply Kd.R_drewN | apply Kd.R_drew)); exact HO_11.out⟩, ⟨bm HB⟩⟩
            ·rw [if_neg c34] at H
             have c34b0 : ((Go.bits .and .i64 (ji33) 1) == 1) = false := beq_eq_false_iff_ne.mpr c34
             have c34b1 : ((Go.bits .and .i64 (ji33) 1) != 1) = true := bne_iff_ne.mpr c34
             have H' := am H
             clear H
             go_wp2
             (try simp only [← hl11_3])
             go_roundg k3
             case measure => have := HJ2.out; have := HK2.out; have := HK3.out; omega
             case rel => exact ⟨(x11_3), (wrap64 (x49_3 + 1)), rfl, H', ⟨by have := HJ2.out; have := HK2.out; have := HK3.out; omega⟩, ⟨by (try simp only [hl11_3]); (with_reducible repeat (first | apply Kd.R_alloc | apply Kd.R_drewN | apply Kd.R_drew)); exact HO_11.out⟩, ⟨bm HB⟩⟩
          ·rw [if_neg c24] at H
           have c24b0 : decide (x49_3 < (y311.length : Int)) = false := decide_eq_false c24
           (try (have c24b0_x11_3 : decide (x49_3 < (x11_3.length : Int)) = false := by rw [← hl11_3]; exact c24b0))
           clear c24
           simp only [Option.some.injEq, Prod.mk.injEq] at H
           obtain ⟨rfl, rfl⟩ := H
           go_wp2
           go_ret2
           exact ⟨_, rfl, by (with_reducible repeat (first | apply Kd.R_alloc | apply Kd.R_drewN | apply Kd.R_drew)); exact HO_11.out, bm HB⟩
end Go.Proofs.Ytapnohcfnclleaa.PFnPictureLines
