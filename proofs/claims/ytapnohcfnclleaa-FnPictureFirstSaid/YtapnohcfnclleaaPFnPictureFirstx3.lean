-- Made by a program of this session (the kit print, shortened): the kit print itself does not give this text
import Derived.Test.YtapnohcfnclleaaV4
import Derived.Test.YtapnohcfnclleaaPFnPictureFirstx0
import Derived.Test.YtapnohcfnclleaaPFnPictureFirstx1
import Derived.Test.YtapnohcfnclleaaPFnPictureFirstx2
import Derived.Lib.LazyBuf
namespace Go.Proofs.Ytapnohcfnclleaa.PFnPictureFirst
open Go.RowKit Go.Proofs.YtapnohcfnclleaaW.PrintWords Go.Proofs.YtapnohcfnclleaaW.PrintLast Go.Proofs.YtapnohcfnclleaaW.PrintMore
attribute [local go_sem] max2_int min2_int max_two min_two max_three min_three max_four min_four   -- for this text's walks alone
set_option linter.unusedVariables false
set_option linter.unusedSimpArgs false

/-! ### impl_ClueOf: function 65 -/
def impl_ClueOf.l0 : Nat → List Bool → List Int → List Bool → Int → Int → Option (List Int)
 | 0, _, _, _, _, _ => none
 | k + 1, x0, x3, x10, x11, x12 => if x12 < x11 then (if 0 ≤ x12 then (if x12 < (x10.length : Int) then (if rdOf false x10 x12 = true then (if x12 > 0 then (if 0 ≤ (wrap64 (x12 - 1)) then (if (wrap64 (x12 - 1)) < (x0.length : Int) then (if rdOf false x0 (wrap64 (x12 - 1)) = true then (if 0 ≤ (wrap64 ((x3.length : Int) - 1)) then (if (wrap64 ((x3.length : Int) - 1)) < (x3.length : Int) then (impl_ClueOf.l0 k x0 (x3.set ((wrap64 ((x3.length : Int) - 1)) : Int).toNat (wrap64 ((rd x3 (wrap64 ((x3.length : Int) - 1))) + 1))) x10 x11 (wrap64 (x12 + 1))) else (none)) else (none)) else (if x3.length < 17592186044416 then (impl_ClueOf.l0 k x0 (x3 ++ [1]) x10 x11 (wrap64 (x12 + 1))) else (none))) else (none)) else (none)) else (if x3.length < 17592186044416 then (impl_ClueOf.l0 k x0 (x3 ++ [1]) x10 x11 (wrap64 (x12 + 1))) else (none))) else (impl_ClueOf.l0 k x0 x3 x10 x11 (wrap64 (x12 + 1)))) else (none)) else (none)) else (some x3)
def impl_ClueOf.f (k : Nat) (l0 : List Bool) : Option (List Int) := if (l0.length : Int) > 8 then (some ([] : List Int)) else (impl_ClueOf.l0 k l0 (([] : List Int)) l0 (l0.length : Int) 0)
theorem impl_ClueOf.mono_l : ∀ k, (∀ y0 y1 y2 y3 y4, LeO (impl_ClueOf.l0 k y0 y1 y2 y3 y4) (impl_ClueOf.l0 (k + 1) y0 y1 y2 y3 y4))
 | 0 => fun _ _ _ _ _ r h => by simp [impl_ClueOf.l0] at h
 | k + 1 => by
  have ih0 := impl_ClueOf.mono_l k
  ·intro y0 y1 y2 y3 y4
   unfold impl_ClueOf.l0
   repeat' first
   | (with_reducible exact ih0 _ _ _ _ _)
   | (with_reducible exact LeO.refl _)
   | (with_reducible exact LeO.none _)
   | (with_reducible refine LeO.ite ?_ ?_)
   | (with_reducible refine LeO.bind ?_ (fun _ => ?_))
   | exact LeO.none _
   | refine LeO.ite ?_ ?_
   | refine LeO.bind ?_ (fun _ => ?_)
theorem impl_ClueOf.mono : ∀ a0 k, LeO (impl_ClueOf.f k a0) (impl_ClueOf.f (k + 1) a0) := by
 intro a0 k
 have ih0 := impl_ClueOf.mono_l k
 unfold impl_ClueOf.f
 repeat' first
   | (with_reducible exact ih0 _ _ _ _ _)
   | (with_reducible exact LeO.refl _)
   | (with_reducible exact LeO.none _)
   | (with_reducible refine LeO.ite ?_ ?_)
   | (with_reducible refine LeO.bind ?_ (fun _ => ?_))
   | exact LeO.none _
   | refine LeO.ite ?_ ?_
   | refine LeO.bind ?_ (fun _ => ?_)
set_option maxHeartbeats 8000000 in
set_option maxRecDepth 100000 in
theorem impl_ClueOf.calls (k : Nat) (A0 : Option Addr) (c0 : Nat) (l0 : List Bool) (r : List Int) (w : World) (hr0 : Kd.C Kd.bool w A0 l0.length l0) (hc0 : l0.length ≤ c0) (h : impl_ClueOf.f k l0 = some r) :
  Calls Try.prog 65 #[.slice A0 l0.length c0] w fun e w' => ∃ v0_ : Value, e = .returned (v0_) ∧ Kd.R (Kd.int .i64) 3 w' w.heap.size (fun _ => True) v0_ r ∧ Below w.heap.size w w' := by
 have HR0 := Aside0.mk hr0
 have HC0 := Aside0.mk hc0
 clear hr0 hc0
 have HB := Aside0.mk (Below.refl w.heap.size w)
 have H : (if (l0.length : Int) > 8 then (some ([] : List Int)) else (impl_ClueOf.l0 k l0 (([] : List Int)) l0 (l0.length : Int) 0)) = some r := h
 clear h
 by_cases c2 : (l0.length : Int) > 8
 ·rw [if_pos c2] at H
  have c2b0 : decide (8 < (l0.length : Int)) = true := decide_eq_true c2
  have c2b1 : decide (8 < l0.length) = true := decide_eq_true (by omega)
  clear c2
  obtain rfl := Option.some.inj H
  go_enter Try.func65, Try.ntmps65
  go_wp2
  go_ret
  exact ⟨_, by first | rfl | (simp [errW_none, errW_some] <;> rfl) | (simp [*, errW_none, errW_some] <;> rfl), by first | exact Kd.R_nil _ _ _ _ _ | exact Kd.N_nil _ _ _ _ _ | exact Kd.V_nil _ _ _ _ _ | exact Kd.Q_nil _ _ _ _ _ | exact Kd.S_nil _ _ _ _ _, bm HB⟩
 ·rw [if_neg c2] at H
  have c2b0 : decide (8 < (l0.length : Int)) = false := decide_eq_false c2
  have c2b1 : decide (8 < l0.length) = false := decide_eq_false (by omega)
  clear c2
  obtain ⟨y121, hy121⟩ : ∃ y_ : List Int, y_ = (([] : List Int)) := ⟨_, rfl⟩
  replace H : (impl_ClueOf.l0 k l0 y121 l0 (l0.length : Int) 0) = some r := by first | (rw [hy121]; with_reducible exact H) | (have H2_ := (Option.bind_some _ _).symm.trans H; rw [hy121]; with_reducible exact H2_) | (have H2_ := (Option.bind_some _ _).symm.trans H; with_reducible exact H2_) | with_reducible exact H | (rw [hy121]; exact H) | exact H
  have Ny121 := Aside0.mk hy121
  clear hy121
  have H' := Aside0.mk H
  clear H
  go_enter Try.func65, Try.ntmps65
  go_wp2_with (first | ((with_reducible refine gate_dst (N := 9) rfl ?_); refine Kd.R_lit (Kd.int .i64) _ 3 ?hg (N := 9) ?hd (xs := ([] : List Int)) (inner := []) (ok := fun _ => True) (okp := fun _ => True) ?hr ?hp (fun _ hk => hk) trivial (Below.refl _ _) (Nat.le_refl _) (by simp) ?_; (case hd => rfl); (case hg => rfl); (case hr => first | (go_simp; done) | (go_simp; rfl)); (case hp => exact (Reps.none _ _)); intro v122 w3 ho4 hb hg_ hnew_; clear hg_ hnew_; (first | rw [← Ny121.out] at ho4 | (simp only [Int.reduceToNat] at ho4; rw [← Ny121.out] at ho4)); have n0_ := Aside0.mk (Kd.R_lower ho4 (below_size (bm HB))); have n1_ := Aside0.mk (below_step (bm HB) hb); clear HB; have HO123 := n0_; have HB := n1_; clear n0_ n1_; clear hb ho4))
  go_loopg [3, 12] k (fun kq v3 v12 w' => ∃ (x3_1 : List Int) (x12_1 : Int), v12 = .int .i64 x12_1 ∧ Aside0 (impl_ClueOf.l0 kq l0 x3_1 l0 (l0.length : Int) x12_1 = some r) ∧ Aside0 (kq ≤ k) ∧ Aside0 (Kd.R (Kd.int .i64) 3 w' w.heap.size (fun _ => True) v3 x3_1) ∧ Aside0 (Below w.heap.size w w'))
  case atStart => exact ⟨(y121), (0), (by first | rfl | (simp; done) | (simp [*]; done)), H', ⟨Nat.le_refl _⟩, ⟨Kd.rv HO123.out⟩, ⟨bm HB⟩⟩
  case round =>
   clear H'
   try clear c2
   try clear c2b0
   try clear c2b1
   try clear p2
   obtain ⟨x3_1, x12_1, rfl, HA, HK1, HO_3, HB⟩ := hrel
   cases gk with
   | zero => exact absurd HA.out (by simp [impl_ClueOf.l0])
   | succ k1 =>
    have H := HA.out
    clear HA
    simp only [impl_ClueOf.l0] at H
    by_cases c5 : x12_1 < (l0.length : Int)
    ·rw [if_pos c5] at H
     have c5b0 : decide (x12_1 < (l0.length : Int)) = true := decide_eq_true c5
     clear c5
     have q_ := ifs H
     clear H
     obtain ⟨c6, H⟩ := q_
     have c6b0 : decide (0 ≤ x12_1) = true := decide_eq_true c6
     clear c6
     have q_ := ifs H
     clear H
     obtain ⟨c7, H⟩ := q_
     have c7b0 : decide (x12_1 < (l0.length : Int)) = true := decide_eq_true c7
     clear c7
     obtain ⟨bq8, hbq8⟩ : ∃ b_ : Bool, b_ = (rdOf false l0 x12_1) := ⟨_, rfl⟩
     replace H : (if bq8 = true then (if x12_1 > 0 then (if 0 ≤ (wrap64 (x12_1 - 1)) then (if (wrap64 (x12_1 - 1)) < (l0.length : Int) then (if rdOf false l0 (wrap64 (x12_1 - 1)) = true then (if 0 ≤ (wrap64 ((x3_1.length : Int) - 1)) then (if (wrap64 ((x3_1.length : Int) - 1)) < (x3_1.length : Int) then (impl_ClueOf.l0 k1 l0 (x3_1.set ((wrap64 ((x3_1.length : Int) - 1)) : Int).toNat (wrap64 ((rd x3_1 (wrap64 ((x3_1.length : Int) - 1))) + 1))) l0 (l0.length : Int) (wrap64 (x12_1 + 1))) else (none)) else (none)) else (if x3_1.length < 17592186044416 then (impl_ClueOf.l0 k1 l0 (x3_1 ++ [1]) l0 (l0.length : Int) (wrap64 (x12_1 + 1))) else (none))) else (none)) else (none)) else (if x3_1.length < 17592186044416 then (impl_ClueOf.l0 k1 l0 (x3_1 ++ [1]) l0 (l0.length : Int) (wrap64 (x12_1 + 1))) else (none))) else (impl_ClueOf.l0 k1 l0 x3_1 l0 (l0.length : Int) (wrap64 (x12_1 + 1)))) = some r := by rw [← hbq8] at H; exact H
     have Nbq8 := Aside0.mk hbq8
     clear hbq8
     by_cases c9 : bq8 = true
     ·subst c9
      have H1 : (if x12_1 > 0 then (if 0 ≤ (wrap64 (x12_1 - 1)) then (if (wrap64 (x12_1 - 1)) < (l0.length : Int) then (if rdOf false l0 (wrap64 (x12_1 - 1)) = true then (if 0 ≤ (wrap64 ((x3_1.length : Int) - 1)) then (if (wrap64 ((x3_1.length : Int) - 1)) < (x3_1.length : Int) then (impl_ClueOf.l0 k1 l0 (x3_1.set ((wrap64 ((x3_1.length : Int) - 1)) : Int).toNat (wrap64 ((rd x3_1 (wrap64 ((x3_1.length : Int) - 1))) + 1))) l0 (l0.length : Int) (wrap64 (x12_1 + 1))) else (none)) else (none)) else (if x3_1.length < 17592186044416 then (impl_ClueOf.l0 k1 l0 (x3_1 ++ [1]) l0 (l0.length : Int) (wrap64 (x12_1 + 1))) else (none))) else (none)) else (none)) else (if x3_1.length < 17592186044416 then (impl_ClueOf.l0 k1 l0 (x3_1 ++ [1]) l0 (l0.length : Int) (wrap64 (x12_1 + 1))) else (none))) = some r := by rw [if_pos rfl] at H; exact H
      clear H
      have H := H1
      clear H1
      by_cases c10 : x12_1 > 0
      ·rw [if_pos c10] at H
       have c10b0 : decide (0 < x12_1) = true := decide_eq_true c10
       clear c10
       obtain ⟨ji11, hji11⟩ : ∃ j_ : Int, (wrap64 (x12_1 - 1)) = j_ := ⟨_, rfl⟩
       replace H : (if 0 ≤ (ji11) then (if (ji11) < (l0.length : Int) then (if rdOf false l0 (ji11) = true then (if 0 ≤ (wrap64 ((x3_1.length : Int) - 1)) then (if (wrap64 ((x3_1.length : Int) - 1)) < (x3_1.length : Int) then (impl_ClueOf.l0 k1 l0 (x3_1.set ((wrap64 ((x3_1.length : Int) - 1)) : Int).toNat (wrap64 ((rd x3_1 (wrap64 ((x3_1.length : Int) - 1))) + 1))) l0 (l0.length : Int) (wrap64 (x12_1 + 1))) else (none)) else (none)) else (if x3_1.length < 17592186044416 then (impl_ClueOf.l0 k1 l0 (x3_1 ++ [1]) l0 (l0.length : Int) (wrap64 (x12_1 + 1))) else (none))) else (none)) else (none)) = some r := by first | (rw [hji11] at H; exact H) | (simp only [hji11] at H ⊢; exact H)
       have hji11w : (IntKind.i64.wrap (x12_1 - 1)) = ji11 := (i64_w _).trans hji11
       have q_ := ifs H
       clear H
       obtain ⟨c12, H⟩ := q_
       have c12b0 : decide (0 ≤ (ji11)) = true := decide_eq_true c12
       clear c12
       have q_ := ifs H
       clear H
       obtain ⟨c13, H⟩ := q_
       have c13b0 : decide ((ji11) < (l0.length : Int)) = true := decide_eq_true c13
       clear c13
       obtain ⟨bq14, hbq14⟩ : ∃ b_ : Bool, b_ = (rdOf false l0 (ji11)) := ⟨_, rfl⟩
       replace H : (if bq14 = true then (if 0 ≤ (wrap64 ((x3_1.length : Int) - 1)) then (if (wrap64 ((x3_1.length : Int) - 1)) < (x3_1.length : Int) then (impl_ClueOf.l0 k1 l0 (x3_1.set ((wrap64 ((x3_1.length : Int) - 1)) : Int).toNat (wrap64 ((rd x3_1 (wrap64 ((x3_1.length : Int) - 1))) + 1))) l0 (l0.length : Int) (wrap64 (x12_1 + 1))) else (none)) else (none)) else (if x3_1.length < 17592186044416 then (impl_ClueOf.l0 k1 l0 (x3_1 ++ [1]) l0 (l0.length : Int) (wrap64 (x12_1 + 1))) else (none))) = some r := by rw [← hbq14] at H; exact H
       have Nbq14 := Aside0.mk hbq14
       clear hbq14
       by_cases c15 : bq14 = true
       ·subst c15
        have H1 : (if 0 ≤ (wrap64 ((x3_1.length : Int) - 1)) then (if (wrap64 ((x3_1.length : Int) - 1)) < (x3_1.length : Int) then (impl_ClueOf.l0 k1 l0 (x3_1.set ((wrap64 ((x3_1.length : Int) - 1)) : Int).toNat (wrap64 ((rd x3_1 (wrap64 ((x3_1.length : Int) - 1))) + 1))) l0 (l0.length : Int) (wrap64 (x12_1 + 1))) else (none)) else (none)) = some r := by rw [if_pos rfl] at H; exact H
        clear H
        have H := H1
        clear H1
        obtain ⟨ji16, hji16⟩ : ∃ j_ : Int, (wrap64 ((x3_1.length : Int) - 1)) = j_ := ⟨_, rfl⟩
        replace H : (if 0 ≤ (ji16) then (if (ji16) < (x3_1.length : Int) then (impl_ClueOf.l0 k1 l0 (x3_1.set ((ji16) : Int).toNat (wrap64 ((rd x3_1 (ji16)) + 1))) l0 (l0.length : Int) (wrap64 (x12_1 + 1))) else (none)) else (none)) = some r := by first | (rw [hji16] at H; exact H) | (simp only [hji16] at H ⊢; exact H)
        have hji16w : (IntKind.i64.wrap ((x3_1.length : Int) - 1)) = ji16 := (i64_w _).trans hji16
        have q_ := ifs H
        clear H
        obtain ⟨c17, H⟩ := q_
        have c17b0 : decide (0 ≤ (ji16)) = true := decide_eq_true c17
        clear c17
        have q_ := ifs H
        clear H
        obtain ⟨c18, H⟩ := q_
        have c18b0 : decide ((ji16) < (x3_1.length : Int)) = true := decide_eq_true c18
        clear c18
        obtain ⟨y127, hy127⟩ : ∃ y_ : List Int, y_ = (x3_1.set ((ji16) : Int).toNat (wrap64 ((rd x3_1 (ji16)) + 1))) := ⟨_, rfl⟩
        replace H : (impl_ClueOf.l0 k1 l0 y127 l0 (l0.length : Int) (wrap64 (x12_1 + 1))) = some r := by first | (rw [hy127]; with_reducible exact H) | (have H2_ := (Option.bind_some _ _).symm.trans H; rw [hy127]; with_reducible exact H2_) | (have H2_ := (Option.bind_some _ _).symm.trans H; with_reducible exact H2_) | with_reducible exact H | (rw [hy127]; exact H) | exact H
        have Ny127 := Aside0.mk hy127
        clear hy127
        have H' := Aside0.mk H
        clear H
        have p124 : 0 ≤ (x12_1 : Int) := of_decide_eq_true (by first | (with_reducible assumption) | assumption)
        have q124 : x12_1 < (l0.length : Int) := of_decide_eq_true (by first | (with_reducible assumption) | assumption)
        obtain ⟨ad124, e124, hx124_0⟩ := Kd.at_bool HR0.out x12_1 p124 q124
        (try rw [← Nbq8.out] at hx124_0)
        (try rw [← Nbq14.out] at hx124_0)
        cases e124
        replace hx124_0 := (HB.out.cell (World.block_lt_of_cell? w _ hx124_0)).trans hx124_0
        replace p124 := eq_true p124
        replace q124 := eq_true q124
        have p125 : 0 ≤ ((ji11) : Int) := of_decide_eq_true (by first | (with_reducible assumption) | assumption)
        have q125 : (ji11) < (l0.length : Int) := of_decide_eq_true (by first | (with_reducible assumption) | assumption)
        obtain ⟨ad125, e125, hx125_0⟩ := Kd.at_bool HR0.out (ji11) p125 q125
        (try rw [← Nbq8.out] at hx125_0)
        (try rw [← Nbq14.out] at hx125_0)
        obtain rfl : ad124 = ad125 := (by injection e125)
        replace hx125_0 := (HB.out.cell (World.block_lt_of_cell? w _ hx125_0)).trans hx125_0
        replace p125 := eq_true p125
        replace q125 := eq_true q125
        obtain ⟨Ao20, co20, eo20⟩ := Kd.R_slice HO_3.out
        subst eo20
        have p126 : 0 ≤ ((ji16) : Int) := of_decide_eq_true (by first | (with_reducible assumption) | assumption)
        have q126 : (ji16) < (x3_1.length : Int) := of_decide_eq_true (by first | (with_reducible assumption) | assumption)
        obtain ⟨ad126, e126, hx126_0⟩ := Kd.at_int (Kd.R_reads' HO_3.out).2.2 (ji16) p126 q126
        cases e126
        replace p126 := eq_true p126
        replace q126 := eq_true q126
        have p19 : 0 ≤ ((ji16) : Int) := of_decide_eq_true (by first | (with_reducible assumption) | assumption)
        have q19 : ((ji16) : Int) < ((x3_1.length : Int) : Int) := of_decide_eq_true (by first | (with_reducible assumption) | assumption)
        obtain ⟨go19, co19, eo19, gb19, gl19, cl19, HG19⟩ := Kd.R_form HO_3.out (by omega)
        (first | cases eo19 | (injection eo19 with ea_ en_ ec_; (first | subst ea_ | (injection ea_ with ea_; subst ea_)); subst ec_; clear en_))
        have GB19 := Aside0.mk gb19
        have GG19 := Aside0.mk HG19
        clear gb19 gl19 HG19
        (first | simp only [add_plain] at hx126_0 | skip)
        obtain ⟨hx19_0, hf19_0⟩ := Kd.R_celln 0 HO_3.out ((ji16) : Int) p19 q19
        replace p19 := eq_true p19
        replace q19 := eq_true q19
        have HP21 := Kd.R_putg HO_3.out ((ji16) : Int) (wrap64 ((rd x3_1 (ji16)) + 1))
        go_wp2_with (first | ((with_reducible refine gate_store (t := 3) (p := 40) rfl ?_); refine store_event (t := 3) (p := 40) (v := ?vo_w22) (w1 := (wr.setCell ⟨go19, ((ji16) : Int).toNat, none⟩ (.int .i64 (wrap64 ((rd x3_1 (ji16)) + 1))))) ?hg ?ho ?hn ?hr ?_; (case ho => rfl); (case hg => rfl); (case hn => rfl); (case hr => first | (go_simp; done) | (go_simp; rfl)); intro w22 hw; have hg : wr.grownBy w22 (some go19) := (by rw [hw]; exact HP21.2); have hp_ : Kd.R (Kd.int .i64) 3 w22 w.heap.size (fun _ => True) (.slice (some ⟨go19, 0, none⟩) x3_1.length co20) y127 := (by rw [hw, Ny127.out]; exact HP21.1); clear HP21; have n0_ := Aside0.mk (hp_); have n1_ := Aside0.mk ((by rw [hw]; exact below_set (HB.out) GB19.out : Below w.heap.size w w22)); clear HO_3; clear HB; have HO_3 := n0_; have HB := n1_; clear n0_ n1_; clear hg hw hp_))
        go_roundg k1
        case measure => have := HK1.out; omega
        case rel => exact ⟨(y127), (wrap64 (x12_1 + 1)), (by first | rfl | (simp; done) | (simp [*]; done)), H', ⟨by have := HK1.out; omega⟩, ⟨Kd.rv HO_3.out⟩, ⟨bm HB⟩⟩
       ·replace c15 := Bool.eq_false_iff.mpr c15
        subst c15
        have H1 : (if x3_1.length < 17592186044416 then (impl_ClueOf.l0 k1 l0 (x3_1 ++ [1]) l0 (l0.length : Int) (wrap64 (x12_1 + 1))) else (none)) = some r := by rw [if_neg (show ¬ (false = true) by decide)] at H; exact H
        clear H
        have H := H1
        clear H1
        have q_ := ifs H
        clear H
        obtain ⟨c23, H⟩ := q_
        have LMc23 := Aside0.mk c23
        clear c23
        obtain ⟨y128, hy128⟩ : ∃ y_ : List Int, y_ = (x3_1 ++ [1]) := ⟨_, rfl⟩
        replace H : (impl_ClueOf.l0 k1 l0 y128 l0 (l0.length : Int) (wrap64 (x12_1 + 1))) = some r := by first | (rw [hy128]; with_reducible exact H) | (have H2_ := (Option.bind_some _ _).symm.trans H; rw [hy128]; with_reducible exact H2_) | (have H2_ := (Option.bind_some _ _).symm.trans H; with_reducible exact H2_) | with_reducible exact H | (rw [hy128]; exact H) | exact H
        have Ny128 := Aside0.mk hy128
        clear hy128
        have H' := Aside0.mk H
        clear H
        have p124 : 0 ≤ (x12_1 : Int) := of_decide_eq_true (by first | (with_reducible assumption) | assumption)
        have q124 : x12_1 < (l0.length : Int) := of_decide_eq_true (by first | (with_reducible assumption) | assumption)
        obtain ⟨ad124, e124, hx124_0⟩ := Kd.at_bool HR0.out x12_1 p124 q124
        (try rw [← Nbq8.out] at hx124_0)
        (try rw [← Nbq14.out] at hx124_0)
        cases e124
        replace hx124_0 := (HB.out.cell (World.block_lt_of_cell? w _ hx124_0)).trans hx124_0
        replace p124 := eq_true p124
        replace q124 := eq_true q124
        have p125 : 0 ≤ ((ji11) : Int) := of_decide_eq_true (by first | (with_reducible assumption) | assumption)
        have q125 : (ji11) < (l0.length : Int) := of_decide_eq_true (by first | (with_reducible assumption) | assumption)
        obtain ⟨ad125, e125, hx125_0⟩ := Kd.at_bool HR0.out (ji11) p125 q125
        (try rw [← Nbq8.out] at hx125_0)
        (try rw [← Nbq14.out] at hx125_0)
        obtain rfl : ad124 = ad125 := (by injection e125)
        replace hx125_0 := (HB.out.cell (World.block_lt_of_cell? w _ hx125_0)).trans hx125_0
        replace p125 := eq_true p125
        replace q125 := eq_true q125
        go_wp2_with (first | ((with_reducible refine gate_builtin (b := .append) (xs := #[.tmp 17, .tmp 18]) rfl ?_); at_builtin; refine Kd.R_append (Kd.int .i64) (w0 := w) w.heap.size rfl (.tmp 17) (.tmp 18) 36 3 (.int .i64 0) 8 rfl Try.underlying36 info3 rfl (by decide) (by omega) u3 x3_1 1 [.int .i64 1] (fun _ => True) (fun _ => False) rfl rfl ?aP (fun _ hk => hk.elim) ?aF ?aO ?aB ?aS ?aL ?_; (case aP => exact rfl); (case aB => exact (bm HB)); (case aF => exact (fun _ _ => trivial)); (case aO => exact (Kd.rv HO_3.out)); (case aS => exact (below_size (bm HB))); (case aL => have := LMc23.out; omega); intro v129 w24 ho hb hg hat; rw [← Ny128.out] at ho; have n0_ := Aside0.mk (hb); have n1_ := Aside0.mk (ho); clear HB; clear HO_3; have HB := n0_; have HO130 := n1_; clear n0_ n1_; clear ho hb hg hat))
        go_roundg k1
        case measure => have := HK1.out; omega
        case rel => exact ⟨(y128), (wrap64 (x12_1 + 1)), (by first | rfl | (simp; done) | (simp [*]; done)), H', ⟨by have := HK1.out; omega⟩, ⟨Kd.rv HO130.out⟩, ⟨bm HB⟩⟩
      ·rw [if_neg c10] at H
       have c10b0 : decide (0 < x12_1) = false := decide_eq_false c10
       clear c10
       have q_ := ifs H
       clear H
       obtain ⟨c25, H⟩ := q_
       have LMc25 := Aside0.mk c25
       clear c25
       obtain ⟨y131, hy131⟩ : ∃ y_ : List Int, y_ = (x3_1 ++ [1]) := ⟨_, rfl⟩
       replace H : (impl_ClueOf.l0 k1 l0 y131 l0 (l0.length : Int) (wrap64 (x12_1 + 1))) = some r := by first | (rw [hy131]; with_reducible exact H) | (have H2_ := (Option.bind_some _ _).symm.trans H; rw [hy131]; with_reducible exact H2_) | (have H2_ := (Option.bind_some _ _).symm.trans H; with_reducible exact H2_) | with_reducible exact H | (rw [hy131]; exact H) | exact H
       have Ny131 := Aside0.mk hy131
       clear hy131
       have H' := Aside0.mk H
       clear H
       have p124 : 0 ≤ (x12_1 : Int) := of_decide_eq_true (by first | (with_reducible assumption) | assumption)
       have q124 : x12_1 < (l0.length : Int) := of_decide_eq_true (by first | (with_reducible assumption) | assumption)
       obtain ⟨ad124, e124, hx124_0⟩ := Kd.at_bool HR0.out x12_1 p124 q124
       (try rw [← Nbq8.out] at hx124_0)
       cases e124
       replace hx124_0 := (HB.out.cell (World.block_lt_of_cell? w _ hx124_0)).trans hx124_0
       replace p124 := eq_true p124
       replace q124 := eq_true q124
       go_wp2_with (first | ((with_reducible refine gate_builtin (b := .append) (xs := #[.tmp 17, .tmp 18]) rfl ?_); at_builtin; refine Kd.R_append (Kd.int .i64) (w0 := w) w.heap.size rfl (.tmp 17) (.tmp 18) 36 3 (.int .i64 0) 8 rfl Try.underlying36 info3 rfl (by decide) (by omega) u3 x3_1 1 [.int .i64 1] (fun _ => True) (fun _ => False) rfl rfl ?aP (fun _ hk => hk.elim) ?aF ?aO ?aB ?aS ?aL ?_; (case aP => exact rfl); (case aB => exact (bm HB)); (case aF => exact (fun _ _ => trivial)); (case aO => exact (Kd.rv HO_3.out)); (case aS => exact (below_size (bm HB))); (case aL => have := LMc25.out; omega); intro v132 w26 ho hb hg hat; rw [← Ny131.out] at ho; have n0_ := Aside0.mk (hb); have n1_ := Aside0.mk (ho); clear HB; clear HO_3; have HB := n0_; have HO133 := n1_; clear n0_ n1_; clear ho hb hg hat))
       go_roundg k1
       case measure => have := HK1.out; omega
       case rel => exact ⟨(y131), (wrap64 (x12_1 + 1)), (by first | rfl | (simp; done) | (simp [*]; done)), H', ⟨by have := HK1.out; omega⟩, ⟨Kd.rv HO133.out⟩, ⟨bm HB⟩⟩
     ·replace c9 := Bool.eq_false_iff.mpr c9
      subst c9
      have H1 : (impl_ClueOf.l0 k1 l0 x3_1 l0 (l0.length : Int) (wrap64 (x12_1 + 1))) = some r := by rw [if_neg (show ¬ (false = true) by decide)] at H; exact H
      clear H
      have H := H1
      clear H1
      have H' := Aside0.mk H
      clear H
      have p124 : 0 ≤ (x12_1 : Int) := of_decide_eq_true (by first | (with_reducible assumption) | assumption)
      have q124 : x12_1 < (l0.length : Int) := of_decide_eq_true (by first | (with_reducible assumption) | assumption)
      obtain ⟨ad124, e124, hx124_0⟩ := Kd.at_bool HR0.out x12_1 p124 q124
      (try rw [← Nbq8.out] at hx124_0)
      cases e124
      replace hx124_0 := (HB.out.cell (World.block_lt_of_cell? w _ hx124_0)).trans hx124_0
      replace p124 := eq_true p124
      replace q124 := eq_true q124
      go_wp2
      go_roundg k1
      case measure => have := HK1.out; omega
      case rel => exact ⟨(x3_1), (wrap64 (x12_1 + 1)), (by first | rfl | (simp; done) | (simp [*]; done)), H', ⟨by have := HK1.out; omega⟩, ⟨Kd.rv HO_3.out⟩, ⟨bm HB⟩⟩
    ·rw [if_neg c5] at H
     have c5b0 : decide (x12_1 < (l0.length : Int)) = false := decide_eq_false c5
     clear c5
     obtain rfl := Option.some.inj H
     go_wp2
     go_ret
     exact ⟨_, by first | rfl | (simp [errW_none, errW_some] <;> rfl) | (simp [*, errW_none, errW_some] <;> rfl), by (with_reducible repeat (first | apply Kd.R_alloc | apply Kd.R_drewN | apply Kd.R_drew)); exact HO_3.out, bm HB⟩

/-! ### impl_linesFor: function 78 -/
mutual
def impl_linesFor.l0 : Nat → List Int → List Int → List Int → Int → Int → Option (List Int)
 | 0, _, _, _, _, _ => none
 | k + 1, x0, x1, x5, x13, x14 => if x14 < x13 then (impl_linesFor.l1 k x0 x1 x5 x14 true x13 x14 x1 (x1.length : Int) 0) else (some x5)
def impl_linesFor.l1 : Nat → List Int → List Int → List Int → Int → Bool → Int → Int → List Int → Int → Int → Option (List Int)
 | 0, _, _, _, _, _, _, _, _, _, _ => none
 | k + 1, x0, x1, x5, x6, x7, x13, x14, x17, x18, x19 => if x19 < x18 then (if 0 ≤ x19 then (if x19 < (x17.length : Int) then (if x7 = true then (if (rd x17 x19) < 0 then (impl_linesFor.l1 k x0 x1 x5 x6 true x13 x14 x17 x18 (wrap64 (x19 + 1))) else (impl_linesFor.l1 k x0 x1 x5 x6 ((rd x17 x19) == (Go.bits .and .i64 (shr .i64 x6 x19) 1)) x13 x14 x17 x18 (wrap64 (x19 + 1)))) else (impl_linesFor.l1 k x0 x1 x5 x6 false x13 x14 x17 x18 (wrap64 (x19 + 1)))) else (none)) else (none)) else (if x7 = true then ((impl_lineOf.f k x6 (x1.length : Int)).bind fun t138 => ((impl_ClueOf.f k t138).bind fun t141 => ((slices_Equal_int_int.f k t141 x0).bind fun t144 => (if t144 = true then (if x5.length < 17592186044416 then (impl_linesFor.l0 k x0 x1 (x5 ++ [x6]) x13 (wrap64 (x14 + 1))) else (none)) else (impl_linesFor.l0 k x0 x1 x5 x13 (wrap64 (x14 + 1))))))) else (impl_linesFor.l0 k x0 x1 x5 x13 (wrap64 (x14 + 1))))
end
def impl_linesFor.f (k : Nat) (l0 : List Int) (l1 : List Int) : Option (List Int) := impl_linesFor.l0 k l0 l1 (([] : List Int)) (shl .i64 1 (l1.length : Int)) 0
theorem impl_linesFor.mono_l : ∀ k, (∀ y0 y1 y2 y3 y4, LeO (impl_linesFor.l0 k y0 y1 y2 y3 y4) (impl_linesFor.l0 (k + 1) y0 y1 y2 y3 y4)) ∧ (∀ y0 y1 y2 y3 y4 y5 y6 y7 y8 y9, LeO (impl_linesFor.l1 k y0 y1 y2 y3 y4 y5 y6 y7 y8 y9) (impl_linesFor.l1 (k + 1) y0 y1 y2 y3 y4 y5 y6 y7 y8 y9))
 | 0 => ⟨fun _ _ _ _ _ r h => by simp [impl_linesFor.l0] at h, fun _ _ _ _ _ _ _ _ _ _ r h => by simp [impl_linesFor.l1] at h⟩
 | k + 1 => by
  obtain ⟨ih0, ih1⟩ := impl_linesFor.mono_l k
  refine ⟨?_, ?_⟩
  ·intro y0 y1 y2 y3 y4
   unfold impl_linesFor.l0
   repeat' first
   | (with_reducible exact ih0 _ _ _ _ _)
   | (with_reducible exact ih1 _ _ _ _ _ _ _ _ _ _)
   | (with_reducible exact impl_ClueOf.mono _ _)
   | (with_reducible exact impl_lineOf.mono _ _ _)
   | (with_reducible exact slices_Equal_int_int.mono _ _ _)
   | (with_reducible exact LeO.refl _)
   | (with_reducible exact LeO.none _)
   | (with_reducible refine LeO.ite ?_ ?_)
   | (with_reducible refine LeO.bind ?_ (fun _ => ?_))
   | exact LeO.none _
   | refine LeO.ite ?_ ?_
   | refine LeO.bind ?_ (fun _ => ?_)
  ·intro y0 y1 y2 y3 y4 y5 y6 y7 y8 y9
   unfold impl_linesFor.l1
   repeat' first
   | (with_reducible exact ih0 _ _ _ _ _)
   | (with_reducible exact ih1 _ _ _ _ _ _ _ _ _ _)
   | (with_reducible exact impl_ClueOf.mono _ _)
   | (with_reducible exact impl_lineOf.mono _ _ _)
   | (with_reducible exact slices_Equal_int_int.mono _ _ _)
   | (with_reducible exact LeO.refl _)
   | (with_reducible exact LeO.none _)
   | (with_reducible refine LeO.ite ?_ ?_)
   | (with_reducible refine LeO.bind ?_ (fun _ => ?_))
   | exact LeO.none _
   | refine LeO.ite ?_ ?_
   | refine LeO.bind ?_ (fun _ => ?_)
theorem impl_linesFor.mono : ∀ a0 a1 k, LeO (impl_linesFor.f k a0 a1) (impl_linesFor.f (k + 1) a0 a1) := by
 intro a0 a1 k
 obtain ⟨ih0, ih1⟩ := impl_linesFor.mono_l k
 unfold impl_linesFor.f
 repeat' first
   | (with_reducible exact ih0 _ _ _ _ _)
   | (with_reducible exact ih1 _ _ _ _ _ _ _ _ _ _)
   | (with_reducible exact impl_ClueOf.mono _ _)
   | (with_reducible exact impl_lineOf.mono _ _ _)
   | (with_reducible exact slices_Equal_int_int.mono _ _ _)
   | (with_reducible exact LeO.refl _)
   | (with_reducible exact LeO.none _)
   | (with_reducible refine LeO.ite ?_ ?_)
   | (with_reducible refine LeO.bind ?_ (fun _ => ?_))
   | exact LeO.none _
   | refine LeO.ite ?_ ?_
   | refine LeO.bind ?_ (fun _ => ?_)
set_option maxHeartbeats 8000000 in
set_option maxRecDepth 100000 in
theorem impl_linesFor.calls (k : Nat) (A0 : Option Addr) (c0 : Nat) (l0 : List Int) (A1 : Option Addr) (c1 : Nat) (l1 : List Int) (r : List Int) (w : World) (hr0 : Kd.C (Kd.int .i64) w A0 l0.length l0) (hc0 : l0.length ≤ c0) (hr1 : Kd.C (Kd.int .i64) w A1 l1.length l1) (hc1 : l1.length ≤ c1) (h : impl_linesFor.f k l0 l1 = some r) :
  Calls Try.prog 78 #[.slice A0 l0.length c0, .slice A1 l1.length c1] w fun e w' => ∃ v0_ : Value, e = .returned (v0_) ∧ Kd.R (Kd.int .i64) 3 w' w.heap.size (fun _ => True) v0_ r ∧ Below w.heap.size w w' := by
 have HR0 := Aside0.mk hr0
 have HC0 := Aside0.mk hc0
 clear hr0 hc0
 have HR1 := Aside0.mk hr1
 have HC1 := Aside0.mk hc1
 clear hr1 hc1
 have HB := Aside0.mk (Below.refl w.heap.size w)
 have H : (impl_linesFor.l0 k l0 l1 (([] : List Int)) (shl .i64 1 (l1.length : Int)) 0) = some r := h
 clear h
 obtain ⟨y134, hy134⟩ : ∃ y_ : List Int, y_ = (([] : List Int)) := ⟨_, rfl⟩
 replace H : (impl_linesFor.l0 k l0 l1 y134 (shl .i64 1 (l1.length : Int)) 0) = some r := by first | (rw [hy134]; with_reducible exact H) | (have H2_ := (Option.bind_some _ _).symm.trans H; rw [hy134]; with_reducible exact H2_) | (have H2_ := (Option.bind_some _ _).symm.trans H; with_reducible exact H2_) | with_reducible exact H | (rw [hy134]; exact H) | exact H
 have Ny134 := Aside0.mk hy134
 clear hy134
 obtain ⟨ji3, hji3⟩ : ∃ j_ : Int, (shl .i64 1 (l1.length : Int)) = j_ := ⟨_, rfl⟩
 replace H : (impl_linesFor.l0 k l0 l1 y134 ji3 0) = some r := by first | (rw [hji3] at H; exact H) | (simp only [hji3] at H ⊢; exact H)
 have hji3_ : (IntKind.i64.wrap (1 * 2 ^ min (l1.length : Int).toNat 64)) = ji3 := hji3
 have hji3z : (l1.length : Int) ≤ 64 → (IntKind.i64.wrap (1 * 2 ^ (l1.length : Int).toNat)) = ji3 := shl_small hji3
 have hji3p : (IntKind.i64.wrap (1 * 2 ^ min l1.length 64)) = ji3 := hji3_
 have hji3q : (l1.length : Int) ≤ 64 → (IntKind.i64.wrap (1 * 2 ^ l1.length)) = ji3 := hji3z
 have hji3r : (IntKind.i64.wrap (2 ^ min l1.length 64)) = ji3 := by have h_ := hji3p; rw [Int.one_mul] at h_; exact h_
 have hji3s : (l1.length : Int) ≤ 64 → (IntKind.i64.wrap (2 ^ l1.length)) = ji3 := fun hle_ => by have h_ := hji3q hle_; rw [Int.one_mul] at h_; exact h_
 have hji3u : (IntKind.i64.wrap (2 ^ min (l1.length : Int).toNat 64)) = ji3 := by have h_ := hji3_; rw [Int.one_mul] at h_; exact h_
 have hji3v : (l1.length : Int) ≤ 64 → (IntKind.i64.wrap (2 ^ (l1.length : Int).toNat)) = ji3 := fun hle_ => by have h_ := hji3z hle_; rw [Int.one_mul] at h_; exact h_
 have hji3y : (wrap64 (1 * 2 ^ min (l1.length : Int).toNat 64)) = ji3 := (i64_w _).symm.trans hji3_
 have hji3x : (l1.length : Int) ≤ 64 → (wrap64 (1 * 2 ^ (l1.length : Int).toNat)) = ji3 := fun h_ => (i64_w _).symm.trans (hji3z h_)
 have H' := Aside0.mk H
 clear H
 go_enter Try.func78, Try.ntmps78
 go_wp2_with (first | ((with_reducible refine gate_dst (N := 10) rfl ?_); (try (refine gate_guard (by rfl) ?_; dsimp only)); refine Kd.R_lit (Kd.int .i64) _ 3 ?hg (N := 10) ?hd (xs := ([] : List Int)) (inner := []) (ok := fun _ => True) (okp := fun _ => True) ?hr ?hp (fun _ hk => hk) trivial (Below.refl _ _) (Nat.le_refl _) (by simp) ?_; (case hd => rfl); (case hg => rfl); (case hr => first | (go_simp; done) | (go_simp; rfl)); (case hp => exact (Reps.none _ _)); intro v135 w4 ho5 hb hg_ hnew_; clear hg_ hnew_; (first | rw [← Ny134.out] at ho5 | (simp only [Int.reduceToNat] at ho5; rw [← Ny134.out] at ho5)); have n0_ := Aside0.mk (Kd.R_lower ho5 (below_size (bm HB))); have n1_ := Aside0.mk (below_step (bm HB) hb); clear HB; have HO136 := n0_; have HB := n1_; clear n0_ n1_; clear hb ho5))
 go_loopg [5, 14] k (fun kq v5 v14 w' => ∃ (x5_1 : List Int) (x14_1 : Int), v14 = .int .i64 x14_1 ∧ Aside0 (impl_linesFor.l0 kq l0 l1 x5_1 ji3 x14_1 = some r) ∧ Aside0 (kq ≤ k) ∧ Aside0 (Kd.R (Kd.int .i64) 3 w' w.heap.size (fun _ => True) v5 x5_1) ∧ Aside0 (Below w.heap.size w w'))
 case atStart => exact ⟨(y134), (0), (by first | rfl | (simp; done) | (simp [*]; done)), H', ⟨Nat.le_refl _⟩, ⟨Kd.rv HO136.out⟩, ⟨bm HB⟩⟩
 case round =>
  clear H'
  try clear c1
  try clear p2
  obtain ⟨x5_1, x14_1, rfl, HA, HK1, HO_5, HB⟩ := hrel
  cases gk with
  | zero => exact absurd HA.out (by simp [impl_linesFor.l0])
  | succ k1 =>
   have H := HA.out
   clear HA
   simp only [impl_linesFor.l0] at H
   by_cases c6 : x14_1 < ji3
   ·rw [if_pos c6] at H
    have c6b0 : decide (x14_1 < ji3) = true := decide_eq_true c6
    clear c6
    have H' := Aside0.mk H
    clear H
    go_wp2
    go_loopg [7, 19] k1 (fun kq v7 v19 w' => ∃ (x7_2 : Bool) (x19_2 : Int), v7 = .bool x7_2 ∧ v19 = .int .i64 x19_2 ∧ Aside0 (impl_linesFor.l1 kq l0 l1 x5_1 x14_1 x7_2 ji3 x14_1 l1 (l1.length : Int) x19_2 = some r) ∧ Aside0 (kq ≤ k1) ∧ Aside0 (Kd.R (Kd.int .i64) 3 w' w.heap.size (fun _ => True) u5 x5_1) ∧ Aside0 (Below w.heap.size w w'))
    case atStart => exact ⟨(true), (0), (by first | rfl | (simp; done) | (simp [*]; done)), (by first | rfl | (simp; done) | (simp [*]; done)), H', ⟨Nat.le_refl _⟩, ⟨Kd.rv HO_5.out⟩, ⟨bm HB⟩⟩
    case round =>
     clear H'
     try clear c1
     try clear p2
     try clear c6
     try clear c6b0
     try clear p6
     try clear p2
     obtain ⟨x7_2, x19_2, rfl, rfl, HA, HK2, HO_5, HB⟩ := hrel
     cases gk with
     | zero => exact absurd HA.out (by simp [impl_linesFor.l1])
     | succ k2 =>
      have H := HA.out
      clear HA
      simp only [impl_linesFor.l1] at H
      by_cases c7 : x19_2 < (l1.length : Int)
      ·rw [if_pos c7] at H
       have c7b0 : decide (x19_2 < (l1.length : Int)) = true := decide_eq_true c7
       clear c7
       have q_ := ifs H
       clear H
       obtain ⟨c8, H⟩ := q_
       have c8b0 : decide (0 ≤ x19_2) = true := decide_eq_true c8
       clear c8
       have q_ := ifs H
       clear H
       obtain ⟨c9, H⟩ := q_
       have c9b0 : decide (x19_2 < (l1.length : Int)) = true := decide_eq_true c9
       clear c9
       by_cases c10 : x7_2 = true
       ·subst c10
        have H1 : (if (rd l1 x19_2) < 0 then (impl_linesFor.l1 k2 l0 l1 x5_1 x14_1 true ji3 x14_1 l1 (l1.length : Int) (wrap64 (x19_2 + 1))) else (impl_linesFor.l1 k2 l0 l1 x5_1 x14_1 ((rd l1 x19_2) == (Go.bits .and .i64 (shr .i64 x14_1 x19_2) 1)) ji3 x14_1 l1 (l1.length : Int) (wrap64 (x19_2 + 1)))) = some r := by rw [if_pos rfl] at H; exact H
        clear H
        have H := H1
        clear H1
        by_cases c11 : (rd l1 x19_2) < 0
        ·rw [if_pos c11] at H
         have c11b0 : decide ((rd l1 x19_2) < 0) = true := decide_eq_true c11
         clear c11
         have H' := Aside0.mk H
         clear H
         have p137 : 0 ≤ (x19_2 : Int) := of_decide_eq_true (by first | (with_reducible assumption) | assumption)
         have q137 : x19_2 < (l1.length : Int) := of_decide_eq_true (by first | (with_reducible assumption) | assumption)
         obtain ⟨ad137, e137, hx137_0⟩ := Kd.at_int HR1.out x19_2 p137 q137
         cases e137
         replace hx137_0 := (HB.out.cell (World.block_lt_of_cell? w _ hx137_0)).trans hx137_0
         replace p137 := eq_true p137
         replace q137 := eq_true q137
         go_wp2
         go_roundg k2
         case measure => have := HK1.out; have := HK2.out; omega
         case rel => exact ⟨(true), (wrap64 (x19_2 + 1)), (by first | rfl | (simp; done) | (simp [*]; done)), (by first | rfl | (simp; done) | (simp [*]; done)), H', ⟨by have := HK1.out; have := HK2.out; omega⟩, ⟨Kd.rv HO_5.out⟩, ⟨bm HB⟩⟩
        ·rw [if_neg c11] at H
         have c11b0 : decide ((rd l1 x19_2) < 0) = false := decide_eq_false c11
         clear c11
         have c12b0 := eq_true (of_decide_eq_true (by first | (with_reducible assumption) | assumption) : 0 ≤ x19_2)
         obtain ⟨ji13, hji13⟩ : ∃ j_ : Int, (shr .i64 x14_1 x19_2) = j_ := ⟨_, rfl⟩
         replace H : (impl_linesFor.l1 k2 l0 l1 x5_1 x14_1 ((rd l1 x19_2) == (Go.bits .and .i64 (ji13) 1)) ji3 x14_1 l1 (l1.length : Int) (wrap64 (x19_2 + 1))) = some r := by first | (rw [hji13] at H; exact H) | (simp only [hji13] at H ⊢; exact H)
         have hji13_ : (x14_1 / 2 ^ min x19_2.toNat 64) = ji13 := hji13
         have hji13z : x19_2 ≤ 64 → (x14_1 / 2 ^ x19_2.toNat) = ji13 := shr_small hji13
         have H' := Aside0.mk H
         clear H
         have p137 : 0 ≤ (x19_2 : Int) := of_decide_eq_true (by first | (with_reducible assumption) | assumption)
         have q137 : x19_2 < (l1.length : Int) := of_decide_eq_true (by first | (with_reducible assumption) | assumption)
         obtain ⟨ad137, e137, hx137_0⟩ := Kd.at_int HR1.out x19_2 p137 q137
         cases e137
         replace hx137_0 := (HB.out.cell (World.block_lt_of_cell? w _ hx137_0)).trans hx137_0
         replace p137 := eq_true p137
         replace q137 := eq_true q137
         go_wp2
         go_roundg k2
         case measure => have := HK1.out; have := HK2.out; omega
         case rel => exact ⟨(((rd l1 x19_2) == (Go.bits .and .i64 (ji13) 1))), (wrap64 (x19_2 + 1)), (by first | rfl | (simp; done) | (simp only [← hji13] <;> (first | rfl | simp)) | (simp [*]; done)), (by first | rfl | (simp; done) | (simp [*]; done)), H', ⟨by have := HK1.out; have := HK2.out; omega⟩, ⟨Kd.rv HO_5.out⟩, ⟨bm HB⟩⟩
       ·replace c10 := Bool.eq_false_iff.mpr c10
        subst c10
        have H1 : (impl_linesFor.l1 k2 l0 l1 x5_1 x14_1 false ji3 x14_1 l1 (l1.length : Int) (wrap64 (x19_2 + 1))) = some r := by rw [if_neg (show ¬ (false = true) by decide)] at H; exact H
        clear H
        have H := H1
        clear H1
        have H' := Aside0.mk H
        clear H
        have p137 : 0 ≤ (x19_2 : Int) := of_decide_eq_true (by first | (with_reducible assumption) | assumption)
        have q137 : x19_2 < (l1.length : Int) := of_decide_eq_true (by first | (with_reducible assumption) | assumption)
        obtain ⟨ad137, e137, hx137_0⟩ := Kd.at_int HR1.out x19_2 p137 q137
        cases e137
        replace hx137_0 := (HB.out.cell (World.block_lt_of_cell? w _ hx137_0)).trans hx137_0
        replace p137 := eq_true p137
        replace q137 := eq_true q137
        go_wp2
        go_roundg k2
        case measure => have := HK1.out; have := HK2.out; omega
        case rel => exact ⟨(false), (wrap64 (x19_2 + 1)), (by first | rfl | (simp; done) | (simp [*]; done)), (by first | rfl | (simp; done) | (simp [*]; done)), H', ⟨by have := HK1.out; have := HK2.out; omega⟩, ⟨Kd.rv HO_5.out⟩, ⟨bm HB⟩⟩
      ·rw [if_neg c7] at H
       have c7b0 : decide (x19_2 < (l1.length : Int)) = false := decide_eq_false c7
       clear c7
       by_cases c14 : x7_2 = true
       ·subst c14
        have H1 : ((impl_lineOf.f k2 x14_1 (l1.length : Int)).bind fun t138 => ((impl_ClueOf.f k2 t138).bind fun t141 => ((slices_Equal_int_int.f k2 t141 l0).bind fun t144 => (if t144 = true then (if x5_1.length < 17592186044416 then (impl_linesFor.l0 k2 l0 l1 (x5_1 ++ [x14_1]) ji3 (wrap64 (x14_1 + 1))) else (none)) else (impl_linesFor.l0 k2 l0 l1 x5_1 ji3 (wrap64 (x14_1 + 1))))))) = some r := by rw [if_pos rfl] at H; exact H
        clear H
        have H := H1
        clear H1
        replace H := Option.bind_eq_some_iff.mp H
        obtain ⟨t138, A150, H⟩ := H
        replace H : ((impl_ClueOf.f k2 t138).bind fun t141 => ((slices_Equal_int_int.f k2 t141 l0).bind fun t144 => (if t144 = true then (if x5_1.length < 17592186044416 then (impl_linesFor.l0 k2 l0 l1 (x5_1 ++ [x14_1]) ji3 (wrap64 (x14_1 + 1))) else (none)) else (impl_linesFor.l0 k2 l0 l1 x5_1 ji3 (wrap64 (x14_1 + 1)))))) = some r := H
        have A15 := Aside0.mk A150
        clear A150
        replace H := Option.bind_eq_some_iff.mp H
        obtain ⟨t141, A160, H⟩ := H
        replace H : ((slices_Equal_int_int.f k2 t141 l0).bind fun t144 => (if t144 = true then (if x5_1.length < 17592186044416 then (impl_linesFor.l0 k2 l0 l1 (x5_1 ++ [x14_1]) ji3 (wrap64 (x14_1 + 1))) else (none)) else (impl_linesFor.l0 k2 l0 l1 x5_1 ji3 (wrap64 (x14_1 + 1))))) = some r := H
        have A16 := Aside0.mk A160
        clear A160
        replace H := Option.bind_eq_some_iff.mp H
        obtain ⟨t144, A170, H⟩ := H
        replace H : (if t144 = true then (if x5_1.length < 17592186044416 then (impl_linesFor.l0 k2 l0 l1 (x5_1 ++ [x14_1]) ji3 (wrap64 (x14_1 + 1))) else (none)) else (impl_linesFor.l0 k2 l0 l1 x5_1 ji3 (wrap64 (x14_1 + 1)))) = some r := H
        have A17 := Aside0.mk A170
        clear A170
        by_cases c18 : t144 = true
        ·subst c18
         have H1 : (if x5_1.length < 17592186044416 then (impl_linesFor.l0 k2 l0 l1 (x5_1 ++ [x14_1]) ji3 (wrap64 (x14_1 + 1))) else (none)) = some r := by rw [if_pos rfl] at H; exact H
         clear H
         have H := H1
         clear H1
         have q_ := ifs H
         clear H
         obtain ⟨c19, H⟩ := q_
         have LMc19 := Aside0.mk c19
         clear c19
         obtain ⟨y145, hy145⟩ : ∃ y_ : List Int, y_ = (x5_1 ++ [x14_1]) := ⟨_, rfl⟩
         replace H : (impl_linesFor.l0 k2 l0 l1 y145 ji3 (wrap64 (x14_1 + 1))) = some r := by first | (rw [hy145]; with_reducible exact H) | (have H2_ := (Option.bind_some _ _).symm.trans H; rw [hy145]; with_reducible exact H2_) | (have H2_ := (Option.bind_some _ _).symm.trans H; with_reducible exact H2_) | with_reducible exact H | (rw [hy145]; exact H) | exact H
         have Ny145 := Aside0.mk hy145
         clear hy145
         have H' := Aside0.mk H
         clear H
         go_wp2_with (first | (go_at_call 56; (with_reducible refine (impl_lineOf.calls k2 x14_1 (l1.length : Int) t138 _ A15.out).mono ?_); rintro e w20 ⟨v139, rfl, ho0, hb⟩; have n0_ := Aside0.mk (Kd.R_below (Kd.rv HO_5.out) hb); have n1_ := Aside0.mk (Kd.R_lower ho0 (below_size (bm HB))); have n2_ := Aside0.mk (below_step (bm HB) hb); clear HO_5; clear HB; have HO_5 := n0_; have HO140 := n1_; have HB := n2_; clear n0_ n1_ n2_; (try clear hb); (try clear hb2); (try clear hk); (try clear hi); (try clear ho0); obtain ⟨Ao21, co21, eo21⟩ := Kd.R_slice HO140.out; subst eo21) | (go_at_call 65; (with_reducible refine (impl_ClueOf.calls k2 _ _ t138 t141 _ ?side1 ?side2 A16.out).mono ?_); (case side1 => repeat (first | exact (Kd.R_reads' HO140.out).2.2 | (with_reducible refine Kd.C_alloc ?_ _) | (with_reducible refine Kd.C_drewN ?_ _) | (with_reducible refine Kd.C_drew ?_))); (case side2 => exact (Kd.R_reads' HO140.out).2.1); rintro e w22 ⟨v142, rfl, ho0, hb⟩; have n0_ := Aside0.mk (Kd.R_elder' (Kd.rv HO_5.out) (Kd.R_base ho0) hb); have n1_ := Aside0.mk (Kd.R_below (Kd.rv HO140.out) hb); have n2_ := Aside0.mk (Kd.R_lower (Kd.R_new' ho0 (Kd.R_lt (Kd.rv HO_5.out))) (below_size (bm HB))); have n3_ := Aside0.mk (below_step (bm HB) hb); clear HO_5; clear HO140; clear HB; have HO_5 := n0_; have HO140 := n1_; have HO143 := n2_; have HB := n3_; clear n0_ n1_ n2_ n3_; (try clear hb); (try clear hb2); (try clear hk); (try clear hi); (try clear ho0); obtain ⟨Ao23, co23, eo23⟩ := Kd.R_slice HO143.out; subst eo23) | (go_at_call 48; (with_reducible refine (slices_Equal_int_int.calls k2 _ _ t141 _ _ l0 true _ ?side1 ?side2 ?side3 ?side4 A17.out).mono ?_); (case side1 => repeat (first | exact (Kd.R_reads' HO143.out).2.2 | (with_reducible refine Kd.C_alloc ?_ _) | (with_reducible refine Kd.C_drewN ?_ _) | (with_reducible refine Kd.C_drew ?_))); (case side2 => exact (Kd.R_reads' HO143.out).2.1); (case side3 => repeat (first | exact (Kd.C_below HR0.out HB.out) | (with_reducible refine Kd.C_alloc ?_ _) | (with_reducible refine Kd.C_drewN ?_ _) | (with_reducible refine Kd.C_drew ?_))); (case side4 => exact HC0.out); rintro e w' ⟨rfl, ⟨nd, rfl⟩⟩) | ((with_reducible refine gate_builtin (b := .append) (xs := #[.tmp 48, .tmp 50]) rfl ?_); (try (refine gate_guard (by rfl) ?_; dsimp only)); at_builtin; refine Kd.R_append (Kd.int .i64) (w0 := w) w.heap.size rfl (.tmp 48) (.tmp 50) 36 3 (.int .i64 0) 8 rfl Try.underlying36 info3 rfl (by decide) (by omega) u5 x5_1 x14_1 [.int .i64 x14_1] (fun k_ => some k_ ≠ (.slice Ao23 t141.length co23 : Value).ownBlock) (fun _ => False) rfl rfl ?aP (fun _ hk => hk.elim) ?aF ?aO ?aB ?aS ?aL ?_; (case aP => exact rfl); (case aB => exact (bm HB)); (case aF => exact (fun k_ hk => Kd.fresh' (Kd.R_lt (Kd.rv HO143.out)) k_ hk)); (case aO => exact (by (with_reducible repeat (first | apply Kd.R_alloc | apply Kd.R_drewN | apply Kd.R_drew)); exact Kd.R_mono HO_5.out (fun _ hk => hk.2))); (case aS => exact (below_size (bm HB))); (case aL => have := LMc19.out; omega); intro v146 w24 ho hb hg hat; rw [← Ny145.out] at ho; have n0_ := Aside0.mk (Kd.R_over' (Kd.rv HO140.out) (Kd.R_typed (Kd.rv HO_5.out)) (by decide) hg); have n1_ := Aside0.mk (Kd.R_after (ok := (fun _ => True)) (Kd.rv HO143.out) hg hat); have n2_ := Aside0.mk (hb); have n3_ := Aside0.mk (ho); clear HO140; clear HO143; clear HB; clear HO_5; have HO140 := n0_; have HO143 := n1_; have HB := n2_; have HO147 := n3_; clear n0_ n1_ n2_ n3_; clear ho hb hg hat))
         go_roundg k2
         case measure => have := HK1.out; have := HK2.out; omega
         case rel => exact ⟨(y145), (wrap64 (x14_1 + 1)), (by first | rfl | (simp; done) | (simp [*]; done)), H', ⟨by have := HK1.out; have := HK2.out; omega⟩, ⟨by (with_reducible repeat (first | apply Kd.R_alloc | apply Kd.R_drewN | apply Kd.R_drew)); exact Kd.R_mono HO147.out (fun _ hk => trivial)⟩, ⟨bm HB⟩⟩
        ·replace c18 := Bool.eq_false_iff.mpr c18
         subst c18
         have H1 : (impl_linesFor.l0 k2 l0 l1 x5_1 ji3 (wrap64 (x14_1 + 1))) = some r := by rw [if_neg (show ¬ (false = true) by decide)] at H; exact H
         clear H
         have H := H1
         clear H1
         have H' := Aside0.mk H
         clear H
         go_wp2_with (first | (go_at_call 56; (with_reducible refine (impl_lineOf.calls k2 x14_1 (l1.length : Int) t138 _ A15.out).mono ?_); rintro e w25 ⟨v139, rfl, ho0, hb⟩; have n0_ := Aside0.mk (Kd.R_below (Kd.rv HO_5.out) hb); have n1_ := Aside0.mk (Kd.R_lower ho0 (below_size (bm HB))); have n2_ := Aside0.mk (below_step (bm HB) hb); clear HO_5; clear HB; have HO_5 := n0_; have HO140 := n1_; have HB := n2_; clear n0_ n1_ n2_; (try clear hb); (try clear hb2); (try clear hk); (try clear hi); (try clear ho0); obtain ⟨Ao26, co26, eo26⟩ := Kd.R_slice HO140.out; subst eo26) | (go_at_call 65; (with_reducible refine (impl_ClueOf.calls k2 _ _ t138 t141 _ ?side1 ?side2 A16.out).mono ?_); (case side1 => repeat (first | exact (Kd.R_reads' HO140.out).2.2 | (with_reducible refine Kd.C_alloc ?_ _) | (with_reducible refine Kd.C_drewN ?_ _) | (with_reducible refine Kd.C_drew ?_))); (case side2 => exact (Kd.R_reads' HO140.out).2.1); rintro e w27 ⟨v142, rfl, ho0, hb⟩; have n0_ := Aside0.mk (Kd.R_elder' (Kd.rv HO_5.out) (Kd.R_base ho0) hb); have n1_ := Aside0.mk (Kd.R_below (Kd.rv HO140.out) hb); have n2_ := Aside0.mk (Kd.R_lower (Kd.R_new' ho0 (Kd.R_lt (Kd.rv HO_5.out))) (below_size (bm HB))); have n3_ := Aside0.mk (below_step (bm HB) hb); clear HO_5; clear HO140; clear HB; have HO_5 := n0_; have HO140 := n1_; have HO143 := n2_; have HB := n3_; clear n0_ n1_ n2_ n3_; (try clear hb); (try clear hb2); (try clear hk); (try clear hi); (try clear ho0); obtain ⟨Ao28, co28, eo28⟩ := Kd.R_slice HO143.out; subst eo28) | (go_at_call 48; (with_reducible refine (slices_Equal_int_int.calls k2 _ _ t141 _ _ l0 false _ ?side1 ?side2 ?side3 ?side4 A17.out).mono ?_); (case side1 => repeat (first | exact (Kd.R_reads' HO143.out).2.2 | (with_reducible refine Kd.C_alloc ?_ _) | (with_reducible refine Kd.C_drewN ?_ _) | (with_reducible refine Kd.C_drew ?_))); (case side2 => exact (Kd.R_reads' HO143.out).2.1); (case side3 => repeat (first | exact (Kd.C_below HR0.out HB.out) | (with_reducible refine Kd.C_alloc ?_ _) | (with_reducible refine Kd.C_drewN ?_ _) | (with_reducible refine Kd.C_drew ?_))); (case side4 => exact HC0.out); rintro e w' ⟨rfl, ⟨nd, rfl⟩⟩))
         go_roundg k2
         case measure => have := HK1.out; have := HK2.out; omega
         case rel => exact ⟨(x5_1), (wrap64 (x14_1 + 1)), (by first | rfl | (simp; done) | (simp [*]; done)), H', ⟨by have := HK1.out; have := HK2.out; omega⟩, ⟨by (with_reducible repeat (first | apply Kd.R_alloc | apply Kd.R_drewN | apply Kd.R_drew)); exact Kd.R_mono HO_5.out (fun _ hk => trivial)⟩, ⟨bm HB⟩⟩
       ·replace c14 := Bool.eq_false_iff.mpr c14
        subst c14
        have H1 : (impl_linesFor.l0 k2 l0 l1 x5_1 ji3 (wrap64 (x14_1 + 1))) = some r := by rw [if_neg (show ¬ (false = true) by decide)] at H; exact H
        clear H
        have H := H1
        clear H1
        have H' := Aside0.mk H
        clear H
        go_wp2
        go_roundg k2
        case measure => have := HK1.out; have := HK2.out; omega
        case rel => exact ⟨(x5_1), (wrap64 (x14_1 + 1)), (by first | rfl | (simp; done) | (simp [*]; done)), H', ⟨by have := HK1.out; have := HK2.out; omega⟩, ⟨Kd.rv HO_5.out⟩, ⟨bm HB⟩⟩
   ·rw [if_neg c6] at H
    have c6b0 : decide (x14_1 < ji3) = false := decide_eq_false c6
    clear c6
    obtain rfl := Option.some.inj H
    go_wp2
    go_ret
    exact ⟨_, by first | rfl | (simp [errW_none, errW_some] <;> rfl) | (simp only [← hji3]; first | rfl | (simp [errW_none, errW_some] <;> rfl)) | (simp [*, errW_none, errW_some] <;> rfl), by (with_reducible repeat (first | apply Kd.R_alloc | apply Kd.R_drewN | apply Kd.R_drew)); exact HO_5.out, bm HB⟩

--@import Derived.Lib.LazyBuf
/-! ### slices_Clone_int_int: function 79 -/
def slices_Clone_int_int.f (l0 : List Int) : Option (List Int) := (some (([] : List Int) : List Int)).bind fun y148 => (if y148.length + l0.length < 17592186044416 then (some (y148 ++ l0)) else (none))
set_option maxHeartbeats 8000000 in
set_option maxRecDepth 100000 in
theorem slices_Clone_int_int.calls (A0 : Option Addr) (c0 : Nat) (l0 : List Int) (r : List Int) (w : World) (hr0 : Kd.C (Kd.int .i64) w A0 l0.length l0) (hc0 : l0.length ≤ c0) (h : slices_Clone_int_int.f l0 = some r) :
  Calls Try.prog 79 #[.slice A0 l0.length c0] w fun e w' => ∃ v0_ : Value, e = .returned (v0_) ∧ Kd.R (Kd.int .i64) 3 w' w.heap.size (fun _ => True) v0_ r ∧ Below w.heap.size w w' := by
 cases A0 with
 | none =>
  have hl : l0 = [] := by
   rcases Nat.eq_zero_or_pos l0.length with h0 | h0
   ·exact List.eq_nil_of_length_eq_zero h0
   ·obtain ⟨ad, e, _⟩ := hr0.2.2 h0
    cases e
  subst hl
  have HB := Aside0.mk (Below.refl w.heap.size w)
  have hr : r = [] := by
   have H : some ([] : List Int) = some r := h
   exact (Option.some.inj H).symm
  subst hr
  clear h hr0 hc0
  have hnil := fun (w_ : World) (a_ : Option Addr) (l_ c_ : Nat) => Go.run_eql_slice_nil (P := Try.prog) w_ 36 3 a_ l_ c_ Try.underlying36
  go_enter Try.func79, Try.ntmps79
  go_wp2
  go_ret
  exact ⟨_, by first | rfl | (simp; done), Kd.R_nil _ _ _ _ _, bm HB⟩
 | some ad0 =>
  have HR0 := Aside0.mk hr0
  have HC0 := Aside0.mk hc0
  clear hr0 hc0
  have HB := Aside0.mk (Below.refl w.heap.size w)
  have H : ((some (([] : List Int) : List Int)).bind fun y148 => (if y148.length + l0.length < 17592186044416 then (some (y148 ++ l0)) else (none))) = some r := h
  clear h
  obtain ⟨y148, hy148⟩ : ∃ y_ : List Int, y_ = (([] : List Int)) := ⟨_, rfl⟩
  replace H : (if y148.length + l0.length < 17592186044416 then (some (y148 ++ l0)) else (none)) = some r := by first | (rw [hy148]; with_reducible exact H) | (have H2_ := (Option.bind_some _ _).symm.trans H; rw [hy148]; with_reducible exact H2_) | (have H2_ := (Option.bind_some _ _).symm.trans H; with_reducible exact H2_) | with_reducible exact H | (rw [hy148]; exact H) | exact H
  have Ny148 := Aside0.mk hy148
  clear hy148
  have q_ := ifs H
  clear H
  obtain ⟨c2, H⟩ := q_
  have LMc2 := Aside0.mk c2
  clear c2
  obtain ⟨y151, hy151⟩ : ∃ y_ : List Int, y_ = (y148 ++ l0) := ⟨_, rfl⟩
  replace H : (some y151) = some r := by first | (rw [hy151]; with_reducible exact H) | (have H2_ := (Option.bind_some _ _).symm.trans H; rw [hy151]; with_reducible exact H2_) | (have H2_ := (Option.bind_some _ _).symm.trans H; with_reducible exact H2_) | with_reducible exact H | (rw [hy151]; exact H) | exact H
  have Ny151 := Aside0.mk hy151
  clear hy151
  obtain rfl := Option.some.inj H
  have hnil := fun (w_ : World) (a_ : Option Addr) (l_ c_ : Nat) => Go.run_eql_slice_nil (P := Try.prog) w_ 36 3 a_ l_ c_ Try.underlying36
  go_enter Try.func79, Try.ntmps79
  go_wp2_with (first | ((with_reducible refine gate_dst (N := 5) rfl ?_); refine Kd.R_lit (Kd.int .i64) _ 3 ?hg (N := 5) ?hd (xs := ([] : List Int)) (inner := []) (ok := fun _ => True) (okp := fun _ => True) ?hr ?hp (fun _ hk => hk) trivial (Below.refl _ _) (Nat.le_refl _) (by simp) ?_; (case hd => rfl); (case hg => rfl); (case hr => first | (go_simp; done) | (go_simp; rfl)); (case hp => exact (Reps.none _ _)); intro v149 w3 ho4 hb hg_ hnew_; clear hg_ hnew_; (first | rw [← Ny148.out] at ho4 | (simp only [Int.reduceToNat] at ho4; rw [← Ny148.out] at ho4)); have n0_ := Aside0.mk (Kd.R_lower ho4 (below_size (bm HB))); have n1_ := Aside0.mk (below_step (bm HB) hb); clear HB; have HO150 := n0_; have HB := n1_; clear n0_ n1_; clear hb ho4) | ((with_reducible refine gate_builtin (b := .append) (xs := #[.tmp 5, .tmp 6]) rfl ?_); at_builtin; refine Kd.R_append_rows (Kd.int .i64) (w0 := w) w.heap.size rfl (.tmp 5) (.tmp 6) 36 3 (.int .i64 0) 8 rfl Try.underlying36 info3 rfl (by decide) (by omega) v149 y148 l0 _ _ _ (fun _ => True) (fun _ => False) rfl rfl ?aO ?aR (fun _ _ h => h) (fun _ h => h.elim) ?aF ?aB ?aS ?aL ?_; (case aR => repeat (first | exact (Kd.C_below HR0.out HB.out) | (with_reducible refine Kd.C_alloc ?_ _) | (with_reducible refine Kd.C_drewN ?_ _) | (with_reducible refine Kd.C_drew ?_))); (case aB => exact (bm HB)); (case aF => exact (fun _ _ => trivial)); (case aO => exact (Kd.rv HO150.out)); (case aS => exact (below_size (bm HB))); (case aL => have := LMc2.out; omega); intro v152 w5 ho hb hg hat; rw [← Ny151.out] at ho; have n0_ := Aside0.mk (hb); have n1_ := Aside0.mk (ho); clear HB; clear HO150; have HB := n0_; have HO153 := n1_; clear n0_ n1_; clear ho hb hg hat))
  go_ret
  exact ⟨_, by first | rfl | (simp [errW_none, errW_some] <;> rfl) | (simp [*, errW_none, errW_some] <;> rfl), by (with_reducible repeat (first | apply Kd.R_alloc | apply Kd.R_drewN | apply Kd.R_drew)); exact HO153.out, bm HB⟩

/-! ### impl_KnownValid: function 77 -/
def impl_KnownValid.l0 : Nat → List Int → List Int → Int → Int → Option (Bool)
 | 0, _, _, _, _ => none
 | k + 1, x0, x5, x6, x7 => if x7 < x6 then (if 0 ≤ x7 then (if x7 < (x5.length : Int) then (if (rd x5 x7) < (-1) then (some false) else (if (rd x5 x7) > 1 then (some false) else (impl_KnownValid.l0 k x0 x5 x6 (wrap64 (x7 + 1))))) else (none)) else (none)) else (if (x0.length : Int) ≥ 1 then (some (decide ((x0.length : Int) ≤ 8))) else (some false))
def impl_KnownValid.f (k : Nat) (l0 : List Int) : Option (Bool) := impl_KnownValid.l0 k l0 l0 (l0.length : Int) 0
theorem impl_KnownValid.mono_l : ∀ k, (∀ y0 y1 y2 y3, LeO (impl_KnownValid.l0 k y0 y1 y2 y3) (impl_KnownValid.l0 (k + 1) y0 y1 y2 y3))
 | 0 => fun _ _ _ _ r h => by simp [impl_KnownValid.l0] at h
 | k + 1 => by
  have ih0 := impl_KnownValid.mono_l k
  ·intro y0 y1 y2 y3
   unfold impl_KnownValid.l0
   repeat' first
   | (with_reducible exact ih0 _ _ _ _)
   | (with_reducible exact LeO.refl _)
   | (with_reducible exact LeO.none _)
   | (with_reducible refine LeO.ite ?_ ?_)
   | (with_reducible refine LeO.bind ?_ (fun _ => ?_))
   | exact LeO.none _
   | refine LeO.ite ?_ ?_
   | refine LeO.bind ?_ (fun _ => ?_)
theorem impl_KnownValid.mono : ∀ a0 k, LeO (impl_KnownValid.f k a0) (impl_KnownValid.f (k + 1) a0) := by
 intro a0 k
 have ih0 := impl_KnownValid.mono_l k
 unfold impl_KnownValid.f
 repeat' first
   | (with_reducible exact ih0 _ _ _ _)
   | (with_reducible exact LeO.refl _)
   | (with_reducible exact LeO.none _)
   | (with_reducible refine LeO.ite ?_ ?_)
   | (with_reducible refine LeO.bind ?_ (fun _ => ?_))
   | exact LeO.none _
   | refine LeO.ite ?_ ?_
   | refine LeO.bind ?_ (fun _ => ?_)
set_option maxHeartbeats 8000000 in
set_option maxRecDepth 100000 in
theorem impl_KnownValid.calls (k : Nat) (A0 : Option Addr) (c0 : Nat) (l0 : List Int) (r : Bool) (w : World) (hr0 : Kd.C (Kd.int .i64) w A0 l0.length l0) (hc0 : l0.length ≤ c0) (h : impl_KnownValid.f k l0 = some r) :
  Calls Try.prog 77 #[.slice A0 l0.length c0] w fun e w' => e = .returned (.bool r) ∧ Drawn0 w w' := by
 have HR0 := Aside0.mk hr0
 have HC0 := Aside0.mk hc0
 clear hr0 hc0
 have H : (impl_KnownValid.l0 k l0 l0 (l0.length : Int) 0) = some r := h
 clear h
 have H' := Aside0.mk H
 clear H
 go_enter Try.func77, Try.ntmps77
 go_wp2
 go_loopg [7] k (fun kq v7 w' => ∃ (x7_1 : Int), v7 = .int .i64 x7_1 ∧ Aside0 (impl_KnownValid.l0 kq l0 l0 (l0.length : Int) x7_1 = some r) ∧ Aside0 (kq ≤ k) ∧ Drawn0 w w')
 case atStart => exact ⟨(0), (by first | rfl | (simp; done) | (simp [*]; done)), H', ⟨Nat.le_refl _⟩, by repeat (first | exact Drawn0.refl _ | apply Drawn0.step)⟩
 case round =>
  clear H'
  obtain ⟨x7_1, rfl, HA, HK1, ⟨m1, rfl⟩⟩ := hrel
  cases gk with
  | zero => exact absurd HA.out (by simp [impl_KnownValid.l0])
  | succ k1 =>
   have H := HA.out
   clear HA
   simp only [impl_KnownValid.l0] at H
   by_cases c2 : x7_1 < (l0.length : Int)
   ·rw [if_pos c2] at H
    have c2b0 : decide (x7_1 < (l0.length : Int)) = true := decide_eq_true c2
    clear c2
    have q_ := ifs H
    clear H
    obtain ⟨c3, H⟩ := q_
    have c3b0 : decide (0 ≤ x7_1) = true := decide_eq_true c3
    clear c3
    have q_ := ifs H
    clear H
    obtain ⟨c4, H⟩ := q_
    have c4b0 : decide (x7_1 < (l0.length : Int)) = true := decide_eq_true c4
    clear c4
    by_cases c5 : (rd l0 x7_1) < (-1)
    ·rw [if_pos c5] at H
     have c5b0 : decide ((rd l0 x7_1) < (-1)) = true := decide_eq_true c5
     clear c5
     obtain rfl := Option.some.inj H
     have p154 : 0 ≤ (x7_1 : Int) := of_decide_eq_true (by first | (with_reducible assumption) | assumption)
     have q154 : x7_1 < (l0.length : Int) := of_decide_eq_true (by first | (with_reducible assumption) | assumption)
     obtain ⟨ad154, e154, hx154_0⟩ := Kd.at_int HR0.out x7_1 p154 q154
     cases e154
     replace p154 := eq_true p154
     replace q154 := eq_true q154
     go_wp2
     go_ret
     exact ⟨by first | rfl | (simp; done) | (simp [*]; done), by repeat (first | exact Drawn0.refl _ | apply Drawn0.step)⟩
    ·rw [if_neg c5] at H
     have c5b0 : decide ((rd l0 x7_1) < (-1)) = false := decide_eq_false c5
     clear c5
     by_cases c6 : (rd l0 x7_1) > 1
     ·rw [if_pos c6] at H
      have c6b0 : decide (1 < (rd l0 x7_1)) = true := decide_eq_true c6
      clear c6
      obtain rfl := Option.some.inj H
      have p154 : 0 ≤ (x7_1 : Int) := of_decide_eq_true (by first | (with_reducible assumption) | assumption)
      have q154 : x7_1 < (l0.length : Int) := of_decide_eq_true (by first | (with_reducible assumption) | assumption)
      obtain ⟨ad154, e154, hx154_0⟩ := Kd.at_int HR0.out x7_1 p154 q154
      cases e154
      replace p154 := eq_true p154
      replace q154 := eq_true q154
      go_wp2
      go_ret
      exact ⟨by first | rfl | (simp; done) | (simp [*]; done), by repeat (first | exact Drawn0.refl _ | apply Drawn0.step)⟩
     ·rw [if_neg c6] at H
      have c6b0 : decide (1 < (rd l0 x7_1)) = false := decide_eq_false c6
      clear c6
      have H' := Aside0.mk H
      clear H
      have p154 : 0 ≤ (x7_1 : Int) := of_decide_eq_true (by first | (with_reducible assumption) | assumption)
      have q154 : x7_1 < (l0.length : Int) := of_decide_eq_true (by first | (with_reducible assumption) | assumption)
      obtain ⟨ad154, e154, hx154_0⟩ := Kd.at_int HR0.out x7_1 p154 q154
      cases e154
      replace p154 := eq_true p154
      replace q154 := eq_true q154
      go_wp2
      go_roundg k1
      case measure => have := HK1.out; omega
      case rel => exact ⟨(wrap64 (x7_1 + 1)), (by first | rfl | (simp; done) | (simp [*]; done)), H', ⟨by have := HK1.out; omega⟩, by repeat (first | exact Drawn0.refl _ | apply Drawn0.step)⟩
   ·rw [if_neg c2] at H
    have c2b0 : decide (x7_1 < (l0.length : Int)) = false := decide_eq_false c2
    clear c2
    by_cases c7 : (l0.length : Int) ≥ 1
    ·rw [if_pos c7] at H
     have c7b0 : decide (1 ≤ (l0.length : Int)) = true := decide_eq_true c7
     have c7b1 : decide (1 ≤ l0.length) = true := decide_eq_true (by omega)
     clear c7
     obtain rfl := Option.some.inj H
     go_wp2
     go_ret
     exact ⟨by first | rfl | (simp; done) | (simp [*]; done), by repeat (first | exact Drawn0.refl _ | apply Drawn0.step)⟩
    ·rw [if_neg c7] at H
     have c7b0 : decide (1 ≤ (l0.length : Int)) = false := decide_eq_false c7
     have c7b1 : decide (1 ≤ l0.length) = false := decide_eq_false (by omega)
     clear c7
     obtain rfl := Option.some.inj H
     go_wp2
     go_ret
     exact ⟨by first | rfl | (simp; done) | (simp [*]; done), by repeat (first | exact Drawn0.refl _ | apply Drawn0.step)⟩

/-! ### impl_LineWays: function 85 -/
def impl_LineWays.f (k : Nat) (l0 : List Int) (l1 : List Int) : Option (Int) := (impl_KnownValid.f k l1).bind fun t155 => (if t155 = true then ((impl_ClueValid.f k l0 (l1.length : Int)).bind fun t156 => (if t156 = true then ((impl_linesFor.f k l0 l1).bind fun t157 => (some (t157.length : Int))) else (some (-1)))) else (some (-1)))
theorem impl_LineWays.mono : ∀ a0 a1 k, LeO (impl_LineWays.f k a0 a1) (impl_LineWays.f (k + 1) a0 a1) := by
 intro a0 a1 k
 unfold impl_LineWays.f
 repeat' first
   | (with_reducible exact impl_ClueValid.mono _ _ _)
   | (with_reducible exact impl_KnownValid.mono _ _)
   | (with_reducible exact impl_linesFor.mono _ _ _)
   | (with_reducible exact LeO.refl _)
   | (with_reducible exact LeO.none _)
   | (with_reducible refine LeO.ite ?_ ?_)
   | (with_reducible refine LeO.bind ?_ (fun _ => ?_))
   | exact LeO.none _
   | refine LeO.ite ?_ ?_
   | refine LeO.bind ?_ (fun _ => ?_)
set_option maxHeartbeats 8000000 in
set_option maxRecDepth 100000 in
theorem impl_LineWays.calls (k : Nat) (A0 : Option Addr) (c0 : Nat) (l0 : List Int) (A1 : Option Addr) (c1 : Nat) (l1 : List Int) (r : Int) (w : World) (hr0 : Kd.C (Kd.int .i64) w A0 l0.length l0) (hc0 : l0.length ≤ c0) (hr1 : Kd.C (Kd.int .i64) w A1 l1.length l1) (hc1 : l1.length ≤ c1) (h : impl_LineWays.f k l0 l1 = some r) :
  Calls Try.prog 85 #[.slice A0 l0.length c0, .slice A1 l1.length c1] w fun e w' => e = .returned (.int .i64 r) ∧ Below w.heap.size w w' := by
 have HR0 := Aside0.mk hr0
 have HC0 := Aside0.mk hc0
 clear hr0 hc0
 have HR1 := Aside0.mk hr1
 have HC1 := Aside0.mk hc1
 clear hr1 hc1
 have HB := Aside0.mk (Below.refl w.heap.size w)
 have H : ((impl_KnownValid.f k l1).bind fun t155 => (if t155 = true then ((impl_ClueValid.f k l0 (l1.length : Int)).bind fun t156 => (if t156 = true then ((impl_linesFor.f k l0 l1).bind fun t157 => (some (t157.length : Int))) else (some (-1)))) else (some (-1)))) = some r := h
 clear h
 replace H := Option.bind_eq_some_iff.mp H
 obtain ⟨t155, A30, H⟩ := H
 replace H : (if t155 = true then ((impl_ClueValid.f k l0 (l1.length : Int)).bind fun t156 => (if t156 = true then ((impl_linesFor.f k l0 l1).bind fun t157 => (some (t157.length : Int))) else (some (-1)))) else (some (-1))) = some r := H
 have A3 := Aside0.mk A30
 clear A30
 by_cases c4 : t155 = true
 ·subst c4
  have H1 : ((impl_ClueValid.f k l0 (l1.length : Int)).bind fun t156 => (if t156 = true then ((impl_linesFor.f k l0 l1).bind fun t157 => (some (t157.length : Int))) else (some (-1)))) = some r := by rw [if_pos rfl] at H; exact H
  clear H
  have H := H1
  clear H1
  replace H := Option.bind_eq_some_iff.mp H
  obtain ⟨t156, A50, H⟩ := H
  replace H : (if t156 = true then ((impl_linesFor.f k l0 l1).bind fun t157 => (some (t157.length : Int))) else (some (-1))) = some r := H
  have A5 := Aside0.mk A50
  clear A50
  by_cases c6 : t156 = true
  ·subst c6
   have H1 : ((impl_linesFor.f k l0 l1).bind fun t157 => (some (t157.length : Int))) = some r := by rw [if_pos rfl] at H; exact H
   clear H
   have H := H1
   clear H1
   replace H := Option.bind_eq_some_iff.mp H
   obtain ⟨t157, A70, H⟩ := H
   replace H : (some (t157.length : Int)) = some r := H
   have A7 := Aside0.mk A70
   clear A70
   obtain rfl := Option.some.inj H
   go_enter Try.func85, Try.ntmps85
   go_wp2_with (first | ((with_reducible refine gate_callee (f := 77) rfl ?_); refine goesL_ (some 6) rfl rfl Try.func77 (by kernel_rfl) rfl #[.slice A1 l1.length c1] rfl (by (try simp only [List.map_toArray, List.map_cons, List.map_nil]); first | done | rfl | (simp only [List.length_drop, List.length_take]; rfl)) ?_; (with_reducible refine (impl_KnownValid.calls k _ _ l1 true _ ?side1 ?side2 A3.out).mono ?_); (case side1 => repeat (first | exact HR1.out | (with_reducible refine Kd.C_alloc ?_ _) | (with_reducible refine Kd.C_drewN ?_ _) | (with_reducible refine Kd.C_drew ?_))); (case side2 => exact HC1.out); rintro e w' ⟨rfl, ⟨nd, rfl⟩⟩; refine ⟨_, rfl, ?_⟩) | (go_at_call 59; (with_reducible refine (impl_ClueValid.calls k _ _ l0 (l1.length : Int) true _ ?side1 ?side2 A5.out).mono ?_); (case side1 => repeat (first | exact HR0.out | (with_reducible refine Kd.C_alloc ?_ _) | (with_reducible refine Kd.C_drewN ?_ _) | (with_reducible refine Kd.C_drew ?_))); (case side2 => exact HC0.out); rintro e w' ⟨rfl, ⟨nd, rfl⟩⟩) | ((with_reducible refine gate_callee (f := 78) rfl ?_); refine goesL_ (some 17) rfl rfl Try.func78 (by kernel_rfl) rfl #[.slice A0 l0.length c0, .slice A1 l1.length c1] rfl (by (try simp only [List.map_toArray, List.map_cons, List.map_nil]); first | done | rfl | (simp only [List.length_drop, List.length_take]; rfl)) ?_; (with_reducible refine (impl_linesFor.calls k _ _ l0 _ _ l1 t157 _ ?side1 ?side2 ?side3 ?side4 A7.out).mono ?_); (case side1 => repeat (first | exact HR0.out | (with_reducible refine Kd.C_alloc ?_ _) | (with_reducible refine Kd.C_drewN ?_ _) | (with_reducible refine Kd.C_drew ?_))); (case side2 => exact HC0.out); (case side3 => repeat (first | exact HR1.out | (with_reducible refine Kd.C_alloc ?_ _) | (with_reducible refine Kd.C_drewN ?_ _) | (with_reducible refine Kd.C_drew ?_))); (case side4 => exact HC1.out); rintro e w8 ⟨v158, rfl, ho0, hb⟩; refine ⟨_, rfl, ?_⟩; have n0_ := Aside0.mk (Kd.R_lower ho0 (below_size (bm HB))); have n1_ := Aside0.mk (below_step (bm HB) hb); clear HB; have HO159 := n0_; have HB := n1_; clear n0_ n1_; (try clear hb); (try clear hb2); (try clear hk); (try clear hi); (try clear ho0); obtain ⟨Ao9, co9, eo9⟩ := Kd.R_slice HO159.out; subst eo9))
   go_ret
   exact ⟨by first | rfl | (simp [errW_none, errW_some] <;> rfl) | (simp [*, errW_none, errW_some] <;> rfl), bm HB⟩
  ·replace c6 := Bool.eq_false_iff.mpr c6
   subst c6
   have H1 : (some (-1)) = some r := by rw [if_neg (show ¬ (false = true) by decide)] at H; exact H
   clear H
   have H := H1
   clear H1
   obtain rfl := Option.some.inj H
   go_enter Try.func85, Try.ntmps85
   go_wp2_with (first | ((with_reducible refine gate_callee (f := 77) rfl ?_); refine goesL_ (some 6) rfl rfl Try.func77 (by kernel_rfl) rfl #[.slice A1 l1.length c1] rfl (by (try simp only [List.map_toArray, List.map_cons, List.map_nil]); first | done | rfl | (simp only [List.length_drop, List.length_take]; rfl)) ?_; (with_reducible refine (impl_KnownValid.calls k _ _ l1 true _ ?side1 ?side2 A3.out).mono ?_); (case side1 => repeat (first | exact HR1.out | (with_reducible refine Kd.C_alloc ?_ _) | (with_reducible refine Kd.C_drewN ?_ _) | (with_reducible refine Kd.C_drew ?_))); (case side2 => exact HC1.out); rintro e w' ⟨rfl, ⟨nd, rfl⟩⟩; refine ⟨_, rfl, ?_⟩) | (go_at_call 59; (with_reducible refine (impl_ClueValid.calls k _ _ l0 (l1.length : Int) false _ ?side1 ?side2 A5.out).mono ?_); (case side1 => repeat (first | exact HR0.out | (with_reducible refine Kd.C_alloc ?_ _) | (with_reducible refine Kd.C_drewN ?_ _) | (with_reducible refine Kd.C_drew ?_))); (case side2 => exact HC0.out); rintro e w' ⟨rfl, ⟨nd, rfl⟩⟩))
   go_ret
   exact ⟨by first | rfl | (simp [errW_none, errW_some] <;> rfl) | (simp [*, errW_none, errW_some] <;> rfl), bm HB⟩
 ·replace c4 := Bool.eq_false_iff.mpr c4
  subst c4
  have H1 : (some (-1)) = some r := by rw [if_neg (show ¬ (false = true) by decide)] at H; exact H
  clear H
  have H := H1
  clear H1
  obtain rfl := Option.some.inj H
  go_enter Try.func85, Try.ntmps85
  go_wp2_with (first | ((with_reducible refine gate_callee (f := 77) rfl ?_); refine goesL_ (some 6) rfl rfl Try.func77 (by kernel_rfl) rfl #[.slice A1 l1.length c1] rfl (by (try simp only [List.map_toArray, List.map_cons, List.map_nil]); first | done | rfl | (simp only [List.length_drop, List.length_take]; rfl)) ?_; (with_reducible refine (impl_KnownValid.calls k _ _ l1 false _ ?side1 ?side2 A3.out).mono ?_); (case side1 => repeat (first | exact HR1.out | (with_reducible refine Kd.C_alloc ?_ _) | (with_reducible refine Kd.C_drewN ?_ _) | (with_reducible refine Kd.C_drew ?_))); (case side2 => exact HC1.out); rintro e w' ⟨rfl, ⟨nd, rfl⟩⟩; refine ⟨_, rfl, ?_⟩))
  go_ret
  exact ⟨by first | rfl | (simp [errW_none, errW_some] <;> rfl) | (simp [*, errW_none, errW_some] <;> rfl), bm HB⟩

-- NOT PRINTED: function 84 (impl_firstPictures_1)

end Go.Proofs.Ytapnohcfnclleaa.PFnPictureFirst
