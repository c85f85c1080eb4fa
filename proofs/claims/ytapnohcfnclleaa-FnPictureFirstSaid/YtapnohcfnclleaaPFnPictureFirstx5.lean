-- Made by a program of this session (the kit print, shortened): the kit print itself does not give this text
import Derived.Test.YtapnohcfnclleaaV4
import Derived.Test.YtapnohcfnclleaaPFnPictureFirstx0
import Derived.Test.YtapnohcfnclleaaPFnPictureFirstx2
import Derived.Test.YtapnohcfnclleaaPFnPictureFirstx4
import Derived.Test.YtapnohcfnclleaaV3
namespace Go.Proofs.Ytapnohcfnclleaa.PFnPictureFirst
open Go.RowKit Go.Proofs.YtapnohcfnclleaaW.PrintWords Go.Proofs.YtapnohcfnclleaaW.PrintLast Go.Proofs.YtapnohcfnclleaaW.PrintMore
attribute [local go_sem] max2_int min2_int max_two min_two max_three min_three max_four min_four   -- for this text's walks alone
set_option linter.unusedVariables false
set_option linter.unusedSimpArgs false

/-! ### impl_PictureFirst: function 20 -/
--@import Derived.Test.YtapnohcfnclleaaV3
open Go.Proofs.Ytapnohcfnclleaa.My
def impl_PictureFirst.l0 : Nat → List (List Bool) → List Int → Int → Int → List (List Int) → List (List Int) → Option ((List (List Bool)) × Bool)
 | 0, _, _, _, _, _, _ => none
 | k + 1, x5, x19, x20, x21, y0, y1 => if x21 < x20 then (if 0 ≤ x21 then (if x21 < (x19.length : Int) then ((impl_lineOf.f k (rd x19 x21) (y1.length : Int)).bind fun t => (if x5.length < 5864062014805 then (impl_PictureFirst.l0 k (x5 ++ [t]) x19 x20 (wrap64 (x21 + 1)) y0 y1) else (none))) else (none)) else (none)) else (some (x5, true))
def impl_PictureFirst.f (k : Nat) (l0_0 : List (List Int)) (l0_1 : List (List Int)) : Option ((List (List Bool)) × Bool) := (impl_PictureValid.f k l0_0 l0_1).bind fun t => (if t = true then ((impl_firstPictures.f k l0_0 l0_1 1).bind fun q => (if (q.length : Int) = 0 then (some (([] : List (List Bool)), false)) else (if 0 < (q.length : Int) then (impl_PictureFirst.l0 k (([] : List (List Bool))) (rd_L1 q 0) ((rd_L1 q 0).length : Int) 0 l0_0 l0_1) else (none)))) else (some (([] : List (List Bool)), false)))
theorem impl_PictureFirst.mono_l : ∀ k, (∀ y0 y1 y2 y3 y4 y5, LeO (impl_PictureFirst.l0 k y0 y1 y2 y3 y4 y5) (impl_PictureFirst.l0 (k + 1) y0 y1 y2 y3 y4 y5))
 | 0 => fun _ _ _ _ _ _ r h => by simp [impl_PictureFirst.l0] at h
 | k + 1 => by
  have ih0 := impl_PictureFirst.mono_l k
  ·intro y0 y1 y2 y3 y4 y5
   unfold impl_PictureFirst.l0
   repeat' first
   | (with_reducible exact ih0 _ _ _ _ _ _)
   | (with_reducible exact impl_PictureValid.mono _ _ _)
   | (with_reducible exact impl_firstPictures.mono _ _ _ _)
   | (with_reducible exact impl_lineOf.mono _ _ _)
   | (with_reducible exact LeO.refl _)
   | (with_reducible exact LeO.none _)
   | (with_reducible refine LeO.ite ?_ ?_)
   | (with_reducible refine LeO.bind ?_ (fun _ => ?_))
   | exact LeO.none _
   | refine LeO.ite ?_ ?_
   | refine LeO.bind ?_ (fun _ => ?_)
theorem impl_PictureFirst.mono : ∀ a0 a1 k, LeO (impl_PictureFirst.f k a0 a1) (impl_PictureFirst.f (k + 1) a0 a1) := by
 intro a0 a1 k
 have ih0 := impl_PictureFirst.mono_l k
 unfold impl_PictureFirst.f
 repeat' first
   | (with_reducible exact ih0 _ _ _ _ _ _)
   | (with_reducible exact impl_PictureValid.mono _ _ _)
   | (with_reducible exact impl_firstPictures.mono _ _ _ _)
   | (with_reducible exact impl_lineOf.mono _ _ _)
   | (with_reducible exact LeO.refl _)
   | (with_reducible exact LeO.none _)
   | (with_reducible refine LeO.ite ?_ ?_)
   | (with_reducible refine LeO.bind ?_ (fun _ => ?_))
   | exact LeO.none _
   | refine LeO.ite ?_ ?_
   | refine LeO.bind ?_ (fun _ => ?_)
set_option maxHeartbeats 8000000 in
set_option maxRecDepth 100000 in
theorem impl_PictureFirst.calls (k : Nat) (A0_0 : Option Addr) (c0_0 : Nat) (l0_0 : List (List Int)) (A0_1 : Option Addr) (c0_1 : Nat) (l0_1 : List (List Int)) (r1 : List (List Bool)) (r2 : Bool) (w : World) (hr0_0 : Kd.C (Kd.slice 3 (Kd.int .i64)) w A0_0 l0_0.length l0_0) (hc0_0 : l0_0.length ≤ c0_0) (hr0_1 : Kd.C (Kd.slice 3 (Kd.int .i64)) w A0_1 l0_1.length l0_1) (hc0_1 : l0_1.length ≤ c0_1) (h : impl_PictureFirst.f k l0_0 l0_1 = some (r1, r2)) :
  Calls Try.prog 20 #[.agg #[.slice A0_0 l0_0.length c0_0, .slice A0_1 l0_1.length c0_1]] w fun e w' => ∃ v0_ : Value, e = .returned (.tuple #[v0_, .bool r2]) ∧ Kd.R (Kd.slice 4 Kd.bool) 37 w' w.heap.size (fun _ => True) v0_ r1 ∧ Below w.heap.size w w' := by
 have hu25 := Try.underlying25
 have hi37 : (Try.prog.info? 37).map (fun i => (i.zero, i.size, i.bytes)) = some (some (.slice none 0 0), 1, 24) := by kernel_rfl
 obtain ⟨t, ht, h⟩ := Option.bind_eq_some_iff.mp h
 have HT := Aside0.mk ht
 have HR0 := Aside0.mk hr0_0
 have HR1 := Aside0.mk hr0_1
 clear ht hr0_0 hr0_1
 obtain ⟨W1, hW1⟩ : ∃ W1 : World, W1 = w.alloc (Obj.cells #[.slice A0_0 l0_0.length c0_0, .slice A0_1 l0_1.length c0_1] 25) := ⟨_, rfl⟩
 have HW1 := Aside0.mk hW1
 have HGP : Aside0 (W1.heap[w.heap.size]? = some (Obj.cells #[.slice A0_0 l0_0.length c0_0, .slice A0_1 l0_1.length c0_1] 25 (0, 0))) := ⟨by rw [hW1]; exact blk_new _ _⟩
 have HBW : Aside0 (Below w.heap.size w W1) := ⟨by rw [hW1]; exact (Below.refl _ _).alloc (Nat.le_refl _) _⟩
 have cb00 : (w.alloc (Obj.cells #[.slice A0_0 l0_0.length c0_0, .slice A0_1 l0_1.length c0_1] 25)).cell? ⟨w.heap.size, 0, none⟩ = some (.slice A0_0 l0_0.length c0_0) := blk_cell (blk_new _ _) 0
 have cb01 : (w.alloc (Obj.cells #[.slice A0_0 l0_0.length c0_0, .slice A0_1 l0_1.length c0_1] 25)).cell? ⟨w.heap.size, 1, none⟩ = some (.slice A0_1 l0_1.length c0_1) := blk_cell (blk_new _ _) 1
 clear hW1
 cases t with
 | false =>
  rw [if_neg (by decide)] at h
  simp only [Option.some.injEq, Prod.mk.injEq] at h
  obtain ⟨rfl, rfl⟩ := h
  go_enter Try.func20, Try.ntmps20
  go_wp2_with (first | ((with_reducible refine gate_callee (f := 24) rfl ?_); (try rw [← HW1.out]); refine goesL_ (some 9) rfl rfl Try.func24 (by kernel_rfl) rfl #[.agg #[.slice A0_0 l0_0.length c0_0, .slice A0_1 l0_1.length c0_1]] rfl (by (try simp only [List.map_toArray, List.map_cons, List.map_nil]); first | done | rfl) ?_; (with_reducible refine (impl_PictureValid.calls k A0_0 c0_0 l0_0 A0_1 c0_1 l0_1 _ _ (Kd.C_below HR0.out HBW.out) hc0_0 (Kd.C_below HR1.out HBW.out) hc0_1 HT.out).mono ?_); rintro e wb ⟨rfl, hd⟩; have HB1 := Aside0.mk (below_step HBW.out hd); have HGb := Aside0.mk ((hd.block _ (lt_of_some HGP.out)).trans HGP.out); have cpb0 : wb.cell? ⟨w.heap.size, 0, none⟩ = some (.slice A0_0 l0_0.length c0_0) := blk_cell HGb.out 0; have cpb1 : wb.cell? ⟨w.heap.size, 1, none⟩ = some (.slice A0_1 l0_1.length c0_1) := blk_cell HGb.out 1; clear hd; refine ⟨_, rfl, ?_⟩))
  go_ret2
  exact ⟨_, rfl, Kd.R_nil _ _ _ _ _, HB1.out⟩
 | true =>
  rw [if_pos rfl] at h
  obtain ⟨q, hq, h⟩ := Option.bind_eq_some_iff.mp h
  have HQ := Aside0.mk hq
  clear hq
  by_cases c3 : (q.length : Int) = 0
  ·rw [if_pos c3] at h
   have c3b0 : ((q.length : Int) == 0) = true := beq_iff_eq.mpr c3
   have c3b1 : (q.length == 0) = true := beq_iff_eq.mpr (by omega)
   simp only [Option.some.injEq, Prod.mk.injEq] at h
   obtain ⟨rfl, rfl⟩ := h
   have c3b2 : q = [] := List.eq_nil_of_length_eq_zero (by omega)
   clear c3 c3b2
   go_enter Try.func20, Try.ntmps20
   go_wp2_with (first | ((with_reducible refine gate_callee (f := 24) rfl ?_); (try rw [← HW1.out]); refine goesL_ (some 9) rfl rfl Try.func24 (by kernel_rfl) rfl #[.agg #[.slice A0_0 l0_0.length c0_0, .slice A0_1 l0_1.length c0_1]] rfl (by (try simp only [List.map_toArray, List.map_cons, List.map_nil]); first | done | rfl) ?_; (with_reducible refine (impl_PictureValid.calls k A0_0 c0_0 l0_0 A0_1 c0_1 l0_1 _ _ (Kd.C_below HR0.out HBW.out) hc0_0 (Kd.C_below HR1.out HBW.out) hc0_1 HT.out).mono ?_); rintro e wb ⟨rfl, hd⟩; have HB1 := Aside0.mk (below_step HBW.out hd); have HGb := Aside0.mk ((hd.block _ (lt_of_some HGP.out)).trans HGP.out); have cpb0 : wb.cell? ⟨w.heap.size, 0, none⟩ = some (.slice A0_0 l0_0.length c0_0) := blk_cell HGb.out 0; have cpb1 : wb.cell? ⟨w.heap.size, 1, none⟩ = some (.slice A0_1 l0_1.length c0_1) := blk_cell HGb.out 1; clear hd; refine ⟨_, rfl, ?_⟩) | ((with_reducible refine gate_callee (f := 54) rfl ?_); refine goesL_ (some 12) rfl rfl Try.func54 (by kernel_rfl) rfl #[.agg #[.slice A0_0 l0_0.length c0_0, .slice A0_1 l0_1.length c0_1], .int .i64 1] rfl (by (try simp only [List.map_toArray, List.map_cons, List.map_nil]); first | done | rfl) ?_; (with_reducible refine (impl_firstPictures.calls k A0_0 c0_0 l0_0 A0_1 c0_1 l0_1 1 q _ (Kd.C_below HR0.out HB1.out) hc0_0 (Kd.C_below HR1.out HB1.out) hc0_1 HQ.out).mono ?_); rintro e wc ⟨v12, rfl, hv, hd⟩; obtain ⟨A12, c12, e12⟩ := Kd.R_slice hv; subst e12; have HO12 := Aside0.mk hv; have HB2 := Aside0.mk (below_step HB1.out hd); have HGc := Aside0.mk ((hd.block _ (lt_of_some HGb.out)).trans HGb.out); clear hv hd; refine ⟨_, rfl, ?_⟩))
   go_ret2
   exact ⟨_, rfl, Kd.R_nil _ _ _ _ _, HB2.out⟩
  ·rw [if_neg c3] at h
   have c3b0 : ((q.length : Int) == 0) = false := beq_eq_false_iff_ne.mpr c3
   have c3b1 : (q.length == 0) = false := beq_eq_false_iff_ne.mpr (by omega)
   have c3b3 : ¬ q = [] := fun e => c3 (by rw [e]; rfl)
   by_cases c4 : 0 < (q.length : Int)
   ·rw [if_pos c4] at h
    have c4b0 : decide (0 < (q.length : Int)) = true := decide_eq_true c4
    have c4b1 : decide (0 < q.length) = true := decide_eq_true (by omega)
    have c4b2 : 0 < q.length := by omega
    have eg : rd_L1 q 0 = q[0] := by simp [rd_L1, List.getD_eq_getElem?_getD, c4b2]
    rw [eg] at h
    obtain ⟨g, hg⟩ : ∃ g : List Int, g = q[0] := ⟨_, rfl⟩
    rw [← hg] at h
    have EG := Aside0.mk hg
    have H' := Aside0.mk h
    clear h hg eg c3 c4
    go_enter Try.func20, Try.ntmps20
    go_wp2_with (first | ((with_reducible refine gate_callee (f := 24) rfl ?_); (try rw [← HW1.out]); refine goesL_ (some 9) rfl rfl Try.func24 (by kernel_rfl) rfl #[.agg #[.slice A0_0 l0_0.length c0_0, .slice A0_1 l0_1.length c0_1]] rfl (by (try simp only [List.map_toArray, List.map_cons, List.map_nil]); first | done | rfl) ?_; (with_reducible refine (impl_PictureValid.calls k A0_0 c0_0 l0_0 A0_1 c0_1 l0_1 _ _ (Kd.C_below HR0.out HBW.out) hc0_0 (Kd.C_below HR1.out HBW.out) hc0_1 HT.out).mono ?_); rintro e wb ⟨rfl, hd⟩; have HB1 := Aside0.mk (below_step HBW.out hd); have HGb := Aside0.mk ((hd.block _ (lt_of_some HGP.out)).trans HGP.out); have cpb0 : wb.cell? ⟨w.heap.size, 0, none⟩ = some (.slice A0_0 l0_0.length c0_0) := blk_cell HGb.out 0; have cpb1 : wb.cell? ⟨w.heap.size, 1, none⟩ = some (.slice A0_1 l0_1.length c0_1) := blk_cell HGb.out 1; clear hd; refine ⟨_, rfl, ?_⟩) | ((with_reducible refine gate_callee (f := 54) rfl ?_); refine goesL_ (some 12) rfl rfl Try.func54 (by kernel_rfl) rfl #[.agg #[.slice A0_0 l0_0.length c0_0, .slice A0_1 l0_1.length c0_1], .int .i64 1] rfl (by (try simp only [List.map_toArray, List.map_cons, List.map_nil]); first | done | rfl) ?_; (with_reducible refine (impl_firstPictures.calls k A0_0 c0_0 l0_0 A0_1 c0_1 l0_1 1 q _ (Kd.C_below HR0.out HB1.out) hc0_0 (Kd.C_below HR1.out HB1.out) hc0_1 HQ.out).mono ?_); rintro e wc ⟨v12, rfl, hv, hd⟩; obtain ⟨A12, c12, e12⟩ := Kd.R_slice hv; subst e12; have HO12 := Aside0.mk hv; have HB2 := Aside0.mk (below_step HB1.out hd); have HGc := Aside0.mk ((hd.block _ (lt_of_some HGb.out)).trans HGb.out); clear hv hd; refine ⟨_, rfl, ?_⟩) | ((with_reducible refine gate_dst (N := 16) rfl ?_); refine Kd.R_lit (Kd.slice 4 Kd.bool) _ 37 ?hg (N := 16) ?hd (xs := ([] : List (List Bool))) (inner := []) (ok := fun _ => True) (okp := fun _ => True) ?hr ?hp (fun _ hk => hk) trivial (Below.refl _ _) (Nat.le_refl _) (by simp) ?_; (case hd => rfl); (case hg => rfl); (case hr => first | (go_simp; done) | (go_simp; rfl)); (case hp => exact (Reps.none _ _)); intro v16 w3 ho hb hg_ hnew_; have HO16 := Aside0.mk (Kd.R_lower ho HB2.out.size); have HB3 := Aside0.mk (below_step HB2.out hb); have HG3 := Aside0.mk ((hb.block _ (lt_of_some HGc.out)).trans HGc.out); obtain ⟨ad, A19, c19, ead, hcell, hRg⟩ := row_at HO12.out 0 (by omega); subst ead; rw [← EG.out] at hcell hRg; rw [show ad.add 0 = ad from by cases ad; simp [Addr.add]] at hcell; have hcell3 := (hb.cell (World.block_lt_of_cell? _ _ hcell)).trans hcell; have HRG := Aside0.mk (Kd.R_below hRg hb); clear hcell hRg ho hb hg_ hnew_))
    go_loopg [5, 21] k (fun kq v5 v21 w' => ∃ (x5 : List (List Bool)) (i : Int), v21 = .int .i64 i ∧ Aside0 (impl_PictureFirst.l0 kq x5 g (g.length : Int) i l0_0 l0_1 = some (r1, r2)) ∧ Aside0 (kq ≤ k) ∧ Aside0 (Kd.R (Kd.slice 4 Kd.bool) 37 w' w.heap.size (fun _ => True) v5 x5) ∧ Aside0 (Below w.heap.size w w') ∧ Aside0 (Keep [3, 25] w3 w'))
    case atStart => exact ⟨[], 0, rfl, H', ⟨Nat.le_refl _⟩, HO16, HB3, ⟨Keep.refl _ _⟩⟩
    case round =>
     clear H' HO16 hcell3
     obtain ⟨x5, i, rfl, HA, HK, HO, HB, HKp⟩ := hrel
     cases gk with
     | zero => exact absurd HA.out (by simp [impl_PictureFirst.l0])
     | succ k1 =>
      have H := HA.out
      clear HA
      rw [impl_PictureFirst.l0] at H
      by_cases c5 : i < (g.length : Int)
      ·rw [if_pos c5] at H
       have c5b0 : decide (i < (g.length : Int)) = true := decide_eq_true c5
       by_cases c6 : 0 ≤ i
       ·rw [if_pos c6, if_pos c5] at H
        have c6b0 : decide (0 ≤ i) = true := decide_eq_true c6
        obtain ⟨ln, hln, H⟩ := Option.bind_eq_some_iff.mp H
        have HLN := Aside0.mk hln
        clear hln
        have q_ := ifs H
        clear H
        obtain ⟨c7, H⟩ := q_
        have LM := Aside0.mk c7
        clear c7
        have HH := Aside0.mk H
        clear H
        have HRr := Aside0.mk (HKp.out.R (by simp [Kd.int, Kd.scalar]) HRG.out)
        obtain ⟨adg, eadg, hxg⟩ := Kd.at_int (Kd.R_reads' HRr.out).2.2 i c6 c5
        subst eadg
        replace c5 := eq_true c5
        replace c6 := eq_true c6
        have HGr := Aside0.mk ((HKp.out.2 _ 25 _ (by decide) HG3.out).trans HG3.out)
        have cr1 : wr.cell? ⟨w.heap.size, 1, none⟩ = some (.slice A0_1 l0_1.length c0_1) := blk_cell HGr.out 1
        go_wp2_with (first | ((with_reducible refine gate_callee (f := 56) rfl ?_); refine goesL_ (some 30) rfl rfl Try.func56 (by kernel_rfl) rfl #[.int .i64 (rd g i), .int .i64 (l0_1.length : Int)] rfl (by (try simp only [List.map_toArray, List.map_cons, List.map_nil]); first | done | rfl) ?_; (with_reducible refine (impl_lineOf.calls k1 (rd g i) (l0_1.length : Int) ln _ HLN.out).mono ?_); rintro e wd ⟨v30, rfl, hv, hd⟩; obtain ⟨A30, c30, e30⟩ := Kd.R_slice hv; subst e30; have HO30 := Aside0.mk (Kd.R_lower hv HB.out.size); have HBd := Aside0.mk (below_step HB.out hd); have HOd := Aside0.mk (Kd.R_below HO.out hd); have HKd := Aside0.mk (HKp.out.of_below hd); have HON : Aside0 (∀ k, Value.ownBlock (Value.slice A30 ln.length c30) = some k → wr.heap.size ≤ k) := ⟨Kd.R_base hv⟩; clear hv hd; refine ⟨_, rfl, ?_⟩) | ((with_reducible refine gate_builtin (b := .append) (xs := #[.tmp 25, .tmp 31]) rfl ?_); at_builtin; refine Kd.R_append (Kd.slice 4 Kd.bool) (w0 := w) w.heap.size rfl (.tmp 25) (.tmp 31) 32 37 (.slice none 0 0) 24 rfl Try.underlying32 hi37 rfl (by decide) (by omega) u5 x5 ln [.slice A30 ln.length c30] (fun _ => True) (fun k => True ∧ some k ≠ u5.ownBlock) rfl rfl ?aP (fun _ hk => hk) ?aF ?aO ?aB ?aS ?aL ?_; (case aP => exact Kd.M_row (R_apart HO30.out HOd.out (by simp [Kd.bool, Kd.scalar]))); (case aF => exact fun _ _ => trivial); (case aO => exact HOd.out); (case aB => exact HBd.out); (case aS => exact HBd.out.size); (case aL => have := LM.out; omega); intro v32 w5 ho hb hg hat; have HO5 := Aside0.mk ho; have HB5 := Aside0.mk hb; have HK5 := Aside0.mk (HKd.out.grown HOd.out (by decide) hg); clear ho hb hg hat))
        go_roundg k1
        case measure => have := HK.out; omega
        case rel => exact ⟨x5 ++ [ln], wrap64 (i + 1), rfl, HH, ⟨by have := HK.out; omega⟩, HO5, HB5, HK5⟩
       ·rw [if_neg c6] at H
        exact absurd H (by simp)
      ·rw [if_neg c5] at H
       have c5b0 : decide (i < (g.length : Int)) = false := decide_eq_false c5
       clear c5
       simp only [Option.some.injEq, Prod.mk.injEq] at H
       obtain ⟨rfl, rfl⟩ := H
       go_wp2_with fail
       go_ret2
       exact ⟨_, rfl, HO.out, HB.out⟩
   ·rw [if_neg c4] at h
    exact absurd h (by simp)

/-! ### laws_sameInts: function 21 -/
def laws_sameInts.l0 : Nat → List Int → List Int → Int → Option (Bool)
 | 0, _, _, _ => none
 | k + 1, x0, x1, x5 => if x5 < (x0.length : Int) then (if 0 ≤ x5 then (if x5 < (x1.length : Int) then (if (rd x0 x5) = (rd x1 x5) then (laws_sameInts.l0 k x0 x1 (wrap64 (x5 + 1))) else (some false)) else (none)) else (none)) else (some true)
def laws_sameInts.f (k : Nat) (l0 : List Int) (l1 : List Int) : Option (Bool) := if (l0.length : Int) = (l1.length : Int) then (laws_sameInts.l0 k l0 l1 0) else (some false)
theorem laws_sameInts.mono_l : ∀ k, (∀ y0 y1 y2, LeO (laws_sameInts.l0 k y0 y1 y2) (laws_sameInts.l0 (k + 1) y0 y1 y2))
 | 0 => fun _ _ _ r h => by simp [laws_sameInts.l0] at h
 | k + 1 => by
  have ih0 := laws_sameInts.mono_l k
  ·intro y0 y1 y2
   unfold laws_sameInts.l0
   repeat' first
   | (with_reducible exact ih0 _ _ _)
   | (with_reducible exact LeO.refl _)
   | (with_reducible exact LeO.none _)
   | (with_reducible refine LeO.ite ?_ ?_)
   | (with_reducible refine LeO.bind ?_ (fun _ => ?_))
   | exact LeO.none _
   | refine LeO.ite ?_ ?_
   | refine LeO.bind ?_ (fun _ => ?_)
theorem laws_sameInts.mono : ∀ a0 a1 k, LeO (laws_sameInts.f k a0 a1) (laws_sameInts.f (k + 1) a0 a1) := by
 intro a0 a1 k
 have ih0 := laws_sameInts.mono_l k
 unfold laws_sameInts.f
 repeat' first
   | (with_reducible exact ih0 _ _ _)
   | (with_reducible exact LeO.refl _)
   | (with_reducible exact LeO.none _)
   | (with_reducible refine LeO.ite ?_ ?_)
   | (with_reducible refine LeO.bind ?_ (fun _ => ?_))
   | exact LeO.none _
   | refine LeO.ite ?_ ?_
   | refine LeO.bind ?_ (fun _ => ?_)
set_option maxHeartbeats 8000000 in
set_option maxRecDepth 100000 in
theorem laws_sameInts.calls (k : Nat) (A0 : Option Addr) (c0 : Nat) (l0 : List Int) (A1 : Option Addr) (c1 : Nat) (l1 : List Int) (r : Bool) (w : World) (hr0 : Kd.C (Kd.int .i64) w A0 l0.length l0) (hc0 : l0.length ≤ c0) (hr1 : Kd.C (Kd.int .i64) w A1 l1.length l1) (hc1 : l1.length ≤ c1) (h : laws_sameInts.f k l0 l1 = some r) :
  Calls Try.prog 21 #[.slice A0 l0.length c0, .slice A1 l1.length c1] w fun e w' => e = .returned (.bool r) ∧ Drawn0 w w' := by
 have HR0 := Aside0.mk hr0
 have HC0 := Aside0.mk hc0
 clear hr0 hc0
 have HR1 := Aside0.mk hr1
 have HC1 := Aside0.mk hc1
 clear hr1 hc1
 have H : (if (l0.length : Int) = (l1.length : Int) then (laws_sameInts.l0 k l0 l1 0) else (some false)) = some r := h
 clear h
 by_cases c3 : (l0.length : Int) = (l1.length : Int)
 ·rw [if_pos c3] at H
  have c3b0 : ((l0.length : Int) == (l1.length : Int)) = true := beq_iff_eq.mpr c3
  have c3b1 : ((l0.length : Int) != (l1.length : Int)) = false := bne_eq_false_iff_eq.mpr c3
  have c3b2 : (l0.length == l1.length) = true := by first | simpa using c3 | (simp at c3 ⊢; omega)
  clear c3
  have H' := Aside0.mk H
  clear H
  go_enter Try.func21, Try.ntmps21
  go_wp2
  repeat (go_quiet (fail); try go_wp2)
  go_loopg [5] k (fun kq v5 w' => ∃ (x5_1 : Int), v5 = .int .i64 x5_1 ∧ Aside0 (laws_sameInts.l0 kq l0 l1 x5_1 = some r) ∧ Aside0 (kq ≤ k) ∧ Drawn0 w w')
  case atStart => exact ⟨(0), (by first | rfl | (simp; done) | (simp [*]; done)), H', ⟨Nat.le_refl _⟩, by repeat (first | exact Drawn0.refl _ | apply Drawn0.step)⟩
  case round =>
   clear H'
   try clear c1
   try clear c2
   try clear p2
   try clear c3
   try clear c3b0
   try clear c3b1
   try clear c3b2
   obtain ⟨x5_1, rfl, HA, HK1, ⟨m1, rfl⟩⟩ := hrel
   cases gk with
   | zero => exact absurd HA.out (by simp [laws_sameInts.l0])
   | succ k1 =>
    have H := HA.out
    clear HA
    simp only [laws_sameInts.l0] at H
    by_cases c4 : x5_1 < (l0.length : Int)
    ·rw [if_pos c4] at H
     have c4b0 : decide (x5_1 < (l0.length : Int)) = true := decide_eq_true c4
     clear c4
     have q_ := ifs H
     clear H
     obtain ⟨c5, H⟩ := q_
     have c5b0 : decide (0 ≤ x5_1) = true := decide_eq_true c5
     clear c5
     have q_ := ifs H
     clear H
     obtain ⟨c6, H⟩ := q_
     have c6b0 : decide (x5_1 < (l1.length : Int)) = true := decide_eq_true c6
     clear c6
     by_cases c7 : (rd l0 x5_1) = (rd l1 x5_1)
     ·rw [if_pos c7] at H
      have c7b0 : ((rd l0 x5_1) == (rd l1 x5_1)) = true := beq_iff_eq.mpr c7
      have c7b1 : ((rd l0 x5_1) != (rd l1 x5_1)) = false := bne_eq_false_iff_eq.mpr c7
      clear c7
      have H' := Aside0.mk H
      clear H
      have p160 : 0 ≤ (x5_1 : Int) := of_decide_eq_true (by first | (with_reducible assumption) | assumption)
      have q160 : x5_1 < (l0.length : Int) := of_decide_eq_true (by first | (with_reducible assumption) | assumption)
      obtain ⟨ad160, e160, hx160_0⟩ := Kd.at_int HR0.out x5_1 p160 q160
      cases e160
      replace p160 := eq_true p160
      replace q160 := eq_true q160
      have p161 : 0 ≤ (x5_1 : Int) := of_decide_eq_true (by first | (with_reducible assumption) | assumption)
      have q161 : x5_1 < (l1.length : Int) := of_decide_eq_true (by first | (with_reducible assumption) | assumption)
      obtain ⟨ad161, e161, hx161_0⟩ := Kd.at_int HR1.out x5_1 p161 q161
      cases e161
      replace p161 := eq_true p161
      replace q161 := eq_true q161
      go_wp2
      repeat (go_quiet (fail); try go_wp2)
      go_roundg k1
      case measure => have := HK1.out; omega
      case rel => exact ⟨(wrap64 (x5_1 + 1)), (by first | rfl | (simp; done) | (simp [*]; done)), H', ⟨by have := HK1.out; omega⟩, by repeat (first | exact Drawn0.refl _ | apply Drawn0.step)⟩
     ·rw [if_neg c7] at H
      have c7b0 : ((rd l0 x5_1) == (rd l1 x5_1)) = false := beq_eq_false_iff_ne.mpr c7
      have c7b1 : ((rd l0 x5_1) != (rd l1 x5_1)) = true := bne_iff_ne.mpr c7
      obtain rfl := Option.some.inj H
      have p160 : 0 ≤ (x5_1 : Int) := of_decide_eq_true (by first | (with_reducible assumption) | assumption)
      have q160 : x5_1 < (l0.length : Int) := of_decide_eq_true (by first | (with_reducible assumption) | assumption)
      obtain ⟨ad160, e160, hx160_0⟩ := Kd.at_int HR0.out x5_1 p160 q160
      cases e160
      replace p160 := eq_true p160
      replace q160 := eq_true q160
      have p161 : 0 ≤ (x5_1 : Int) := of_decide_eq_true (by first | (with_reducible assumption) | assumption)
      have q161 : x5_1 < (l1.length : Int) := of_decide_eq_true (by first | (with_reducible assumption) | assumption)
      obtain ⟨ad161, e161, hx161_0⟩ := Kd.at_int HR1.out x5_1 p161 q161
      cases e161
      replace p161 := eq_true p161
      replace q161 := eq_true q161
      go_wp2
      repeat (go_quiet (fail); try go_wp2)
      go_ret
      exact ⟨by first | rfl | (simp; done) | (simp [*]; done), by repeat (first | exact Drawn0.refl _ | apply Drawn0.step)⟩
    ·rw [if_neg c4] at H
     have c4b0 : decide (x5_1 < (l0.length : Int)) = false := decide_eq_false c4
     clear c4
     obtain rfl := Option.some.inj H
     go_wp2
     repeat (go_quiet (fail); try go_wp2)
     go_ret
     exact ⟨by first | rfl | (simp; done) | (simp [*]; done), by repeat (first | exact Drawn0.refl _ | apply Drawn0.step)⟩
 ·rw [if_neg c3] at H
  have c3b0 : ((l0.length : Int) == (l1.length : Int)) = false := beq_eq_false_iff_ne.mpr c3
  have c3b1 : ((l0.length : Int) != (l1.length : Int)) = true := bne_iff_ne.mpr c3
  have c3b2 : (l0.length == l1.length) = false := by first | simpa using c3 | (simp at c3 ⊢; omega)
  obtain rfl := Option.some.inj H
  go_enter Try.func21, Try.ntmps21
  go_wp2
  repeat (go_quiet (fail); try go_wp2)
  go_ret
  exact ⟨by first | rfl | (simp; done) | (simp [*]; done), by repeat (first | exact Drawn0.refl _ | apply Drawn0.step)⟩

end Go.Proofs.Ytapnohcfnclleaa.PFnPictureFirst
