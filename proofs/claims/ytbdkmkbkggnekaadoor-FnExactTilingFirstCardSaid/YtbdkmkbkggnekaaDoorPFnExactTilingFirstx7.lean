-- Made by a program of this session (a changed copy of the kit print): the kit print itself does not give this text
import Derived.Test.YtbdkmkbkggnekaaDoorPFnExactTilingFirstx0
import Derived.Test.YtbdkmkbkggnekaaDoorPFnExactTilingFirstx5
import Derived.Test.YtbdkmkbkggnekaaDoorPFnExactTilingFirstx6
import Derived.Test.YtbdkmkbkggnekaaDoorV2
import Derived.Test.YtbdkmkbkggnekaaDoorVM
namespace Go.Proofs.YtbdkmkbkggnekaaDoor.PFnExactTilingFirst
open Go.RowKit Go.Proofs.YtbdkmkbkggnekaaDoorW.PrintWords Go.Proofs.YtbdkmkbkggnekaaDoorW.PrintLast Go.Proofs.YtbdkmkbkggnekaaDoorW.PrintMore
attribute [local go_sem] max2_int min2_int max_two min_two max_three min_three max_four min_four   -- for this text's walks alone
set_option linter.unusedVariables false
set_option linter.unusedSimpArgs false

/-! ### impl_TilingFirst: function 12 -/
--@import Derived.Test.YtbdkmkbkggnekaaDoorV2
open Go.Proofs.YtbdkmkbkggnekaaDoor.My
--@import Derived.Test.YtbdkmkbkggnekaaDoorVM
def impl_TilingFirst.l0 : Nat → List Int → Int → List (Int × Int) → Int → Int → Int → Option (List Int × Bool)
  | 0, _, _, _, _, _, _ => none
  | k + 1, xs, v, ps, a0, a1, a2 => if 0 ≤ wrap64 (a0 * a1) then (if v = wrap64 (shl .i64 1 (wrap64 (a0 * a1)) - 1) then (some (xs, true)) else (if a1 = 0 then none else (if 0 ≤ wrap64 (tzV v + 1) then (if 0 ≤ wrap64 (tzV v + a1) then (if xs.length < 4398046511104 then
      (if Int.tmod (tzV v) a1 < wrap64 (a1 - 1) then (if Go.bits .and .i64 (shr .i64 v (wrap64 (tzV v + 1))) 1 = 0 then
        ((impl_tilings.f k a0 a1 a2 (Go.bits .or .i64 (Go.bits .or .i64 v (shl .i64 1 (tzV v))) (shl .i64 1 (wrap64 (tzV v + 1)))) ps).bind fun z => (if z.1 > 0 then
          (impl_TilingFirst.l0 k (xs ++ [tzV v, wrap64 (tzV v + 1)]) (Go.bits .or .i64 v (Go.bits .or .i64 (shl .i64 1 (tzV v)) (shl .i64 1 (wrap64 (tzV v + 1))))) z.2 a0 a1 a2) else
          (impl_TilingFirst.l0 k (xs ++ [tzV v, wrap64 (tzV v + a1)]) (Go.bits .or .i64 v (Go.bits .or .i64 (shl .i64 1 (tzV v)) (shl .i64 1 (wrap64 (tzV v + a1))))) z.2 a0 a1 a2)))
       else (impl_TilingFirst.l0 k (xs ++ [tzV v, wrap64 (tzV v + a1)]) (Go.bits .or .i64 v (Go.bits .or .i64 (shl .i64 1 (tzV v)) (shl .i64 1 (wrap64 (tzV v + a1))))) ps a0 a1 a2))
       else (impl_TilingFirst.l0 k (xs ++ [tzV v, wrap64 (tzV v + a1)]) (Go.bits .or .i64 v (Go.bits .or .i64 (shl .i64 1 (tzV v)) (shl .i64 1 (wrap64 (tzV v + a1))))) ps a0 a1 a2)) else none) else none) else none))) else none
def impl_TilingFirst.f (k : Nat) (a0 a1 a2 : Int) : Option (List Int × Bool) := (impl_BoardValid.f a0 a1 a2).bind fun t => (if t = true then (if (Lit.int .i64 a2).wf = true then ((impl_tilings.f k a0 a1 a2 a2 []).bind fun z => (if z.1 = 0 then some ([], false) else (impl_TilingFirst.l0 k [] a2 z.2 a0 a1 a2))) else none) else some ([], false))
theorem impl_TilingFirst.mono_l : ∀ k, (∀ y0 y1 y2 y3 y4 y5, LeO (impl_TilingFirst.l0 k y0 y1 y2 y3 y4 y5) (impl_TilingFirst.l0 (k + 1) y0 y1 y2 y3 y4 y5))
  | 0 => fun _ _ _ _ _ _ r h => by simp [impl_TilingFirst.l0] at h
  | k + 1 => by
    have ih0 := impl_TilingFirst.mono_l k
    · intro y0 y1 y2 y3 y4 y5
      unfold impl_TilingFirst.l0
      repeat' first
      | (with_reducible exact ih0 _ _ _ _ _ _)
      | (with_reducible exact impl_tilings.mono _ _ _ _ _ _)
      | (with_reducible exact LeO.refl _)
      | (with_reducible exact LeO.none _)
      | (with_reducible refine LeO.ite ?_ ?_)
      | (with_reducible refine LeO.bind ?_ (fun _ => ?_))
      | exact ih0 _ _ _ _ _ _
      | exact impl_tilings.mono _ _ _ _ _ _
      | exact LeO.none _
      | refine LeO.ite ?_ ?_
      | refine LeO.bind ?_ (fun _ => ?_)
theorem impl_TilingFirst.mono : ∀ a0 a1 a2 k, LeO (impl_TilingFirst.f k a0 a1 a2) (impl_TilingFirst.f (k + 1) a0 a1 a2) := by
  intro a0 a1 a2 k
  have ih0 := impl_TilingFirst.mono_l k
  unfold impl_TilingFirst.f
  repeat' first
      | (with_reducible exact ih0 _ _ _ _ _ _)
      | (with_reducible exact impl_tilings.mono _ _ _ _ _ _)
      | (with_reducible exact LeO.refl _)
      | (with_reducible exact LeO.none _)
      | (with_reducible refine LeO.ite ?_ ?_)
      | (with_reducible refine LeO.bind ?_ (fun _ => ?_))
      | exact ih0 _ _ _ _ _ _
      | exact impl_tilings.mono _ _ _ _ _ _
      | exact LeO.none _
      | refine LeO.ite ?_ ?_
      | refine LeO.bind ?_ (fun _ => ?_)
def impl_TilingFirst.T11 : Bool × List (List Nat × List Nat) := (true, [([], []), ([], []), ([1], [1]), ([0, 2], [0, 2]), ([], []), ([4], [4]), ([5], [5]), ([3, 6], [3, 6]), ([7], [7]), ([8], [8]), ([8], [8]), ([9, 10, 8], [8, 9, 10]), ([11, 8], [8, 11]), ([12, 8], [8, 12]), ([8, 13], [8, 13]), ([14, 8], [14]), ([15], [15]), ([15], [15]), ([15], [15]), ([18, 15], [15, 18]), ([17, 19, 15], [15, 17, 19]), ([15], [15]), ([21, 15], [15, 21]), ([20, 22, 15], [15, 20, 22]), ([15], [15]), ([16, 23, 24, 15, 15], [15, 16, 23, 24]), ([25, 15], [15, 25]), ([15, 26], [15, 26])])
def impl_TilingFirst.B11 : List Nat := [0, 0, 2, 7, 0, 16, 48, 127, 255, 511, 511, 2047, 4095, 8191, 16383, 32767, 65535, 65535, 65535, 327679, 983039, 65535, 2162687, 8323071, 65535, 33554431, 67108863, 134217727]
theorem impl_TilingFirst.tab11 : rtab .any (opsOf Tryd.f12 11) = impl_TilingFirst.T11 := by kernel_rfl
theorem impl_TilingFirst.bits11 : waitsOk impl_TilingFirst.T11.2 impl_TilingFirst.B11 = true := by kernel_rfl
set_option maxHeartbeats 8000000 in
set_option maxRecDepth 100000 in
theorem impl_TilingFirst.calls (k : Nat) (a0 a1 a2 : Int) (r1 : List Int) (r2 : Bool) (w : World) (hT : Tab64 w) (h : impl_TilingFirst.f k a0 a1 a2 = some (r1, r2)) :
    Calls Tryd.prog 12 #[.agg #[.int .i64 a0, .int .i64 a1, .int .i64 a2]] w fun e w' => ∃ v0_ : Value, e = .returned (.tuple #[v0_, .bool r2]) ∧ Kd.R (Kd.int .i64) 3 w' w.heap.size (fun _ => True) v0_ r1 ∧ Below w.heap.size w w' := by
  have hu25 := Tryd.underlying25
  have hi3 : (Tryd.prog.info? 3).map (fun i => (i.zero, i.size, i.bytes)) = some (some (.int .i64 0), 1, 8) := by kernel_rfl
  have hmm := @run_makeMap Tryd.prog
  unfold impl_TilingFirst.f at h
  obtain ⟨t, ht, h⟩ := Option.bind_eq_some_iff.mp h
  have HV := Aside0.mk ht
  have HT := Aside0.mk hT
  have H1 : Aside0 (1 < w.heap.size) := ⟨World.block_lt_of_cell? w ⟨1, 0, none⟩ (hT 0 (by decide))⟩
  clear ht hT
  obtain ⟨W1, hW1⟩ : ∃ W1 : World, W1 = w.alloc (Obj.cells #[.int .i64 a0, .int .i64 a1, .int .i64 a2] 25) := ⟨_, rfl⟩
  have HW1 := Aside0.mk hW1
  have HBW : Aside0 (Below w.heap.size w W1) := ⟨by rw [hW1]; exact (Below.refl _ _).alloc (Nat.le_refl _) _⟩
  have HGB : Aside0 (W1.heap[w.heap.size]? = some (Obj.cells #[.int .i64 a0, .int .i64 a1, .int .i64 a2] 25 (0, 0))) := ⟨by rw [hW1]; exact blk_new _ _⟩
  have cb0 : (w.alloc (Obj.cells #[.int .i64 a0, .int .i64 a1, .int .i64 a2] 25)).cell? ⟨w.heap.size, 0, none⟩ = some (.int .i64 a0) := blk_cell (blk_new _ _) 0
  have cb1 : (w.alloc (Obj.cells #[.int .i64 a0, .int .i64 a1, .int .i64 a2] 25)).cell? ⟨w.heap.size, 1, none⟩ = some (.int .i64 a1) := blk_cell (blk_new _ _) 1
  have cb2 : (w.alloc (Obj.cells #[.int .i64 a0, .int .i64 a1, .int .i64 a2] 25)).cell? ⟨w.heap.size, 2, none⟩ = some (.int .i64 a2) := blk_cell (blk_new _ _) 2
  clear hW1
  cases t with
  | false =>
    rw [if_neg (by decide)] at h
    simp only [Option.some.injEq, Prod.mk.injEq] at h
    obtain ⟨rfl, rfl⟩ := h
    go_enter Tryd.func12, Tryd.ntmps12
    go_wp2_with (first | (go_at_call 25; rw [← HW1.out]; refine (impl_BoardValid.calls a0 a1 a2 _ _ HV.out).mono ?_; rintro e wb ⟨rfl, hd⟩; have HB1 := Aside0.mk (below_step HBW.out hd); have HG1 := Aside0.mk ((hd.block _ (lt_of_some HGB.out)).trans HGB.out); have cx0 : wb.cell? ⟨w.heap.size, 0, none⟩ = some (.int .i64 a0) := blk_cell HG1.out 0; have cx1 : wb.cell? ⟨w.heap.size, 1, none⟩ = some (.int .i64 a1) := blk_cell HG1.out 1; have cx2 : wb.cell? ⟨w.heap.size, 2, none⟩ = some (.int .i64 a2) := blk_cell HG1.out 2; have cy0 : (wb.alloc (Obj.map #[] 0)).cell? ⟨w.heap.size, 0, none⟩ = some (.int .i64 a0) := blk_cell (blk_alloc HG1.out _) 0; have cy1 : (wb.alloc (Obj.map #[] 0)).cell? ⟨w.heap.size, 1, none⟩ = some (.int .i64 a1) := blk_cell (blk_alloc HG1.out _) 1; have cy2 : (wb.alloc (Obj.map #[] 0)).cell? ⟨w.heap.size, 2, none⟩ = some (.int .i64 a2) := blk_cell (blk_alloc HG1.out _) 2; clear hd))
    go_ret2
    exact ⟨_, rfl, Kd.R_nil _ _ _ _ _, HB1.out⟩
  | true =>
    rw [if_pos rfl] at h
    by_cases hw2 : (Lit.int .i64 a2).wf = true
    case neg => rw [if_neg hw2] at h; exact absurd h (by simp)
    rw [if_pos hw2] at h
    have HW2 := Aside0.mk hw2
    clear hw2
    obtain ⟨⟨n, ps⟩, hf, h⟩ := Option.bind_eq_some_iff.mp h
    have HF := Aside0.mk hf
    clear hf
    dsimp only at h
    by_cases c3 : n = 0
    · rw [if_pos c3] at h
      have c3b : (n == 0) = true := beq_iff_eq.mpr c3
      simp only [Option.some.injEq, Prod.mk.injEq] at h
      obtain ⟨rfl, rfl⟩ := h
      clear c3
      go_enter Tryd.func12, Tryd.ntmps12
      go_wp2_with (first | (go_at_call 25; rw [← HW1.out]; refine (impl_BoardValid.calls a0 a1 a2 _ _ HV.out).mono ?_; rintro e wb ⟨rfl, hd⟩; have HB1 := Aside0.mk (below_step HBW.out hd); have HG1 := Aside0.mk ((hd.block _ (lt_of_some HGB.out)).trans HGB.out); have cx0 : wb.cell? ⟨w.heap.size, 0, none⟩ = some (.int .i64 a0) := blk_cell HG1.out 0; have cx1 : wb.cell? ⟨w.heap.size, 1, none⟩ = some (.int .i64 a1) := blk_cell HG1.out 1; have cx2 : wb.cell? ⟨w.heap.size, 2, none⟩ = some (.int .i64 a2) := blk_cell HG1.out 2; have cy0 : (wb.alloc (Obj.map #[] 0)).cell? ⟨w.heap.size, 0, none⟩ = some (.int .i64 a0) := blk_cell (blk_alloc HG1.out _) 0; have cy1 : (wb.alloc (Obj.map #[] 0)).cell? ⟨w.heap.size, 1, none⟩ = some (.int .i64 a1) := blk_cell (blk_alloc HG1.out _) 1; have cy2 : (wb.alloc (Obj.map #[] 0)).cell? ⟨w.heap.size, 2, none⟩ = some (.int .i64 a2) := blk_cell (blk_alloc HG1.out _) 2; clear hd) | (go_at_call 26; refine (impl_tilings.calls a0 a1 a2 wb.heap.size (by have h1 := H1.out; have h2 := HB1.out.size; omega) k a2 [] n ps _ HW2.out (MapI.made wb) (HT.out.below (HB1.out.alloc HB1.out.size _)) HF.out).mono ?_; rintro e wc ⟨rfl, hd1, hd2, hd3⟩; have HMc := Aside0.mk hd1; have HB2 := Aside0.mk ((HB1.out.alloc HB1.out.size (.map #[] 0)).grown hd2 (HB1.out.alloc HB1.out.size (.map #[] 0)).size (fun q hq => by injection hq with hq; have := HB1.out.size; omega)); have HGc := Aside0.mk (blk_grown (blk_alloc HG1.out (Obj.map #[] 0)) hd2 (by intro e1; injection e1 with e1; have := lt_of_some HG1.out; omega)); clear hd1 hd2 hd3))
      go_ret2
      exact ⟨_, rfl, Kd.R_nil _ _ _ _ _, HB2.out⟩
    · rw [if_neg c3] at h
      have c3b : (n == 0) = false := beq_eq_false_iff_ne.mpr c3
      have H' := Aside0.mk h
      clear c3 h
      go_enter Tryd.func12, Tryd.ntmps12
      go_wp2_with (first | (go_at_call 25; rw [← HW1.out]; refine (impl_BoardValid.calls a0 a1 a2 _ _ HV.out).mono ?_; rintro e wb ⟨rfl, hd⟩; have HB1 := Aside0.mk (below_step HBW.out hd); have HG1 := Aside0.mk ((hd.block _ (lt_of_some HGB.out)).trans HGB.out); have cx0 : wb.cell? ⟨w.heap.size, 0, none⟩ = some (.int .i64 a0) := blk_cell HG1.out 0; have cx1 : wb.cell? ⟨w.heap.size, 1, none⟩ = some (.int .i64 a1) := blk_cell HG1.out 1; have cx2 : wb.cell? ⟨w.heap.size, 2, none⟩ = some (.int .i64 a2) := blk_cell HG1.out 2; have cy0 : (wb.alloc (Obj.map #[] 0)).cell? ⟨w.heap.size, 0, none⟩ = some (.int .i64 a0) := blk_cell (blk_alloc HG1.out _) 0; have cy1 : (wb.alloc (Obj.map #[] 0)).cell? ⟨w.heap.size, 1, none⟩ = some (.int .i64 a1) := blk_cell (blk_alloc HG1.out _) 1; have cy2 : (wb.alloc (Obj.map #[] 0)).cell? ⟨w.heap.size, 2, none⟩ = some (.int .i64 a2) := blk_cell (blk_alloc HG1.out _) 2; clear hd) | (go_at_call 26; refine (impl_tilings.calls a0 a1 a2 wb.heap.size (by have h1 := H1.out; have h2 := HB1.out.size; omega) k a2 [] n ps _ HW2.out (MapI.made wb) (HT.out.below (HB1.out.alloc HB1.out.size _)) HF.out).mono ?_; rintro e wc ⟨rfl, hd1, hd2, hd3⟩; have HMc := Aside0.mk hd1; have HB2 := Aside0.mk ((HB1.out.alloc HB1.out.size (.map #[] 0)).grown hd2 (HB1.out.alloc HB1.out.size (.map #[] 0)).size (fun q hq => by injection hq with hq; have := HB1.out.size; omega)); have HGc := Aside0.mk (blk_grown (blk_alloc HG1.out (Obj.map #[] 0)) hd2 (by intro e1; injection e1 with e1; have := lt_of_some HG1.out; omega)); clear hd1 hd2 hd3) | ((with_reducible refine gate_dst (N := 20) rfl ?_); refine Kd.R_lit (Kd.int .i64) (w0 := w) w.heap.size 3 ?hg (N := 20) ?hd (xs := ([] : List Int)) (inner := []) (ok := fun q => q ≠ wb.heap.size) (okp := fun _ => False) ?hr ?hp (fun _ hk => hk.elim) ?hq HB2.out HB2.out.size (by simp) ?_; (case hd => rfl); (case hg => rfl); (case hr => first | (go_simp; done) | (go_simp; rfl)); (case hp => exact Reps.none _ _); (case hq => have := HMc.out.lt; omega); intro v20 w3 ho hb hg_ hnew_; have HO6 := Aside0.mk ho; have HB3 := Aside0.mk hb; have HM3 := Aside0.mk (HMc.out.kept hg_ (by simp)); have HX3 := Aside0.mk (blk_grown HGc.out hg_ (by simp)); have HT3 := Aside0.mk (HT.out.below hb); clear ho hb hg_ hnew_))
      have HMB : Aside0 (wb.heap.size ≠ w.heap.size ∧ wb.heap.size ≠ 1 ∧ w.heap.size ≤ wb.heap.size) := ⟨by have h1 := H1.out; have h2 := HB1.out.size; have h3 := lt_of_some HG1.out; omega⟩
      go_loopg [5, 6] k (fun kq v5 v6 w' => ∃ (x5 : Int) (xs : List Int) (qs : List (Int × Int)), v5 = .int .i64 x5 ∧ Aside0 (impl_TilingFirst.l0 kq xs x5 qs a0 a1 a2 = some (r1, r2)) ∧ Aside0 (kq ≤ k) ∧ Aside0 (Kd.R (Kd.int .i64) 3 w' w.heap.size (fun q => q ≠ wb.heap.size) v6 xs) ∧ Aside0 (w'.heap[w.heap.size]? = some (Obj.cells #[.int .i64 a0, .int .i64 a1, .int .i64 a2] 25 (0, 0))) ∧ Aside0 (MapI Tryd.prog 3 3 w' wb.heap.size qs) ∧ Aside0 (Tab64 w') ∧ Aside0 (Below w.heap.size w w') ∧ Aside0 ((Lit.int .i64 x5).wf = true))
      case atStart => exact ⟨a2, [], ps, rfl, H', ⟨Nat.le_refl _⟩, HO6, HX3, HM3, HT3, HB3, HW2⟩
      case round =>
        clear H' HF HO6 HX3 HM3 HT3 HB3 HB2 HMc HGc cx0 cx1 cx2 cy0 cy1 cy2 cb0 cb1 cb2
        obtain ⟨v, xs, qs, rfl, HA, HK, HO, HX, HM, HTr, HB, HVW⟩ := hrel
        have cr0 : wr.cell? ⟨w.heap.size, 0, none⟩ = some (.int .i64 a0) := blk_cell HX.out 0
        have cr1 : wr.cell? ⟨w.heap.size, 1, none⟩ = some (.int .i64 a1) := blk_cell HX.out 1
        have cr2 : wr.cell? ⟨w.heap.size, 2, none⟩ = some (.int .i64 a2) := blk_cell HX.out 2
        cases gk with
        | zero => exact absurd HA.out (by simp [impl_TilingFirst.l0])
        | succ k1 =>
          have h := HA.out
          clear HA
          rw [impl_TilingFirst.l0] at h
          obtain ⟨cells, hcells⟩ : ∃ c_ : Int, c_ = wrap64 (a0 * a1) := ⟨_, rfl⟩
          rw [← hcells] at h
          have hcw : wrap64 (a0 * a1) = cells := hcells.symm
          have hcw2 : IntKind.i64.wrap (a0 * a1) = cells := by rw [i64_w]; exact hcells.symm
          clear hcells
          by_cases c0 : 0 ≤ cells
          case neg => rw [if_neg c0] at h; exact absurd h (by simp)
          rw [if_pos c0] at h
          have c0' : decide (0 ≤ cells) = true := decide_eq_true c0
          have c0'' := eq_true c0
          obtain ⟨j1, hj1⟩ : ∃ j_ : Int, (shl .i64 1 cells) = j_ := ⟨_, rfl⟩
          rw [hj1] at h
          have hj1a : (IntKind.i64.wrap (1 * 2 ^ min cells.toNat 64)) = j1 := hj1
          have hj1b : (IntKind.i64.wrap (2 ^ min cells.toNat 64)) = j1 := by have h_ := hj1a; rw [Int.one_mul] at h_; exact h_
          have hj1c : (wrap64 (1 * 2 ^ min cells.toNat 64)) = j1 := (i64_w _).symm.trans hj1a
          have hj1d : (wrap64 (2 ^ min cells.toNat 64)) = j1 := (i64_w _).symm.trans hj1b
          clear hj1
          by_cases c1 : v = wrap64 (j1 - 1)
          · rw [if_pos c1] at h
            have c1' : (v == wrap64 (j1 - 1)) = true := beq_iff_eq.mpr c1
            have c1n : (v != wrap64 (j1 - 1)) = false := bne_eq_false_iff_eq.mpr c1
            simp only [Option.some.injEq, Prod.mk.injEq] at h
            obtain ⟨rfl, rfl⟩ := h
            clear c1 c0
            go_wp2_with fail
            go_ret2
            exact ⟨_, rfl, Kd.R_mono HO.out (fun _ _ => trivial), HB.out⟩
          rw [if_neg c1] at h
          have c1' : (v == wrap64 (j1 - 1)) = false := beq_eq_false_iff_ne.mpr c1
          have c1n : (v != wrap64 (j1 - 1)) = true := bne_iff_ne.mpr c1
          clear c1 c0
          have HTZ : Aside0 (((Lib.ctz 64 (Go.bits BinOp.xor IntKind.u64 IntKind.u64.max (IntKind.u64.wrap v)).toNat : Nat) : Int) = tzV v) := ⟨rfl⟩
          have HTZ2 : Aside0 (((Lib.ctz 64 (Go.bits BinOp.xor IntKind.u64 (if IntKind.u64.signed = true then -1 else IntKind.u64.max) (IntKind.u64.wrap v)).toNat : Nat) : Int) = tzV v) := ⟨rfl⟩
          have htz0 := tz_nn v
          generalize tzV v = tz at h HTZ HTZ2 htz0
          have htz0' : decide (0 ≤ tz) = true := decide_eq_true htz0
          have htz0'' := eq_true htz0
          by_cases c2 : a1 = 0
          case pos => rw [if_pos c2] at h; exact absurd h (by simp)
          rw [if_neg c2] at h
          have c2' : (a1 == 0) = false := beq_eq_false_iff_ne.mpr c2
          have c2'' : (a1 = 0) = False := eq_false c2
          clear c2
          obtain ⟨u, hu⟩ : ∃ c_ : Int, c_ = wrap64 (tz + 1) := ⟨_, rfl⟩
          rw [← hu] at h
          have huw : wrap64 (tz + 1) = u := hu.symm
          have huv : IntKind.i64.wrap (tz + 1) = u := by rw [i64_w]; exact hu.symm
          clear hu
          obtain ⟨y2, hy2⟩ : ∃ c_ : Int, c_ = wrap64 (tz + a1) := ⟨_, rfl⟩
          rw [← hy2] at h
          have hy2w : wrap64 (tz + a1) = y2 := hy2.symm
          have hy2v : IntKind.i64.wrap (tz + a1) = y2 := by rw [i64_w]; exact hy2.symm
          clear hy2
          obtain ⟨d, hd⟩ : ∃ c_ : Int, c_ = wrap64 (a1 - 1) := ⟨_, rfl⟩
          rw [← hd] at h
          have hdw : wrap64 (a1 - 1) = d := hd.symm
          have hdv : IntKind.i64.wrap (a1 - 1) = d := by rw [i64_w]; exact hd.symm
          clear hd
          by_cases c3 : 0 ≤ u
          case neg => rw [if_neg c3] at h; exact absurd h (by simp)
          rw [if_pos c3] at h
          by_cases c4 : 0 ≤ y2
          case neg => rw [if_neg c4] at h; exact absurd h (by simp)
          rw [if_pos c4] at h
          have c3' : decide (0 ≤ u) = true := decide_eq_true c3
          have c4' : decide (0 ≤ y2) = true := decide_eq_true c4
          replace c3 := eq_true c3
          replace c4 := eq_true c4
          by_cases cL : xs.length < 4398046511104
          case neg => rw [if_neg cL] at h; exact absurd h (by simp)
          rw [if_pos cL] at h
          have LM := Aside0.mk cL
          clear cL
          obtain ⟨jt, hjt⟩ : ∃ j_ : Int, (shl .i64 1 tz) = j_ := ⟨_, rfl⟩
          rw [hjt] at h
          have hjta : (IntKind.i64.wrap (1 * 2 ^ min tz.toNat 64)) = jt := hjt
          have hjtb : (IntKind.i64.wrap (2 ^ min tz.toNat 64)) = jt := by have h_ := hjta; rw [Int.one_mul] at h_; exact h_
          have hjtc : (wrap64 (1 * 2 ^ min tz.toNat 64)) = jt := (i64_w _).symm.trans hjta
          have hjtd : (wrap64 (2 ^ min tz.toNat 64)) = jt := (i64_w _).symm.trans hjtb
          clear hjt
          obtain ⟨ju, hju⟩ : ∃ j_ : Int, (shl .i64 1 u) = j_ := ⟨_, rfl⟩
          rw [hju] at h
          have hjua : (IntKind.i64.wrap (1 * 2 ^ min u.toNat 64)) = ju := hju
          have hjub : (IntKind.i64.wrap (2 ^ min u.toNat 64)) = ju := by have h_ := hjua; rw [Int.one_mul] at h_; exact h_
          have hjuc : (wrap64 (1 * 2 ^ min u.toNat 64)) = ju := (i64_w _).symm.trans hjua
          have hjud : (wrap64 (2 ^ min u.toNat 64)) = ju := (i64_w _).symm.trans hjub
          clear hju
          obtain ⟨jy, hjy⟩ : ∃ j_ : Int, (shl .i64 1 y2) = j_ := ⟨_, rfl⟩
          rw [hjy] at h
          have hjya : (IntKind.i64.wrap (1 * 2 ^ min y2.toNat 64)) = jy := hjy
          have hjyb : (IntKind.i64.wrap (2 ^ min y2.toNat 64)) = jy := by have h_ := hjya; rw [Int.one_mul] at h_; exact h_
          have hjyc : (wrap64 (1 * 2 ^ min y2.toNat 64)) = jy := (i64_w _).symm.trans hjya
          have hjyd : (wrap64 (2 ^ min y2.toNat 64)) = jy := (i64_w _).symm.trans hjyb
          clear hjy
          obtain ⟨su, hsu⟩ : ∃ j_ : Int, (shr .i64 v u) = j_ := ⟨_, rfl⟩
          rw [hsu] at h
          have hsua : (v / 2 ^ min u.toNat 64) = su := hsu
          clear hsu
          go_upto_region 11 with (first | (go_at_call 27; refine (tzI _ (bits_u64 _ _ _).1 (bits_u64 _ _ _).2 _ (by first | exact HTr.out | exact HTr.out.below (below_drew1 (Below.refl _ _)) | exact HTr.out.below (pw_below_drewN (Below.refl _ _) _))).mono ?_; rintro e w_ ⟨he, hw_⟩; have hq_ := hw_.symm; subst hq_; (first | rw [HTZ.out] at he | rw [HTZ2.out] at he); subst he; clear hw_))
          by_cases cA : Int.tmod tz a1 < d
          · rw [if_pos cA] at h
            have cA' : decide (Int.tmod tz a1 < d) = true := decide_eq_true cA
            clear cA
            by_cases cB : Go.bits .and .i64 su 1 = 0
            · rw [if_pos cB] at h
              have cB' : (Go.bits .and .i64 su 1 == 0) = true := beq_iff_eq.mpr cB
              clear cB
              obtain ⟨⟨m1, m2⟩, hf1, h⟩ := Option.bind_eq_some_iff.mp h
              have HF1 := Aside0.mk hf1
              clear hf1
              dsimp only at h
              by_cases cP : m1 > 0
              · rw [if_pos cP] at h
                have cP' : decide (0 < m1) = true := decide_eq_true cP
                have cP'' : decide (m1 > 0) = true := decide_eq_true cP
                clear cP
                have HH := Aside0.mk h
                clear h
                refine start_ (n := 28) (S := fun w' => w'.cell? ⟨w.heap.size, 0, none⟩ = some (.int .i64 a0) ∧ w'.cell? ⟨w.heap.size, 1, none⟩ = some (.int .i64 a1) ∧ w'.cell? ⟨w.heap.size, 2, none⟩ = some (.int .i64 a2)) (ds := []) #[false, false, false, false, false, false, false, false, false, false, false, false, false, false, false, false, false, false, false, false, false, false, false, false, false, false, false, false] (by kernel_rfl) rfl rfl ⟨cr0, cr1, cr2⟩ (fun hHeld => ?_); refine with_tabW impl_TilingFirst.tab11 impl_TilingFirst.bits11 (fun HT_ HW_ => ?_)
                refine pure_ (i := 0) (N := some 36) (v := ?_) (a' := ?_) #[true, false, false, false, false, false, false, false, false, false, false, false, false, false, false, false, false, false, false, false, false, false, false, false, false, false, false, false] rfl rfl (any_of HT_.out (by kernel_rfl)) (fun _ _ _ h => h) (Or.inl ⟨by rfl, ?_⟩) ?_ ?_
                rotate_left
                · intro w'
                  go_simp
                  with_reducible rfl
                rotate_left
                · simp only [Act.put, List.setIfInBounds_toArray, List.set_cons_zero, List.set_cons_succ, i64_w, i32_w]
                  rfl
                refine pure_ (i := 1) (N := some 37) (v := ?_) (a' := ?_) #[true, true, false, false, false, false, false, false, false, false, false, false, false, false, false, false, false, false, false, false, false, false, false, false, false, false, false, false] rfl rfl (any_of HT_.out (by kernel_rfl)) (fun _ _ _ h => h) (Or.inl ⟨by rfl, ?_⟩) ?_ ?_
                rotate_left
                · intro w'
                  go_simp
                  with_reducible rfl
                rotate_left
                · simp only [Act.put, List.setIfInBounds_toArray, List.set_cons_zero, List.set_cons_succ, i64_w, i32_w]
                  rfl
                refine take_ (i := 2) (N := some 38) (v := ?_) (a' := ?_) #[true, true, true, false, false, false, false, false, false, false, false, false, false, false, false, false, false, false, false, false, false, false, false, false, false, false, false, false] rfl rfl (take_ofW HT_.out HW_.out (by kernel_rfl)) (fun _ _ _ h => h) (Or.inl ⟨by rfl, ?_⟩) hHeld ?_ ?_
                rotate_left
                · rintro w' ⟨s0, s1, s2⟩
                  go_simp
                  with_reducible rfl
                rotate_left
                · simp only [Act.put, List.setIfInBounds_toArray, List.set_cons_zero, List.set_cons_succ, i64_w, i32_w]
                  rfl
                refine pure_ (i := 3) (N := some 39) (v := ?_) (a' := ?_) #[true, true, true, true, false, false, false, false, false, false, false, false, false, false, false, false, false, false, false, false, false, false, false, false, false, false, false, false] rfl rfl (any_of HT_.out (by kernel_rfl)) (fun _ _ _ h => h) (Or.inl ⟨by rfl, ?_⟩) ?_ ?_
                rotate_left
                · intro w'
                  go_simp
                  with_reducible rfl
                rotate_left
                · simp only [Act.put, List.setIfInBounds_toArray, List.set_cons_zero, List.set_cons_succ, i64_w, i32_w]
                  rfl
                refine pure_ (i := 4) (N := some 40) (v := ?_) (a' := ?_) #[true, true, true, true, true, false, false, false, false, false, false, false, false, false, false, false, false, false, false, false, false, false, false, false, false, false, false, false] rfl rfl (any_of HT_.out (by kernel_rfl)) (fun _ _ _ h => h) (Or.inl ⟨by rfl, ?_⟩) ?_ ?_
                rotate_left
                · intro w'
                  go_simp
                  with_reducible rfl
                rotate_left
                · simp only [Act.put, List.setIfInBounds_toArray, List.set_cons_zero, List.set_cons_succ, i64_w, i32_w]
                  rfl
                refine take_ (i := 5) (N := some 41) (v := ?_) (a' := ?_) #[true, true, true, true, true, true, false, false, false, false, false, false, false, false, false, false, false, false, false, false, false, false, false, false, false, false, false, false] rfl rfl (take_ofW HT_.out HW_.out (by kernel_rfl)) (fun _ _ _ h => h) (Or.inl ⟨by rfl, ?_⟩) hHeld ?_ ?_
                rotate_left
                · rintro w' ⟨s0, s1, s2⟩
                  go_simp
                  with_reducible rfl
                rotate_left
                · simp only [Act.put, List.setIfInBounds_toArray, List.set_cons_zero, List.set_cons_succ, i64_w, i32_w]
                  rfl
                refine pure_ (i := 6) (N := some 42) (v := ?_) (a' := ?_) #[true, true, true, true, true, true, true, false, false, false, false, false, false, false, false, false, false, false, false, false, false, false, false, false, false, false, false, false] rfl rfl (any_of HT_.out (by kernel_rfl)) (fun _ _ _ h => h) (Or.inl ⟨by rfl, ?_⟩) ?_ ?_
                rotate_left
                · intro w'
                  go_simp
                  with_reducible rfl
                rotate_left
                · simp only [Act.put, List.setIfInBounds_toArray, List.set_cons_zero, List.set_cons_succ, i64_w, i32_w]
                  rfl
                refine pure_ (i := 7) (N := some 43) (v := ?_) (a' := ?_) #[true, true, true, true, true, true, true, true, false, false, false, false, false, false, false, false, false, false, false, false, false, false, false, false, false, false, false, false] rfl rfl (any_of HT_.out (by kernel_rfl)) (fun _ _ _ h => h) (Or.inl ⟨by rfl, ?_⟩) ?_ ?_
                rotate_left
                · intro w'
                  go_simp
                  with_reducible rfl
                rotate_left
                · simp only [Act.put, List.setIfInBounds_toArray, List.set_cons_zero, List.set_cons_succ, i64_w, i32_w]
                  rfl
                refine pure_ (i := 8) (N := some 44) (v := ?_) (a' := ?_) #[true, true, true, true, true, true, true, true, true, false, false, false, false, false, false, false, false, false, false, false, false, false, false, false, false, false, false, false] rfl rfl (any_of HT_.out (by kernel_rfl)) (fun _ _ _ h => h) (Or.inl ⟨by rfl, ?_⟩) ?_ ?_
                rotate_left
                · intro w'
                  go_simp
                  with_reducible rfl
                rotate_left
                · simp only [Act.put, List.setIfInBounds_toArray, List.set_cons_zero, List.set_cons_succ, i64_w, i32_w]
                  rfl
                refine pure_ (i := 9) (N := some 45) (v := ?_) (a' := ?_) #[true, true, true, true, true, true, true, true, true, true, false, false, false, false, false, false, false, false, false, false, false, false, false, false, false, false, false, false] rfl rfl (any_of HT_.out (by kernel_rfl)) (fun _ _ _ h => h) (Or.inl ⟨by rfl, ?_⟩) ?_ ?_
                rotate_left
                · intro w'
                  go_simp
                  with_reducible rfl
                rotate_left
                · simp only [Act.put, List.setIfInBounds_toArray, List.set_cons_zero, List.set_cons_succ, i64_w, i32_w]
                  rfl
                refine pure_ (i := 10) (N := some 46) (v := ?_) (a' := ?_) #[true, true, true, true, true, true, true, true, true, true, true, false, false, false, false, false, false, false, false, false, false, false, false, false, false, false, false, false] rfl rfl (any_of HT_.out (by kernel_rfl)) (fun _ _ _ h => h) (Or.inl ⟨by rfl, ?_⟩) ?_ ?_
                rotate_left
                · intro w'
                  go_simp
                  with_reducible rfl
                rotate_left
                · simp only [Act.put, List.setIfInBounds_toArray, List.set_cons_zero, List.set_cons_succ, i64_w, i32_w]
                  rfl
                refine pure_ (i := 11) (N := some 47) (v := ?_) (a' := ?_) #[true, true, true, true, true, true, true, true, true, true, true, true, false, false, false, false, false, false, false, false, false, false, false, false, false, false, false, false] rfl rfl (any_of HT_.out (by kernel_rfl)) (fun _ _ _ h => h) (Or.inl ⟨by rfl, ?_⟩) ?_ ?_
                rotate_left
                · intro w'
                  go_simp
                  with_reducible rfl
                rotate_left
                · simp only [Act.put, List.setIfInBounds_toArray, List.set_cons_zero, List.set_cons_succ, i64_w, i32_w]
                  rfl
                refine pure_ (i := 12) (N := some 48) (v := ?_) (a' := ?_) #[true, true, true, true, true, true, true, true, true, true, true, true, true, false, false, false, false, false, false, false, false, false, false, false, false, false, false, false] rfl rfl (any_of HT_.out (by kernel_rfl)) (fun _ _ _ h => h) (Or.inl ⟨by rfl, ?_⟩) ?_ ?_
                rotate_left
                · intro w'
                  go_simp
                  with_reducible rfl
                rotate_left
                · simp only [Act.put, List.setIfInBounds_toArray, List.set_cons_zero, List.set_cons_succ, i64_w, i32_w]
                  rfl
                refine pure_ (i := 13) (N := some 49) (v := ?_) (a' := ?_) #[true, true, true, true, true, true, true, true, true, true, true, true, true, true, false, false, false, false, false, false, false, false, false, false, false, false, false, false] rfl rfl (any_of HT_.out (by kernel_rfl)) (fun _ _ _ h => h) (Or.inl ⟨by rfl, ?_⟩) ?_ ?_
                rotate_left
                · intro w'
                  go_simp
                  with_reducible rfl
                rotate_left
                · simp only [Act.put, List.setIfInBounds_toArray, List.set_cons_zero, List.set_cons_succ, i64_w, i32_w]
                  rfl
                refine pure_ (i := 14) (N := some 50) (v := ?_) (a' := ?_) #[true, true, true, true, true, true, true, true, true, true, true, true, true, true, true, false, false, false, false, false, false, false, false, false, false, false, false, false] rfl rfl (any_of HT_.out (by kernel_rfl)) (fun _ _ _ h => h) (Or.inl ⟨by rfl, ?_⟩) ?_ ?_
                rotate_left
                · intro w'
                  go_simp
                  with_reducible rfl
                rotate_left
                · simp only [Act.put, List.setIfInBounds_toArray, List.set_cons_zero, List.set_cons_succ, i64_w, i32_w]
                  rfl
                refine pure_ (i := 15) (N := some 51) (v := ?_) (a' := ?_) #[true, true, true, true, true, true, true, true, true, true, true, true, true, true, true, true, false, false, false, false, false, false, false, false, false, false, false, false] rfl rfl (any_of HT_.out (by kernel_rfl)) (fun _ _ _ h => h) (Or.inl ⟨by rfl, ?_⟩) ?_ ?_
                rotate_left
                · intro w'
                  go_simp
                  with_reducible rfl
                rotate_left
                · simp only [Act.put, List.setIfInBounds_toArray, List.set_cons_zero, List.set_cons_succ, i64_w, i32_w]
                  rfl
                refine take_ (i := 16) (N := some 52) (v := ?_) (a' := ?_) #[true, true, true, true, true, true, true, true, true, true, true, true, true, true, true, true, true, false, false, false, false, false, false, false, false, false, false, false] rfl rfl (take_ofW HT_.out HW_.out (by kernel_rfl)) (fun _ _ _ h => h) (Or.inl ⟨by rfl, ?_⟩) hHeld ?_ ?_
                rotate_left
                · rintro w' ⟨s0, s1, s2⟩
                  go_simp
                  with_reducible rfl
                rotate_left
                · simp only [Act.put, List.setIfInBounds_toArray, List.set_cons_zero, List.set_cons_succ, i64_w, i32_w]
                  rfl
                refine pure_ (i := 17) (N := some 53) (v := ?_) (a' := ?_) #[true, true, true, true, true, true, true, true, true, true, true, true, true, true, true, true, true, true, false, false, false, false, false, false, false, false, false, false] rfl rfl (any_of HT_.out (by kernel_rfl)) (fun _ _ _ h => h) (Or.inl ⟨by rfl, ?_⟩) ?_ ?_
                rotate_left
                · intro w'
                  go_simp
                  with_reducible rfl
                rotate_left
                · simp only [Act.put, List.setIfInBounds_toArray, List.set_cons_zero, List.set_cons_succ, i64_w, i32_w]
                  rfl
                refine pure_ (i := 18) (N := some 54) (v := ?_) (a' := ?_) #[true, true, true, true, true, true, true, true, true, true, true, true, true, true, true, true, true, true, true, false, false, false, false, false, false, false, false, false] rfl rfl (any_of HT_.out (by kernel_rfl)) (fun _ _ _ h => h) (Or.inl ⟨by rfl, ?_⟩) ?_ ?_
                rotate_left
                · intro w'
                  go_simp
                  with_reducible rfl
                rotate_left
                · simp only [Act.put, List.setIfInBounds_toArray, List.set_cons_zero, List.set_cons_succ, i64_w, i32_w]
                  rfl
                refine pure_ (i := 19) (N := some 55) (v := ?_) (a' := ?_) #[true, true, true, true, true, true, true, true, true, true, true, true, true, true, true, true, true, true, true, true, false, false, false, false, false, false, false, false] rfl rfl (any_of HT_.out (by kernel_rfl)) (fun _ _ _ h => h) (Or.inl ⟨by rfl, ?_⟩) ?_ ?_
                rotate_left
                · intro w'
                  go_simp
                  with_reducible rfl
                rotate_left
                · simp only [Act.put, List.setIfInBounds_toArray, List.set_cons_zero, List.set_cons_succ, i64_w, i32_w]
                  rfl
                refine pure_ (i := 20) (N := some 56) (v := ?_) (a' := ?_) #[true, true, true, true, true, true, true, true, true, true, true, true, true, true, true, true, true, true, true, true, true, false, false, false, false, false, false, false] rfl rfl (any_of HT_.out (by kernel_rfl)) (fun _ _ _ h => h) (Or.inl ⟨by rfl, ?_⟩) ?_ ?_
                rotate_left
                · intro w'
                  go_simp
                  with_reducible rfl
                rotate_left
                · simp only [Act.put, List.setIfInBounds_toArray, List.set_cons_zero, List.set_cons_succ, i64_w, i32_w]
                  rfl
                refine pure_ (i := 21) (N := some 57) (v := ?_) (a' := ?_) #[true, true, true, true, true, true, true, true, true, true, true, true, true, true, true, true, true, true, true, true, true, true, false, false, false, false, false, false] rfl rfl (any_of HT_.out (by kernel_rfl)) (fun _ _ _ h => h) (Or.inl ⟨by rfl, ?_⟩) ?_ ?_
                rotate_left
                · intro w'
                  go_simp
                  with_reducible rfl
                rotate_left
                · simp only [Act.put, List.setIfInBounds_toArray, List.set_cons_zero, List.set_cons_succ, i64_w, i32_w]
                  rfl
                refine pure_ (i := 22) (N := some 58) (v := ?_) (a' := ?_) #[true, true, true, true, true, true, true, true, true, true, true, true, true, true, true, true, true, true, true, true, true, true, true, false, false, false, false, false] rfl rfl (any_of HT_.out (by kernel_rfl)) (fun _ _ _ h => h) (Or.inl ⟨by rfl, ?_⟩) ?_ ?_
                rotate_left
                · intro w'
                  go_simp
                  with_reducible rfl
                rotate_left
                · simp only [Act.put, List.setIfInBounds_toArray, List.set_cons_zero, List.set_cons_succ, i64_w, i32_w]
                  rfl
                refine pure_ (i := 23) (N := some 59) (v := ?_) (a' := ?_) #[true, true, true, true, true, true, true, true, true, true, true, true, true, true, true, true, true, true, true, true, true, true, true, true, false, false, false, false] rfl rfl (any_of HT_.out (by kernel_rfl)) (fun _ _ _ h => h) (Or.inl ⟨by rfl, ?_⟩) ?_ ?_
                rotate_left
                · intro w'
                  go_simp
                  with_reducible rfl
                rotate_left
                · simp only [Act.put, List.setIfInBounds_toArray, List.set_cons_zero, List.set_cons_succ, i64_w, i32_w]
                  rfl
                refine pure_ (i := 24) (N := some 60) (v := ?_) (a' := ?_) #[true, true, true, true, true, true, true, true, true, true, true, true, true, true, true, true, true, true, true, true, true, true, true, true, true, false, false, false] rfl rfl (any_of HT_.out (by kernel_rfl)) (fun _ _ _ h => h) (Or.inl ⟨by rfl, ?_⟩) ?_ ?_
                rotate_left
                · intro w'
                  go_simp
                  with_reducible rfl
                rotate_left
                · simp only [Act.put, List.setIfInBounds_toArray, List.set_cons_zero, List.set_cons_succ, i64_w, i32_w]
                  rfl
                refine one_ (i := 25) (N := some 61) #[true, true, true, true, true, true, true, true, true, true, true, true, true, true, true, true, true, true, true, true, true, true, true, true, true, true, false, false] rfl rfl (one_of HT_.out (by kernel_rfl)) (by decide) (fun K hK => ?_)
                refine call_ 26 #[.agg #[.int .i64 a0, .int .i64 a1, .int .i64 a2], .int .i64 (Go.bits .or .i64 (Go.bits .or .i64 v jt) ju), .map (some wb.heap.size)] (by rfl) rfl ?_ ?_
                · first | (go_simp; done) | (go_simp; rfl)
                refine (impl_tilings.calls a0 a1 a2 wb.heap.size HMB.out.2.1 k1 _ qs m1 m2 _ (wf_bits _ _ _) (by first | exact HM.out | exact HM.out.below (below_drew1 (Below.refl _ _)) | exact HM.out.below (pw_below_drewN (Below.refl _ _) _) | exact HM.out.below (below_drew1 (pw_below_drewN (Below.refl _ _) _))) (by first | exact HTr.out | exact HTr.out.below (below_drew1 (Below.refl _ _)) | exact HTr.out.below (pw_below_drewN (Below.refl _ _) _) | exact HTr.out.below (below_drew1 (pw_below_drewN (Below.refl _ _) _))) HF1.out).mono ?_
                rintro e wcA ⟨rfl, hd1, hd2, hd3⟩
                have HMa := Aside0.mk hd1
                have hgA : wr.grownBy wcA (some wb.heap.size) := grown_trans (grown_of_below (by first | exact Below.refl _ _ | exact below_drew1 (Below.refl _ _) | exact pw_below_drewN (Below.refl _ _) _ | exact below_drew1 (pw_below_drewN (Below.refl _ _) _)) (some wb.heap.size)) hd2
                have HBa := Aside0.mk (HB.out.grown hgA HB.out.size (fun q hq => by injection hq with hq; have := HMB.out; omega))
                have HXa := Aside0.mk (blk_grown HX.out hgA (by intro e1; injection e1 with e1; exact HMB.out.1 e1.symm))
                have HOa := Aside0.mk (Kd.R_grown HO.out hgA (fun q hq e1 => hq (Option.some.inj e1)))
                have HTa := Aside0.mk (HTr.out.grown hgA HMB.out.2.1)
                have cq0 : wcA.cell? ⟨w.heap.size, 0, none⟩ = some (.int .i64 a0) := blk_cell HXa.out 0
                have cq1 : wcA.cell? ⟨w.heap.size, 1, none⟩ = some (.int .i64 a1) := blk_cell HXa.out 1
                have cq2 : wcA.cell? ⟨w.heap.size, 2, none⟩ = some (.int .i64 a2) := blk_cell HXa.out 2
                clear hd1 hd2 hd3 hgA
                refine ⟨_, rfl, ?_⟩
                refine hK.out _ _ ⟨cq0, cq1, cq2⟩ (fun hHeld => ?_)
                clear hK K
                refine norm_ (a' := ?_) ?_ ?_
                rotate_left
                · show Act.put _ (some 61) _ = _
                  simp only [Act.put, List.setIfInBounds_toArray, List.set_cons_zero, List.set_cons_succ, i64_w, i32_w]
                  rfl
                refine pure_ (i := 26) (N := some 62) (v := ?_) (a' := ?_) #[true, true, true, true, true, true, true, true, true, true, true, true, true, true, true, true, true, true, true, true, true, true, true, true, true, true, true, false] rfl rfl (any_of HT_.out (by kernel_rfl)) (fun _ _ _ h => h) (Or.inl ⟨by rfl, ?_⟩) ?_ ?_
                rotate_left
                · intro w'
                  go_simp
                  with_reducible rfl
                rotate_left
                · simp only [Act.put, List.setIfInBounds_toArray, List.set_cons_zero, List.set_cons_succ, i64_w, i32_w]
                  rfl
                refine pure_ (i := 27) (N := some 63) (v := ?_) (a' := ?_) #[true, true, true, true, true, true, true, true, true, true, true, true, true, true, true, true, true, true, true, true, true, true, true, true, true, true, true, true] rfl rfl (any_of HT_.out (by kernel_rfl)) (fun _ _ _ h => h) (Or.inl ⟨by rfl, ?_⟩) ?_ ?_
                rotate_left
                · intro w'
                  go_simp
                  with_reducible rfl
                rotate_left
                · simp only [Act.put, List.setIfInBounds_toArray, List.set_cons_zero, List.set_cons_succ, i64_w, i32_w]
                  rfl
                refine done_ (done_of HT_.out (by kernel_rfl)) ?_
                go_wp2_with (first | ((with_reducible refine gate_dst (N := 67) rfl ?_); refine Kd.R_lit (Kd.int .i64) _ 3 ?hg (N := 67) ?hd (xs := ([tz, u] : List Int)) (inner := [.int .i64 tz, .int .i64 u]) (ok := fun _ => True) (okp := fun _ => True) ?hr ?hp (fun _ hk => hk) trivial (Below.refl _ _) (Nat.le_refl _) (by simp) ?_; (case hd => rfl); (case hg => rfl); (case hr => first | (go_simp; done) | (go_simp; rfl)); (case hp => exact (Reps.one (show Kd.M (Kd.int .i64) _ _ _ tz [.int .i64 tz] from rfl) (Reps.one (show Kd.M (Kd.int .i64) _ _ _ u [.int .i64 u] from rfl) (Reps.none _ _)))); intro vL wL hoL hb hg_ hnew_; clear hg_ hnew_; have HOl := Aside0.mk (Kd.R_elder' (by (with_reducible repeat (first | apply Kd.R_alloc | apply Kd.R_drewN | apply Kd.R_drew)); exact HOa.out) (Kd.R_base hoL) hb); have HLl := Aside0.mk (Kd.R_lower (Kd.R_new' hoL (Kd.R_lt (by (with_reducible repeat (first | apply Kd.R_alloc | apply Kd.R_drewN | apply Kd.R_drew)); exact HOa.out))) (below_size (by repeat (first | (with_reducible first | exact HBa.out | apply below_alloc | apply pw_below_drewN | apply below_drew1) | exact HBa.out)))); have HXl := Aside0.mk (blk_below (by (with_reducible repeat (first | refine blk_drewN ?_ _ | refine blk_drew ?_ | refine blk_alloc ?_ _)); exact HXa.out) hb); have HBl := Aside0.mk (below_step (by repeat (first | (with_reducible first | exact HBa.out | apply below_alloc | apply pw_below_drewN | apply below_drew1) | exact HBa.out)) hb); have hlB : Below wcA.heap.size wcA wL := below_step (by first | exact Below.refl _ _ | exact below_drew1 (Below.refl _ _) | exact pw_below_drewN (Below.refl _ _) _ | exact below_drew1 (pw_below_drewN (Below.refl _ _) _)) hb; have HMl := Aside0.mk (HMa.out.below hlB); have HTl := Aside0.mk (HTa.out.below hlB); clear hlB hb hoL; obtain ⟨AL, cL, eL⟩ := Kd.R_slice HLl.out; subst eL) | ((with_reducible refine gate_builtin (b := .append) (xs := #[.tmp 64, .tmp 67]) rfl ?_); at_builtin; refine Kd.R_append_rows (Kd.int .i64) (w0 := w) w.heap.size rfl (.tmp 64) (.tmp 67) 28 3 (.int .i64 0) 8 rfl Tryd.underlying28 hi3 rfl (by decide) (by omega) u6 xs [tz, u] _ _ _ (fun k_ => k_ ≠ wb.heap.size) (fun _ => False) rfl rfl ?aO ?aR (fun _ _ h => h) (fun _ h => h.elim) ?aF ?aB ?aS ?aL ?_; (case aR => repeat (first | exact (Kd.R_reads' HLl.out).2.2 | (with_reducible refine Kd.C_alloc ?_ _) | (with_reducible refine Kd.C_drewN ?_ _) | (with_reducible refine Kd.C_drew ?_))); (case aB => exact (by repeat (first | (with_reducible first | exact HBl.out | apply below_alloc | apply pw_below_drewN | apply below_drew1) | exact HBl.out))); (case aF => exact (fun k_ hk e1 => by have h1 := HMl.out.lt; have h2 : wL.heap.size ≤ k_ := hk; omega)); (case aO => exact (by (with_reducible repeat (first | apply Kd.R_alloc | apply Kd.R_drewN | apply Kd.R_drew)); exact Kd.R_mono HOl.out (fun _ hk => hk.1))); (case aS => exact (below_size (by repeat (first | (with_reducible first | exact HBl.out | apply below_alloc | apply pw_below_drewN | apply below_drew1) | exact HBl.out)))); (case aL => have := LM.out; simp only [List.length_cons, List.length_nil]; omega); intro vA w5 ho hb hg hat; have HO5 := Aside0.mk ho; have HB5 := Aside0.mk hb; have HX5 := Aside0.mk (blk_grown HXl.out hg (Kd.R_ne HOl.out HXl.out (by decide))); have haw5 := Kd.R_away (Kd.R_mono HOl.out (fun _ hk => hk.1)) (g := wb.heap.size) (fun _ hk => hk); have HM5 := Aside0.mk (HMl.out.kept hg haw5); have HT5 := Aside0.mk (HT.out.below hb); clear ho hb hg hat haw5))
                have cz0 : w5.cell? ⟨w.heap.size, 0, none⟩ = some (.int .i64 a0) := blk_cell HX5.out 0
                have cz1 : w5.cell? ⟨w.heap.size, 1, none⟩ = some (.int .i64 a1) := blk_cell HX5.out 1
                have cz2 : w5.cell? ⟨w.heap.size, 2, none⟩ = some (.int .i64 a2) := blk_cell HX5.out 2
                go_quiet (fail)
                go_wp2_with fail
                go_roundg k1
                case measure => have := HK.out; omega
                case rel => exact ⟨Go.bits .or .i64 v (Go.bits .or .i64 jt ju), xs ++ [tz, u], m2, rfl, HH, ⟨by have := HK.out; omega⟩, ⟨by (with_reducible repeat (first | apply Kd.R_alloc | apply Kd.R_drewN | apply Kd.R_drew)); exact HO5.out⟩, ⟨by (with_reducible repeat (first | refine blk_drewN ?_ _ | refine blk_drew ?_ | refine blk_alloc ?_ _)); exact HX5.out⟩, ⟨(by first | exact HM5.out | exact HM5.out.below (below_drew1 (Below.refl _ _)) | exact HM5.out.below (pw_below_drewN (Below.refl _ _) _) | exact HM5.out.below (below_drew1 (pw_below_drewN (Below.refl _ _) _)))⟩, ⟨(by first | exact HT5.out | exact HT5.out.below (below_drew1 (Below.refl _ _)) | exact HT5.out.below (pw_below_drewN (Below.refl _ _) _) | exact HT5.out.below (below_drew1 (pw_below_drewN (Below.refl _ _) _)))⟩, ⟨(by repeat (first | (with_reducible first | exact HB5.out | apply below_alloc | apply pw_below_drewN | apply below_drew1) | exact HB5.out))⟩, ⟨wf_bits _ _ _⟩⟩
              · rw [if_neg cP] at h
                have cP' : decide (0 < m1) = false := decide_eq_false cP
                have cP'' : decide (m1 > 0) = false := decide_eq_false cP
                clear cP
                have HH := Aside0.mk h
                clear h
                refine start_ (n := 28) (S := fun w' => w'.cell? ⟨w.heap.size, 0, none⟩ = some (.int .i64 a0) ∧ w'.cell? ⟨w.heap.size, 1, none⟩ = some (.int .i64 a1) ∧ w'.cell? ⟨w.heap.size, 2, none⟩ = some (.int .i64 a2)) (ds := []) #[false, false, false, false, false, false, false, false, false, false, false, false, false, false, false, false, false, false, false, false, false, false, false, false, false, false, false, false] (by kernel_rfl) rfl rfl ⟨cr0, cr1, cr2⟩ (fun hHeld => ?_); refine with_tabW impl_TilingFirst.tab11 impl_TilingFirst.bits11 (fun HT_ HW_ => ?_)
                refine pure_ (i := 0) (N := some 36) (v := ?_) (a' := ?_) #[true, false, false, false, false, false, false, false, false, false, false, false, false, false, false, false, false, false, false, false, false, false, false, false, false, false, false, false] rfl rfl (any_of HT_.out (by kernel_rfl)) (fun _ _ _ h => h) (Or.inl ⟨by rfl, ?_⟩) ?_ ?_
                rotate_left
                · intro w'
                  go_simp
                  with_reducible rfl
                rotate_left
                · simp only [Act.put, List.setIfInBounds_toArray, List.set_cons_zero, List.set_cons_succ, i64_w, i32_w]
                  rfl
                refine pure_ (i := 1) (N := some 37) (v := ?_) (a' := ?_) #[true, true, false, false, false, false, false, false, false, false, false, false, false, false, false, false, false, false, false, false, false, false, false, false, false, false, false, false] rfl rfl (any_of HT_.out (by kernel_rfl)) (fun _ _ _ h => h) (Or.inl ⟨by rfl, ?_⟩) ?_ ?_
                rotate_left
                · intro w'
                  go_simp
                  with_reducible rfl
                rotate_left
                · simp only [Act.put, List.setIfInBounds_toArray, List.set_cons_zero, List.set_cons_succ, i64_w, i32_w]
                  rfl
                refine take_ (i := 2) (N := some 38) (v := ?_) (a' := ?_) #[true, true, true, false, false, false, false, false, false, false, false, false, false, false, false, false, false, false, false, false, false, false, false, false, false, false, false, false] rfl rfl (take_ofW HT_.out HW_.out (by kernel_rfl)) (fun _ _ _ h => h) (Or.inl ⟨by rfl, ?_⟩) hHeld ?_ ?_
                rotate_left
                · rintro w' ⟨s0, s1, s2⟩
                  go_simp
                  with_reducible rfl
                rotate_left
                · simp only [Act.put, List.setIfInBounds_toArray, List.set_cons_zero, List.set_cons_succ, i64_w, i32_w]
                  rfl
                refine pure_ (i := 3) (N := some 39) (v := ?_) (a' := ?_) #[true, true, true, true, false, false, false, false, false, false, false, false, false, false, false, false, false, false, false, false, false, false, false, false, false, false, false, false] rfl rfl (any_of HT_.out (by kernel_rfl)) (fun _ _ _ h => h) (Or.inl ⟨by rfl, ?_⟩) ?_ ?_
                rotate_left
                · intro w'
                  go_simp
                  with_reducible rfl
                rotate_left
                · simp only [Act.put, List.setIfInBounds_toArray, List.set_cons_zero, List.set_cons_succ, i64_w, i32_w]
                  rfl
                refine pure_ (i := 4) (N := some 40) (v := ?_) (a' := ?_) #[true, true, true, true, true, false, false, false, false, false, false, false, false, false, false, false, false, false, false, false, false, false, false, false, false, false, false, false] rfl rfl (any_of HT_.out (by kernel_rfl)) (fun _ _ _ h => h) (Or.inl ⟨by rfl, ?_⟩) ?_ ?_
                rotate_left
                · intro w'
                  go_simp
                  with_reducible rfl
                rotate_left
                · simp only [Act.put, List.setIfInBounds_toArray, List.set_cons_zero, List.set_cons_succ, i64_w, i32_w]
                  rfl
                refine take_ (i := 5) (N := some 41) (v := ?_) (a' := ?_) #[true, true, true, true, true, true, false, false, false, false, false, false, false, false, false, false, false, false, false, false, false, false, false, false, false, false, false, false] rfl rfl (take_ofW HT_.out HW_.out (by kernel_rfl)) (fun _ _ _ h => h) (Or.inl ⟨by rfl, ?_⟩) hHeld ?_ ?_
                rotate_left
                · rintro w' ⟨s0, s1, s2⟩
                  go_simp
                  with_reducible rfl
                rotate_left
                · simp only [Act.put, List.setIfInBounds_toArray, List.set_cons_zero, List.set_cons_succ, i64_w, i32_w]
                  rfl
                refine pure_ (i := 6) (N := some 42) (v := ?_) (a' := ?_) #[true, true, true, true, true, true, true, false, false, false, false, false, false, false, false, false, false, false, false, false, false, false, false, false, false, false, false, false] rfl rfl (any_of HT_.out (by kernel_rfl)) (fun _ _ _ h => h) (Or.inl ⟨by rfl, ?_⟩) ?_ ?_
                rotate_left
                · intro w'
                  go_simp
                  with_reducible rfl
                rotate_left
                · simp only [Act.put, List.setIfInBounds_toArray, List.set_cons_zero, List.set_cons_succ, i64_w, i32_w]
                  rfl
                refine pure_ (i := 7) (N := some 43) (v := ?_) (a' := ?_) #[true, true, true, true, true, true, true, true, false, false, false, false, false, false, false, false, false, false, false, false, false, false, false, false, false, false, false, false] rfl rfl (any_of HT_.out (by kernel_rfl)) (fun _ _ _ h => h) (Or.inl ⟨by rfl, ?_⟩) ?_ ?_
                rotate_left
                · intro w'
                  go_simp
                  with_reducible rfl
                rotate_left
                · simp only [Act.put, List.setIfInBounds_toArray, List.set_cons_zero, List.set_cons_succ, i64_w, i32_w]
                  rfl
                refine pure_ (i := 8) (N := some 44) (v := ?_) (a' := ?_) #[true, true, true, true, true, true, true, true, true, false, false, false, false, false, false, false, false, false, false, false, false, false, false, false, false, false, false, false] rfl rfl (any_of HT_.out (by kernel_rfl)) (fun _ _ _ h => h) (Or.inl ⟨by rfl, ?_⟩) ?_ ?_
                rotate_left
                · intro w'
                  go_simp
                  with_reducible rfl
                rotate_left
                · simp only [Act.put, List.setIfInBounds_toArray, List.set_cons_zero, List.set_cons_succ, i64_w, i32_w]
                  rfl
                refine pure_ (i := 9) (N := some 45) (v := ?_) (a' := ?_) #[true, true, true, true, true, true, true, true, true, true, false, false, false, false, false, false, false, false, false, false, false, false, false, false, false, false, false, false] rfl rfl (any_of HT_.out (by kernel_rfl)) (fun _ _ _ h => h) (Or.inl ⟨by rfl, ?_⟩) ?_ ?_
                rotate_left
                · intro w'
                  go_simp
                  with_reducible rfl
                rotate_left
                · simp only [Act.put, List.setIfInBounds_toArray, List.set_cons_zero, List.set_cons_succ, i64_w, i32_w]
                  rfl
                refine pure_ (i := 10) (N := some 46) (v := ?_) (a' := ?_) #[true, true, true, true, true, true, true, true, true, true, true, false, false, false, false, false, false, false, false, false, false, false, false, false, false, false, false, false] rfl rfl (any_of HT_.out (by kernel_rfl)) (fun _ _ _ h => h) (Or.inl ⟨by rfl, ?_⟩) ?_ ?_
                rotate_left
                · intro w'
                  go_simp
                  with_reducible rfl
                rotate_left
                · simp only [Act.put, List.setIfInBounds_toArray, List.set_cons_zero, List.set_cons_succ, i64_w, i32_w]
                  rfl
                refine pure_ (i := 11) (N := some 47) (v := ?_) (a' := ?_) #[true, true, true, true, true, true, true, true, true, true, true, true, false, false, false, false, false, false, false, false, false, false, false, false, false, false, false, false] rfl rfl (any_of HT_.out (by kernel_rfl)) (fun _ _ _ h => h) (Or.inl ⟨by rfl, ?_⟩) ?_ ?_
                rotate_left
                · intro w'
                  go_simp
                  with_reducible rfl
                rotate_left
                · simp only [Act.put, List.setIfInBounds_toArray, List.set_cons_zero, List.set_cons_succ, i64_w, i32_w]
                  rfl
                refine pure_ (i := 12) (N := some 48) (v := ?_) (a' := ?_) #[true, true, true, true, true, true, true, true, true, true, true, true, true, false, false, false, false, false, false, false, false, false, false, false, false, false, false, false] rfl rfl (any_of HT_.out (by kernel_rfl)) (fun _ _ _ h => h) (Or.inl ⟨by rfl, ?_⟩) ?_ ?_
                rotate_left
                · intro w'
                  go_simp
                  with_reducible rfl
                rotate_left
                · simp only [Act.put, List.setIfInBounds_toArray, List.set_cons_zero, List.set_cons_succ, i64_w, i32_w]
                  rfl
                refine pure_ (i := 13) (N := some 49) (v := ?_) (a' := ?_) #[true, true, true, true, true, true, true, true, true, true, true, true, true, true, false, false, false, false, false, false, false, false, false, false, false, false, false, false] rfl rfl (any_of HT_.out (by kernel_rfl)) (fun _ _ _ h => h) (Or.inl ⟨by rfl, ?_⟩) ?_ ?_
                rotate_left
                · intro w'
                  go_simp
                  with_reducible rfl
                rotate_left
                · simp only [Act.put, List.setIfInBounds_toArray, List.set_cons_zero, List.set_cons_succ, i64_w, i32_w]
                  rfl
                refine pure_ (i := 14) (N := some 50) (v := ?_) (a' := ?_) #[true, true, true, true, true, true, true, true, true, true, true, true, true, true, true, false, false, false, false, false, false, false, false, false, false, false, false, false] rfl rfl (any_of HT_.out (by kernel_rfl)) (fun _ _ _ h => h) (Or.inl ⟨by rfl, ?_⟩) ?_ ?_
                rotate_left
                · intro w'
                  go_simp
                  with_reducible rfl
                rotate_left
                · simp only [Act.put, List.setIfInBounds_toArray, List.set_cons_zero, List.set_cons_succ, i64_w, i32_w]
                  rfl
                refine pure_ (i := 15) (N := some 51) (v := ?_) (a' := ?_) #[true, true, true, true, true, true, true, true, true, true, true, true, true, true, true, true, false, false, false, false, false, false, false, false, false, false, false, false] rfl rfl (any_of HT_.out (by kernel_rfl)) (fun _ _ _ h => h) (Or.inl ⟨by rfl, ?_⟩) ?_ ?_
                rotate_left
                · intro w'
                  go_simp
                  with_reducible rfl
                rotate_left
                · simp only [Act.put, List.setIfInBounds_toArray, List.set_cons_zero, List.set_cons_succ, i64_w, i32_w]
                  rfl
                refine take_ (i := 16) (N := some 52) (v := ?_) (a' := ?_) #[true, true, true, true, true, true, true, true, true, true, true, true, true, true, true, true, true, false, false, false, false, false, false, false, false, false, false, false] rfl rfl (take_ofW HT_.out HW_.out (by kernel_rfl)) (fun _ _ _ h => h) (Or.inl ⟨by rfl, ?_⟩) hHeld ?_ ?_
                rotate_left
                · rintro w' ⟨s0, s1, s2⟩
                  go_simp
                  with_reducible rfl
                rotate_left
                · simp only [Act.put, List.setIfInBounds_toArray, List.set_cons_zero, List.set_cons_succ, i64_w, i32_w]
                  rfl
                refine pure_ (i := 17) (N := some 53) (v := ?_) (a' := ?_) #[true, true, true, true, true, true, true, true, true, true, true, true, true, true, true, true, true, true, false, false, false, false, false, false, false, false, false, false] rfl rfl (any_of HT_.out (by kernel_rfl)) (fun _ _ _ h => h) (Or.inl ⟨by rfl, ?_⟩) ?_ ?_
                rotate_left
                · intro w'
                  go_simp
                  with_reducible rfl
                rotate_left
                · simp only [Act.put, List.setIfInBounds_toArray, List.set_cons_zero, List.set_cons_succ, i64_w, i32_w]
                  rfl
                refine pure_ (i := 18) (N := some 54) (v := ?_) (a' := ?_) #[true, true, true, true, true, true, true, true, true, true, true, true, true, true, true, true, true, true, true, false, false, false, false, false, false, false, false, false] rfl rfl (any_of HT_.out (by kernel_rfl)) (fun _ _ _ h => h) (Or.inl ⟨by rfl, ?_⟩) ?_ ?_
                rotate_left
                · intro w'
                  go_simp
                  with_reducible rfl
                rotate_left
                · simp only [Act.put, List.setIfInBounds_toArray, List.set_cons_zero, List.set_cons_succ, i64_w, i32_w]
                  rfl
                refine pure_ (i := 19) (N := some 55) (v := ?_) (a' := ?_) #[true, true, true, true, true, true, true, true, true, true, true, true, true, true, true, true, true, true, true, true, false, false, false, false, false, false, false, false] rfl rfl (any_of HT_.out (by kernel_rfl)) (fun _ _ _ h => h) (Or.inl ⟨by rfl, ?_⟩) ?_ ?_
                rotate_left
                · intro w'
                  go_simp
                  with_reducible rfl
                rotate_left
                · simp only [Act.put, List.setIfInBounds_toArray, List.set_cons_zero, List.set_cons_succ, i64_w, i32_w]
                  rfl
                refine pure_ (i := 20) (N := some 56) (v := ?_) (a' := ?_) #[true, true, true, true, true, true, true, true, true, true, true, true, true, true, true, true, true, true, true, true, true, false, false, false, false, false, false, false] rfl rfl (any_of HT_.out (by kernel_rfl)) (fun _ _ _ h => h) (Or.inl ⟨by rfl, ?_⟩) ?_ ?_
                rotate_left
                · intro w'
                  go_simp
                  with_reducible rfl
                rotate_left
                · simp only [Act.put, List.setIfInBounds_toArray, List.set_cons_zero, List.set_cons_succ, i64_w, i32_w]
                  rfl
                refine pure_ (i := 21) (N := some 57) (v := ?_) (a' := ?_) #[true, true, true, true, true, true, true, true, true, true, true, true, true, true, true, true, true, true, true, true, true, true, false, false, false, false, false, false] rfl rfl (any_of HT_.out (by kernel_rfl)) (fun _ _ _ h => h) (Or.inl ⟨by rfl, ?_⟩) ?_ ?_
                rotate_left
                · intro w'
                  go_simp
                  with_reducible rfl
                rotate_left
                · simp only [Act.put, List.setIfInBounds_toArray, List.set_cons_zero, List.set_cons_succ, i64_w, i32_w]
                  rfl
                refine pure_ (i := 22) (N := some 58) (v := ?_) (a' := ?_) #[true, true, true, true, true, true, true, true, true, true, true, true, true, true, true, true, true, true, true, true, true, true, true, false, false, false, false, false] rfl rfl (any_of HT_.out (by kernel_rfl)) (fun _ _ _ h => h) (Or.inl ⟨by rfl, ?_⟩) ?_ ?_
                rotate_left
                · intro w'
                  go_simp
                  with_reducible rfl
                rotate_left
                · simp only [Act.put, List.setIfInBounds_toArray, List.set_cons_zero, List.set_cons_succ, i64_w, i32_w]
                  rfl
                refine pure_ (i := 23) (N := some 59) (v := ?_) (a' := ?_) #[true, true, true, true, true, true, true, true, true, true, true, true, true, true, true, true, true, true, true, true, true, true, true, true, false, false, false, false] rfl rfl (any_of HT_.out (by kernel_rfl)) (fun _ _ _ h => h) (Or.inl ⟨by rfl, ?_⟩) ?_ ?_
                rotate_left
                · intro w'
                  go_simp
                  with_reducible rfl
                rotate_left
                · simp only [Act.put, List.setIfInBounds_toArray, List.set_cons_zero, List.set_cons_succ, i64_w, i32_w]
                  rfl
                refine pure_ (i := 24) (N := some 60) (v := ?_) (a' := ?_) #[true, true, true, true, true, true, true, true, true, true, true, true, true, true, true, true, true, true, true, true, true, true, true, true, true, false, false, false] rfl rfl (any_of HT_.out (by kernel_rfl)) (fun _ _ _ h => h) (Or.inl ⟨by rfl, ?_⟩) ?_ ?_
                rotate_left
                · intro w'
                  go_simp
                  with_reducible rfl
                rotate_left
                · simp only [Act.put, List.setIfInBounds_toArray, List.set_cons_zero, List.set_cons_succ, i64_w, i32_w]
                  rfl
                refine one_ (i := 25) (N := some 61) #[true, true, true, true, true, true, true, true, true, true, true, true, true, true, true, true, true, true, true, true, true, true, true, true, true, true, false, false] rfl rfl (one_of HT_.out (by kernel_rfl)) (by decide) (fun K hK => ?_)
                refine call_ 26 #[.agg #[.int .i64 a0, .int .i64 a1, .int .i64 a2], .int .i64 (Go.bits .or .i64 (Go.bits .or .i64 v jt) ju), .map (some wb.heap.size)] (by rfl) rfl ?_ ?_
                · first | (go_simp; done) | (go_simp; rfl)
                refine (impl_tilings.calls a0 a1 a2 wb.heap.size HMB.out.2.1 k1 _ qs m1 m2 _ (wf_bits _ _ _) (by first | exact HM.out | exact HM.out.below (below_drew1 (Below.refl _ _)) | exact HM.out.below (pw_below_drewN (Below.refl _ _) _) | exact HM.out.below (below_drew1 (pw_below_drewN (Below.refl _ _) _))) (by first | exact HTr.out | exact HTr.out.below (below_drew1 (Below.refl _ _)) | exact HTr.out.below (pw_below_drewN (Below.refl _ _) _) | exact HTr.out.below (below_drew1 (pw_below_drewN (Below.refl _ _) _))) HF1.out).mono ?_
                rintro e wcA ⟨rfl, hd1, hd2, hd3⟩
                have HMa := Aside0.mk hd1
                have hgA : wr.grownBy wcA (some wb.heap.size) := grown_trans (grown_of_below (by first | exact Below.refl _ _ | exact below_drew1 (Below.refl _ _) | exact pw_below_drewN (Below.refl _ _) _ | exact below_drew1 (pw_below_drewN (Below.refl _ _) _)) (some wb.heap.size)) hd2
                have HBa := Aside0.mk (HB.out.grown hgA HB.out.size (fun q hq => by injection hq with hq; have := HMB.out; omega))
                have HXa := Aside0.mk (blk_grown HX.out hgA (by intro e1; injection e1 with e1; exact HMB.out.1 e1.symm))
                have HOa := Aside0.mk (Kd.R_grown HO.out hgA (fun q hq e1 => hq (Option.some.inj e1)))
                have HTa := Aside0.mk (HTr.out.grown hgA HMB.out.2.1)
                have cq0 : wcA.cell? ⟨w.heap.size, 0, none⟩ = some (.int .i64 a0) := blk_cell HXa.out 0
                have cq1 : wcA.cell? ⟨w.heap.size, 1, none⟩ = some (.int .i64 a1) := blk_cell HXa.out 1
                have cq2 : wcA.cell? ⟨w.heap.size, 2, none⟩ = some (.int .i64 a2) := blk_cell HXa.out 2
                clear hd1 hd2 hd3 hgA
                refine ⟨_, rfl, ?_⟩
                refine hK.out _ _ ⟨cq0, cq1, cq2⟩ (fun hHeld => ?_)
                clear hK K
                refine norm_ (a' := ?_) ?_ ?_
                rotate_left
                · show Act.put _ (some 61) _ = _
                  simp only [Act.put, List.setIfInBounds_toArray, List.set_cons_zero, List.set_cons_succ, i64_w, i32_w]
                  rfl
                refine pure_ (i := 26) (N := some 62) (v := ?_) (a' := ?_) #[true, true, true, true, true, true, true, true, true, true, true, true, true, true, true, true, true, true, true, true, true, true, true, true, true, true, true, false] rfl rfl (any_of HT_.out (by kernel_rfl)) (fun _ _ _ h => h) (Or.inl ⟨by rfl, ?_⟩) ?_ ?_
                rotate_left
                · intro w'
                  go_simp
                  with_reducible rfl
                rotate_left
                · simp only [Act.put, List.setIfInBounds_toArray, List.set_cons_zero, List.set_cons_succ, i64_w, i32_w]
                  rfl
                refine pure_ (i := 27) (N := some 63) (v := ?_) (a' := ?_) #[true, true, true, true, true, true, true, true, true, true, true, true, true, true, true, true, true, true, true, true, true, true, true, true, true, true, true, true] rfl rfl (any_of HT_.out (by kernel_rfl)) (fun _ _ _ h => h) (Or.inl ⟨by rfl, ?_⟩) ?_ ?_
                rotate_left
                · intro w'
                  go_simp
                  with_reducible rfl
                rotate_left
                · simp only [Act.put, List.setIfInBounds_toArray, List.set_cons_zero, List.set_cons_succ, i64_w, i32_w]
                  rfl
                refine done_ (done_of HT_.out (by kernel_rfl)) ?_
                go_wp2_with (first | ((with_reducible refine gate_dst (N := 82) rfl ?_); refine Kd.R_lit (Kd.int .i64) _ 3 ?hg (N := 82) ?hd (xs := ([tz, y2] : List Int)) (inner := [.int .i64 tz, .int .i64 y2]) (ok := fun _ => True) (okp := fun _ => True) ?hr ?hp (fun _ hk => hk) trivial (Below.refl _ _) (Nat.le_refl _) (by simp) ?_; (case hd => rfl); (case hg => rfl); (case hr => first | (go_simp; done) | (go_simp; rfl)); (case hp => exact (Reps.one (show Kd.M (Kd.int .i64) _ _ _ tz [.int .i64 tz] from rfl) (Reps.one (show Kd.M (Kd.int .i64) _ _ _ y2 [.int .i64 y2] from rfl) (Reps.none _ _)))); intro vL wL hoL hb hg_ hnew_; clear hg_ hnew_; have HOl := Aside0.mk (Kd.R_elder' (by (with_reducible repeat (first | apply Kd.R_alloc | apply Kd.R_drewN | apply Kd.R_drew)); exact HOa.out) (Kd.R_base hoL) hb); have HLl := Aside0.mk (Kd.R_lower (Kd.R_new' hoL (Kd.R_lt (by (with_reducible repeat (first | apply Kd.R_alloc | apply Kd.R_drewN | apply Kd.R_drew)); exact HOa.out))) (below_size (by repeat (first | (with_reducible first | exact HBa.out | apply below_alloc | apply pw_below_drewN | apply below_drew1) | exact HBa.out)))); have HXl := Aside0.mk (blk_below (by (with_reducible repeat (first | refine blk_drewN ?_ _ | refine blk_drew ?_ | refine blk_alloc ?_ _)); exact HXa.out) hb); have HBl := Aside0.mk (below_step (by repeat (first | (with_reducible first | exact HBa.out | apply below_alloc | apply pw_below_drewN | apply below_drew1) | exact HBa.out)) hb); have hlB : Below wcA.heap.size wcA wL := below_step (by first | exact Below.refl _ _ | exact below_drew1 (Below.refl _ _) | exact pw_below_drewN (Below.refl _ _) _ | exact below_drew1 (pw_below_drewN (Below.refl _ _) _)) hb; have HMl := Aside0.mk (HMa.out.below hlB); have HTl := Aside0.mk (HTa.out.below hlB); clear hlB hb hoL; obtain ⟨AL, cL, eL⟩ := Kd.R_slice HLl.out; subst eL) | ((with_reducible refine gate_builtin (b := .append) (xs := #[.tmp 76, .tmp 82]) rfl ?_); at_builtin; refine Kd.R_append_rows (Kd.int .i64) (w0 := w) w.heap.size rfl (.tmp 76) (.tmp 82) 28 3 (.int .i64 0) 8 rfl Tryd.underlying28 hi3 rfl (by decide) (by omega) u6 xs [tz, y2] _ _ _ (fun k_ => k_ ≠ wb.heap.size) (fun _ => False) rfl rfl ?aO ?aR (fun _ _ h => h) (fun _ h => h.elim) ?aF ?aB ?aS ?aL ?_; (case aR => repeat (first | exact (Kd.R_reads' HLl.out).2.2 | (with_reducible refine Kd.C_alloc ?_ _) | (with_reducible refine Kd.C_drewN ?_ _) | (with_reducible refine Kd.C_drew ?_))); (case aB => exact (by repeat (first | (with_reducible first | exact HBl.out | apply below_alloc | apply pw_below_drewN | apply below_drew1) | exact HBl.out))); (case aF => exact (fun k_ hk e1 => by have h1 := HMl.out.lt; have h2 : wL.heap.size ≤ k_ := hk; omega)); (case aO => exact (by (with_reducible repeat (first | apply Kd.R_alloc | apply Kd.R_drewN | apply Kd.R_drew)); exact Kd.R_mono HOl.out (fun _ hk => hk.1))); (case aS => exact (below_size (by repeat (first | (with_reducible first | exact HBl.out | apply below_alloc | apply pw_below_drewN | apply below_drew1) | exact HBl.out)))); (case aL => have := LM.out; simp only [List.length_cons, List.length_nil]; omega); intro vA w5 ho hb hg hat; have HO5 := Aside0.mk ho; have HB5 := Aside0.mk hb; have HX5 := Aside0.mk (blk_grown HXl.out hg (Kd.R_ne HOl.out HXl.out (by decide))); have haw5 := Kd.R_away (Kd.R_mono HOl.out (fun _ hk => hk.1)) (g := wb.heap.size) (fun _ hk => hk); have HM5 := Aside0.mk (HMl.out.kept hg haw5); have HT5 := Aside0.mk (HT.out.below hb); clear ho hb hg hat haw5))
                have cz0 : w5.cell? ⟨w.heap.size, 0, none⟩ = some (.int .i64 a0) := blk_cell HX5.out 0
                have cz1 : w5.cell? ⟨w.heap.size, 1, none⟩ = some (.int .i64 a1) := blk_cell HX5.out 1
                have cz2 : w5.cell? ⟨w.heap.size, 2, none⟩ = some (.int .i64 a2) := blk_cell HX5.out 2
                go_quiet (fail)
                go_wp2_with fail
                go_roundg k1
                case measure => have := HK.out; omega
                case rel => exact ⟨Go.bits .or .i64 v (Go.bits .or .i64 jt jy), xs ++ [tz, y2], m2, rfl, HH, ⟨by have := HK.out; omega⟩, ⟨by (with_reducible repeat (first | apply Kd.R_alloc | apply Kd.R_drewN | apply Kd.R_drew)); exact HO5.out⟩, ⟨by (with_reducible repeat (first | refine blk_drewN ?_ _ | refine blk_drew ?_ | refine blk_alloc ?_ _)); exact HX5.out⟩, ⟨(by first | exact HM5.out | exact HM5.out.below (below_drew1 (Below.refl _ _)) | exact HM5.out.below (pw_below_drewN (Below.refl _ _) _) | exact HM5.out.below (below_drew1 (pw_below_drewN (Below.refl _ _) _)))⟩, ⟨(by first | exact HT5.out | exact HT5.out.below (below_drew1 (Below.refl _ _)) | exact HT5.out.below (pw_below_drewN (Below.refl _ _) _) | exact HT5.out.below (below_drew1 (pw_below_drewN (Below.refl _ _) _)))⟩, ⟨(by repeat (first | (with_reducible first | exact HB5.out | apply below_alloc | apply pw_below_drewN | apply below_drew1) | exact HB5.out))⟩, ⟨wf_bits _ _ _⟩⟩
            · rw [if_neg cB] at h
              have cB' : (Go.bits .and .i64 su 1 == 0) = false := beq_eq_false_iff_ne.mpr cB
              clear cB
              have HH := Aside0.mk h
              clear h
              refine start_ (n := 28) (S := fun w' => w'.cell? ⟨w.heap.size, 0, none⟩ = some (.int .i64 a0) ∧ w'.cell? ⟨w.heap.size, 1, none⟩ = some (.int .i64 a1) ∧ w'.cell? ⟨w.heap.size, 2, none⟩ = some (.int .i64 a2)) (ds := []) #[false, false, false, false, false, false, false, false, false, false, false, false, false, false, false, false, false, false, false, false, false, false, false, false, false, false, false, false] (by kernel_rfl) rfl rfl ⟨cr0, cr1, cr2⟩ (fun hHeld => ?_); refine with_tabW impl_TilingFirst.tab11 impl_TilingFirst.bits11 (fun HT_ HW_ => ?_)
              refine pure_ (i := 0) (N := some 36) (v := ?_) (a' := ?_) #[true, false, false, false, false, false, false, false, false, false, false, false, false, false, false, false, false, false, false, false, false, false, false, false, false, false, false, false] rfl rfl (any_of HT_.out (by kernel_rfl)) (fun _ _ _ h => h) (Or.inl ⟨by rfl, ?_⟩) ?_ ?_
              rotate_left
              · intro w'
                go_simp
                with_reducible rfl
              rotate_left
              · simp only [Act.put, List.setIfInBounds_toArray, List.set_cons_zero, List.set_cons_succ, i64_w, i32_w]
                rfl
              refine pure_ (i := 1) (N := some 37) (v := ?_) (a' := ?_) #[true, true, false, false, false, false, false, false, false, false, false, false, false, false, false, false, false, false, false, false, false, false, false, false, false, false, false, false] rfl rfl (any_of HT_.out (by kernel_rfl)) (fun _ _ _ h => h) (Or.inl ⟨by rfl, ?_⟩) ?_ ?_
              rotate_left
              · intro w'
                go_simp
                with_reducible rfl
              rotate_left
              · simp only [Act.put, List.setIfInBounds_toArray, List.set_cons_zero, List.set_cons_succ, i64_w, i32_w]
                rfl
              refine take_ (i := 2) (N := some 38) (v := ?_) (a' := ?_) #[true, true, true, false, false, false, false, false, false, false, false, false, false, false, false, false, false, false, false, false, false, false, false, false, false, false, false, false] rfl rfl (take_ofW HT_.out HW_.out (by kernel_rfl)) (fun _ _ _ h => h) (Or.inl ⟨by rfl, ?_⟩) hHeld ?_ ?_
              rotate_left
              · rintro w' ⟨s0, s1, s2⟩
                go_simp
                with_reducible rfl
              rotate_left
              · simp only [Act.put, List.setIfInBounds_toArray, List.set_cons_zero, List.set_cons_succ, i64_w, i32_w]
                rfl
              refine pure_ (i := 3) (N := some 39) (v := ?_) (a' := ?_) #[true, true, true, true, false, false, false, false, false, false, false, false, false, false, false, false, false, false, false, false, false, false, false, false, false, false, false, false] rfl rfl (any_of HT_.out (by kernel_rfl)) (fun _ _ _ h => h) (Or.inl ⟨by rfl, ?_⟩) ?_ ?_
              rotate_left
              · intro w'
                go_simp
                with_reducible rfl
              rotate_left
              · simp only [Act.put, List.setIfInBounds_toArray, List.set_cons_zero, List.set_cons_succ, i64_w, i32_w]
                rfl
              refine pure_ (i := 4) (N := some 40) (v := ?_) (a' := ?_) #[true, true, true, true, true, false, false, false, false, false, false, false, false, false, false, false, false, false, false, false, false, false, false, false, false, false, false, false] rfl rfl (any_of HT_.out (by kernel_rfl)) (fun _ _ _ h => h) (Or.inl ⟨by rfl, ?_⟩) ?_ ?_
              rotate_left
              · intro w'
                go_simp
                with_reducible rfl
              rotate_left
              · simp only [Act.put, List.setIfInBounds_toArray, List.set_cons_zero, List.set_cons_succ, i64_w, i32_w]
                rfl
              refine take_ (i := 5) (N := some 41) (v := ?_) (a' := ?_) #[true, true, true, true, true, true, false, false, false, false, false, false, false, false, false, false, false, false, false, false, false, false, false, false, false, false, false, false] rfl rfl (take_ofW HT_.out HW_.out (by kernel_rfl)) (fun _ _ _ h => h) (Or.inl ⟨by rfl, ?_⟩) hHeld ?_ ?_
              rotate_left
              · rintro w' ⟨s0, s1, s2⟩
                go_simp
                with_reducible rfl
              rotate_left
              · simp only [Act.put, List.setIfInBounds_toArray, List.set_cons_zero, List.set_cons_succ, i64_w, i32_w]
                rfl
              refine pure_ (i := 6) (N := some 42) (v := ?_) (a' := ?_) #[true, true, true, true, true, true, true, false, false, false, false, false, false, false, false, false, false, false, false, false, false, false, false, false, false, false, false, false] rfl rfl (any_of HT_.out (by kernel_rfl)) (fun _ _ _ h => h) (Or.inl ⟨by rfl, ?_⟩) ?_ ?_
              rotate_left
              · intro w'
                go_simp
                with_reducible rfl
              rotate_left
              · simp only [Act.put, List.setIfInBounds_toArray, List.set_cons_zero, List.set_cons_succ, i64_w, i32_w]
                rfl
              refine pure_ (i := 7) (N := some 43) (v := ?_) (a' := ?_) #[true, true, true, true, true, true, true, true, false, false, false, false, false, false, false, false, false, false, false, false, false, false, false, false, false, false, false, false] rfl rfl (any_of HT_.out (by kernel_rfl)) (fun _ _ _ h => h) (Or.inl ⟨by rfl, ?_⟩) ?_ ?_
              rotate_left
              · intro w'
                go_simp
                with_reducible rfl
              rotate_left
              · simp only [Act.put, List.setIfInBounds_toArray, List.set_cons_zero, List.set_cons_succ, i64_w, i32_w]
                rfl
              refine pure_ (i := 8) (N := some 44) (v := ?_) (a' := ?_) #[true, true, true, true, true, true, true, true, true, false, false, false, false, false, false, false, false, false, false, false, false, false, false, false, false, false, false, false] rfl rfl (any_of HT_.out (by kernel_rfl)) (fun _ _ _ h => h) (Or.inl ⟨by rfl, ?_⟩) ?_ ?_
              rotate_left
              · intro w'
                go_simp
                with_reducible rfl
              rotate_left
              · simp only [Act.put, List.setIfInBounds_toArray, List.set_cons_zero, List.set_cons_succ, i64_w, i32_w]
                rfl
              refine pure_ (i := 9) (N := some 45) (v := ?_) (a' := ?_) #[true, true, true, true, true, true, true, true, true, true, false, false, false, false, false, false, false, false, false, false, false, false, false, false, false, false, false, false] rfl rfl (any_of HT_.out (by kernel_rfl)) (fun _ _ _ h => h) (Or.inl ⟨by rfl, ?_⟩) ?_ ?_
              rotate_left
              · intro w'
                go_simp
                with_reducible rfl
              rotate_left
              · simp only [Act.put, List.setIfInBounds_toArray, List.set_cons_zero, List.set_cons_succ, i64_w, i32_w]
                rfl
              refine pure_ (i := 10) (N := some 46) (v := ?_) (a' := ?_) #[true, true, true, true, true, true, true, true, true, true, true, false, false, false, false, false, false, false, false, false, false, false, false, false, false, false, false, false] rfl rfl (any_of HT_.out (by kernel_rfl)) (fun _ _ _ h => h) (Or.inl ⟨by rfl, ?_⟩) ?_ ?_
              rotate_left
              · intro w'
                go_simp
                with_reducible rfl
              rotate_left
              · simp only [Act.put, List.setIfInBounds_toArray, List.set_cons_zero, List.set_cons_succ, i64_w, i32_w]
                rfl
              refine pure_ (i := 11) (N := some 47) (v := ?_) (a' := ?_) #[true, true, true, true, true, true, true, true, true, true, true, true, false, false, false, false, false, false, false, false, false, false, false, false, false, false, false, false] rfl rfl (any_of HT_.out (by kernel_rfl)) (fun _ _ _ h => h) (Or.inl ⟨by rfl, ?_⟩) ?_ ?_
              rotate_left
              · intro w'
                go_simp
                with_reducible rfl
              rotate_left
              · simp only [Act.put, List.setIfInBounds_toArray, List.set_cons_zero, List.set_cons_succ, i64_w, i32_w]
                rfl
              refine pure_ (i := 12) (N := some 48) (v := ?_) (a' := ?_) #[true, true, true, true, true, true, true, true, true, true, true, true, true, false, false, false, false, false, false, false, false, false, false, false, false, false, false, false] rfl rfl (any_of HT_.out (by kernel_rfl)) (fun _ _ _ h => h) (Or.inl ⟨by rfl, ?_⟩) ?_ ?_
              rotate_left
              · intro w'
                go_simp
                with_reducible rfl
              rotate_left
              · simp only [Act.put, List.setIfInBounds_toArray, List.set_cons_zero, List.set_cons_succ, i64_w, i32_w]
                rfl
              refine pure_ (i := 13) (N := some 49) (v := ?_) (a' := ?_) #[true, true, true, true, true, true, true, true, true, true, true, true, true, true, false, false, false, false, false, false, false, false, false, false, false, false, false, false] rfl rfl (any_of HT_.out (by kernel_rfl)) (fun _ _ _ h => h) (Or.inl ⟨by rfl, ?_⟩) ?_ ?_
              rotate_left
              · intro w'
                go_simp
                with_reducible rfl
              rotate_left
              · simp only [Act.put, List.setIfInBounds_toArray, List.set_cons_zero, List.set_cons_succ, i64_w, i32_w]
                rfl
              refine pure_ (i := 14) (N := some 50) (v := ?_) (a' := ?_) #[true, true, true, true, true, true, true, true, true, true, true, true, true, true, true, false, false, false, false, false, false, false, false, false, false, false, false, false] rfl rfl (any_of HT_.out (by kernel_rfl)) (fun _ _ _ h => h) (Or.inl ⟨by rfl, ?_⟩) ?_ ?_
              rotate_left
              · intro w'
                go_simp
                with_reducible rfl
              rotate_left
              · simp only [Act.put, List.setIfInBounds_toArray, List.set_cons_zero, List.set_cons_succ, i64_w, i32_w]
                rfl
              refine pure_ (i := 15) (N := some 51) (v := ?_) (a' := ?_) #[true, true, true, true, true, true, true, true, true, true, true, true, true, true, true, true, false, false, false, false, false, false, false, false, false, false, false, false] rfl rfl (any_of HT_.out (by kernel_rfl)) (fun _ _ _ h => h) (Or.inl ⟨by rfl, ?_⟩) ?_ ?_
              rotate_left
              · intro w'
                go_simp
                with_reducible rfl
              rotate_left
              · simp only [Act.put, List.setIfInBounds_toArray, List.set_cons_zero, List.set_cons_succ, i64_w, i32_w]
                rfl
              refine pure_ (i := 16) (N := some 52) (v := undef) (a' := ?_) #[true, true, true, true, true, true, true, true, true, true, true, true, true, true, true, true, true, false, false, false, false, false, false, false, false, false, false, false] rfl rfl (any_of HT_.out (by kernel_rfl)) (fun _ _ _ h => h) (Or.inr ⟨by rfl, rfl⟩) ?_ ?_
              rotate_left
              · simp only [Act.put, List.setIfInBounds_toArray, List.set_cons_zero, List.set_cons_succ, i64_w, i32_w]
                rfl
              refine pure_ (i := 17) (N := some 53) (v := undef) (a' := ?_) #[true, true, true, true, true, true, true, true, true, true, true, true, true, true, true, true, true, true, false, false, false, false, false, false, false, false, false, false] rfl rfl (any_of HT_.out (by kernel_rfl)) (fun _ _ _ h => h) (Or.inr ⟨by rfl, rfl⟩) ?_ ?_
              rotate_left
              · simp only [Act.put, List.setIfInBounds_toArray, List.set_cons_zero, List.set_cons_succ, i64_w, i32_w]
                rfl
              refine pure_ (i := 18) (N := some 54) (v := undef) (a' := ?_) #[true, true, true, true, true, true, true, true, true, true, true, true, true, true, true, true, true, true, true, false, false, false, false, false, false, false, false, false] rfl rfl (any_of HT_.out (by kernel_rfl)) (fun _ _ _ h => h) (Or.inr ⟨by rfl, rfl⟩) ?_ ?_
              rotate_left
              · simp only [Act.put, List.setIfInBounds_toArray, List.set_cons_zero, List.set_cons_succ, i64_w, i32_w]
                rfl
              refine pure_ (i := 19) (N := some 55) (v := undef) (a' := ?_) #[true, true, true, true, true, true, true, true, true, true, true, true, true, true, true, true, true, true, true, true, false, false, false, false, false, false, false, false] rfl rfl (any_of HT_.out (by kernel_rfl)) (fun _ _ _ h => h) (Or.inr ⟨by rfl, rfl⟩) ?_ ?_
              rotate_left
              · simp only [Act.put, List.setIfInBounds_toArray, List.set_cons_zero, List.set_cons_succ, i64_w, i32_w]
                rfl
              refine pure_ (i := 20) (N := some 56) (v := undef) (a' := ?_) #[true, true, true, true, true, true, true, true, true, true, true, true, true, true, true, true, true, true, true, true, true, false, false, false, false, false, false, false] rfl rfl (any_of HT_.out (by kernel_rfl)) (fun _ _ _ h => h) (Or.inr ⟨by rfl, rfl⟩) ?_ ?_
              rotate_left
              · simp only [Act.put, List.setIfInBounds_toArray, List.set_cons_zero, List.set_cons_succ, i64_w, i32_w]
                rfl
              refine pure_ (i := 21) (N := some 57) (v := undef) (a' := ?_) #[true, true, true, true, true, true, true, true, true, true, true, true, true, true, true, true, true, true, true, true, true, true, false, false, false, false, false, false] rfl rfl (any_of HT_.out (by kernel_rfl)) (fun _ _ _ h => h) (Or.inr ⟨by rfl, rfl⟩) ?_ ?_
              rotate_left
              · simp only [Act.put, List.setIfInBounds_toArray, List.set_cons_zero, List.set_cons_succ, i64_w, i32_w]
                rfl
              refine pure_ (i := 22) (N := some 58) (v := undef) (a' := ?_) #[true, true, true, true, true, true, true, true, true, true, true, true, true, true, true, true, true, true, true, true, true, true, true, false, false, false, false, false] rfl rfl (any_of HT_.out (by kernel_rfl)) (fun _ _ _ h => h) (Or.inr ⟨by rfl, rfl⟩) ?_ ?_
              rotate_left
              · simp only [Act.put, List.setIfInBounds_toArray, List.set_cons_zero, List.set_cons_succ, i64_w, i32_w]
                rfl
              refine pure_ (i := 23) (N := some 59) (v := undef) (a' := ?_) #[true, true, true, true, true, true, true, true, true, true, true, true, true, true, true, true, true, true, true, true, true, true, true, true, false, false, false, false] rfl rfl (any_of HT_.out (by kernel_rfl)) (fun _ _ _ h => h) (Or.inr ⟨by rfl, rfl⟩) ?_ ?_
              rotate_left
              · simp only [Act.put, List.setIfInBounds_toArray, List.set_cons_zero, List.set_cons_succ, i64_w, i32_w]
                rfl
              refine pure_ (i := 24) (N := some 60) (v := undef) (a' := ?_) #[true, true, true, true, true, true, true, true, true, true, true, true, true, true, true, true, true, true, true, true, true, true, true, true, true, false, false, false] rfl rfl (any_of HT_.out (by kernel_rfl)) (fun _ _ _ h => h) (Or.inr ⟨by rfl, rfl⟩) ?_ ?_
              rotate_left
              · simp only [Act.put, List.setIfInBounds_toArray, List.set_cons_zero, List.set_cons_succ, i64_w, i32_w]
                rfl
              refine pure_ (i := 25) (N := some 61) (v := undef) (a' := ?_) #[true, true, true, true, true, true, true, true, true, true, true, true, true, true, true, true, true, true, true, true, true, true, true, true, true, true, false, false] rfl rfl (any_of HT_.out (by kernel_rfl)) (fun _ _ _ h => h) (Or.inr ⟨by rfl, rfl⟩) ?_ ?_
              rotate_left
              · simp only [Act.put, List.setIfInBounds_toArray, List.set_cons_zero, List.set_cons_succ, i64_w, i32_w]
                rfl
              refine pure_ (i := 26) (N := some 62) (v := undef) (a' := ?_) #[true, true, true, true, true, true, true, true, true, true, true, true, true, true, true, true, true, true, true, true, true, true, true, true, true, true, true, false] rfl rfl (any_of HT_.out (by kernel_rfl)) (fun _ _ _ h => h) (Or.inr ⟨by rfl, rfl⟩) ?_ ?_
              rotate_left
              · simp only [Act.put, List.setIfInBounds_toArray, List.set_cons_zero, List.set_cons_succ, i64_w, i32_w]
                rfl
              refine pure_ (i := 27) (N := some 63) (v := ?_) (a' := ?_) #[true, true, true, true, true, true, true, true, true, true, true, true, true, true, true, true, true, true, true, true, true, true, true, true, true, true, true, true] rfl rfl (any_of HT_.out (by kernel_rfl)) (fun _ _ _ h => h) (Or.inl ⟨by rfl, ?_⟩) ?_ ?_
              rotate_left
              · intro w'
                go_simp
                with_reducible rfl
              rotate_left
              · simp only [Act.put, List.setIfInBounds_toArray, List.set_cons_zero, List.set_cons_succ, i64_w, i32_w]
                rfl
              refine done_ (done_of HT_.out (by kernel_rfl)) ?_
              go_wp2_with (first | ((with_reducible refine gate_dst (N := 82) rfl ?_); refine Kd.R_lit (Kd.int .i64) _ 3 ?hg (N := 82) ?hd (xs := ([tz, y2] : List Int)) (inner := [.int .i64 tz, .int .i64 y2]) (ok := fun _ => True) (okp := fun _ => True) ?hr ?hp (fun _ hk => hk) trivial (Below.refl _ _) (Nat.le_refl _) (by simp) ?_; (case hd => rfl); (case hg => rfl); (case hr => first | (go_simp; done) | (go_simp; rfl)); (case hp => exact (Reps.one (show Kd.M (Kd.int .i64) _ _ _ tz [.int .i64 tz] from rfl) (Reps.one (show Kd.M (Kd.int .i64) _ _ _ y2 [.int .i64 y2] from rfl) (Reps.none _ _)))); intro vL wL hoL hb hg_ hnew_; clear hg_ hnew_; have HOl := Aside0.mk (Kd.R_elder' (by (with_reducible repeat (first | apply Kd.R_alloc | apply Kd.R_drewN | apply Kd.R_drew)); exact HO.out) (Kd.R_base hoL) hb); have HLl := Aside0.mk (Kd.R_lower (Kd.R_new' hoL (Kd.R_lt (by (with_reducible repeat (first | apply Kd.R_alloc | apply Kd.R_drewN | apply Kd.R_drew)); exact HO.out))) (below_size (by repeat (first | (with_reducible first | exact HB.out | apply below_alloc | apply pw_below_drewN | apply below_drew1) | exact HB.out)))); have HXl := Aside0.mk (blk_below (by (with_reducible repeat (first | refine blk_drewN ?_ _ | refine blk_drew ?_ | refine blk_alloc ?_ _)); exact HX.out) hb); have HBl := Aside0.mk (below_step (by repeat (first | (with_reducible first | exact HB.out | apply below_alloc | apply pw_below_drewN | apply below_drew1) | exact HB.out)) hb); have hlB : Below wr.heap.size wr wL := below_step (by first | exact Below.refl _ _ | exact below_drew1 (Below.refl _ _) | exact pw_below_drewN (Below.refl _ _) _ | exact below_drew1 (pw_below_drewN (Below.refl _ _) _)) hb; have HMl := Aside0.mk (HM.out.below hlB); have HTl := Aside0.mk (HTr.out.below hlB); clear hlB hb hoL; obtain ⟨AL, cL, eL⟩ := Kd.R_slice HLl.out; subst eL) | ((with_reducible refine gate_builtin (b := .append) (xs := #[.tmp 76, .tmp 82]) rfl ?_); at_builtin; refine Kd.R_append_rows (Kd.int .i64) (w0 := w) w.heap.size rfl (.tmp 76) (.tmp 82) 28 3 (.int .i64 0) 8 rfl Tryd.underlying28 hi3 rfl (by decide) (by omega) u6 xs [tz, y2] _ _ _ (fun k_ => k_ ≠ wb.heap.size) (fun _ => False) rfl rfl ?aO ?aR (fun _ _ h => h) (fun _ h => h.elim) ?aF ?aB ?aS ?aL ?_; (case aR => repeat (first | exact (Kd.R_reads' HLl.out).2.2 | (with_reducible refine Kd.C_alloc ?_ _) | (with_reducible refine Kd.C_drewN ?_ _) | (with_reducible refine Kd.C_drew ?_))); (case aB => exact (by repeat (first | (with_reducible first | exact HBl.out | apply below_alloc | apply pw_below_drewN | apply below_drew1) | exact HBl.out))); (case aF => exact (fun k_ hk e1 => by have h1 := HMl.out.lt; have h2 : wL.heap.size ≤ k_ := hk; omega)); (case aO => exact (by (with_reducible repeat (first | apply Kd.R_alloc | apply Kd.R_drewN | apply Kd.R_drew)); exact Kd.R_mono HOl.out (fun _ hk => hk.1))); (case aS => exact (below_size (by repeat (first | (with_reducible first | exact HBl.out | apply below_alloc | apply pw_below_drewN | apply below_drew1) | exact HBl.out)))); (case aL => have := LM.out; simp only [List.length_cons, List.length_nil]; omega); intro vA w5 ho hb hg hat; have HO5 := Aside0.mk ho; have HB5 := Aside0.mk hb; have HX5 := Aside0.mk (blk_grown HXl.out hg (Kd.R_ne HOl.out HXl.out (by decide))); have haw5 := Kd.R_away (Kd.R_mono HOl.out (fun _ hk => hk.1)) (g := wb.heap.size) (fun _ hk => hk); have HM5 := Aside0.mk (HMl.out.kept hg haw5); have HT5 := Aside0.mk (HT.out.below hb); clear ho hb hg hat haw5))
              have cz0 : w5.cell? ⟨w.heap.size, 0, none⟩ = some (.int .i64 a0) := blk_cell HX5.out 0
              have cz1 : w5.cell? ⟨w.heap.size, 1, none⟩ = some (.int .i64 a1) := blk_cell HX5.out 1
              have cz2 : w5.cell? ⟨w.heap.size, 2, none⟩ = some (.int .i64 a2) := blk_cell HX5.out 2
              go_quiet (fail)
              go_wp2_with fail
              go_roundg k1
              case measure => have := HK.out; omega
              case rel => exact ⟨Go.bits .or .i64 v (Go.bits .or .i64 jt jy), xs ++ [tz, y2], qs, rfl, HH, ⟨by have := HK.out; omega⟩, ⟨by (with_reducible repeat (first | apply Kd.R_alloc | apply Kd.R_drewN | apply Kd.R_drew)); exact HO5.out⟩, ⟨by (with_reducible repeat (first | refine blk_drewN ?_ _ | refine blk_drew ?_ | refine blk_alloc ?_ _)); exact HX5.out⟩, ⟨(by first | exact HM5.out | exact HM5.out.below (below_drew1 (Below.refl _ _)) | exact HM5.out.below (pw_below_drewN (Below.refl _ _) _) | exact HM5.out.below (below_drew1 (pw_below_drewN (Below.refl _ _) _)))⟩, ⟨(by first | exact HT5.out | exact HT5.out.below (below_drew1 (Below.refl _ _)) | exact HT5.out.below (pw_below_drewN (Below.refl _ _) _) | exact HT5.out.below (below_drew1 (pw_below_drewN (Below.refl _ _) _)))⟩, ⟨(by repeat (first | (with_reducible first | exact HB5.out | apply below_alloc | apply pw_below_drewN | apply below_drew1) | exact HB5.out))⟩, ⟨wf_bits _ _ _⟩⟩
          · rw [if_neg cA] at h
            have cA' : decide (Int.tmod tz a1 < d) = false := decide_eq_false cA
            clear cA
            have HH := Aside0.mk h
            clear h
            refine start_ (n := 28) (S := fun w' => w'.cell? ⟨w.heap.size, 0, none⟩ = some (.int .i64 a0) ∧ w'.cell? ⟨w.heap.size, 1, none⟩ = some (.int .i64 a1) ∧ w'.cell? ⟨w.heap.size, 2, none⟩ = some (.int .i64 a2)) (ds := []) #[false, false, false, false, false, false, false, false, false, false, false, false, false, false, false, false, false, false, false, false, false, false, false, false, false, false, false, false] (by kernel_rfl) rfl rfl ⟨cr0, cr1, cr2⟩ (fun hHeld => ?_); refine with_tabW impl_TilingFirst.tab11 impl_TilingFirst.bits11 (fun HT_ HW_ => ?_)
            refine pure_ (i := 0) (N := some 36) (v := ?_) (a' := ?_) #[true, false, false, false, false, false, false, false, false, false, false, false, false, false, false, false, false, false, false, false, false, false, false, false, false, false, false, false] rfl rfl (any_of HT_.out (by kernel_rfl)) (fun _ _ _ h => h) (Or.inl ⟨by rfl, ?_⟩) ?_ ?_
            rotate_left
            · intro w'
              go_simp
              with_reducible rfl
            rotate_left
            · simp only [Act.put, List.setIfInBounds_toArray, List.set_cons_zero, List.set_cons_succ, i64_w, i32_w]
              rfl
            refine pure_ (i := 1) (N := some 37) (v := ?_) (a' := ?_) #[true, true, false, false, false, false, false, false, false, false, false, false, false, false, false, false, false, false, false, false, false, false, false, false, false, false, false, false] rfl rfl (any_of HT_.out (by kernel_rfl)) (fun _ _ _ h => h) (Or.inl ⟨by rfl, ?_⟩) ?_ ?_
            rotate_left
            · intro w'
              go_simp
              with_reducible rfl
            rotate_left
            · simp only [Act.put, List.setIfInBounds_toArray, List.set_cons_zero, List.set_cons_succ, i64_w, i32_w]
              rfl
            refine take_ (i := 2) (N := some 38) (v := ?_) (a' := ?_) #[true, true, true, false, false, false, false, false, false, false, false, false, false, false, false, false, false, false, false, false, false, false, false, false, false, false, false, false] rfl rfl (take_ofW HT_.out HW_.out (by kernel_rfl)) (fun _ _ _ h => h) (Or.inl ⟨by rfl, ?_⟩) hHeld ?_ ?_
            rotate_left
            · rintro w' ⟨s0, s1, s2⟩
              go_simp
              with_reducible rfl
            rotate_left
            · simp only [Act.put, List.setIfInBounds_toArray, List.set_cons_zero, List.set_cons_succ, i64_w, i32_w]
              rfl
            refine pure_ (i := 3) (N := some 39) (v := ?_) (a' := ?_) #[true, true, true, true, false, false, false, false, false, false, false, false, false, false, false, false, false, false, false, false, false, false, false, false, false, false, false, false] rfl rfl (any_of HT_.out (by kernel_rfl)) (fun _ _ _ h => h) (Or.inl ⟨by rfl, ?_⟩) ?_ ?_
            rotate_left
            · intro w'
              go_simp
              with_reducible rfl
            rotate_left
            · simp only [Act.put, List.setIfInBounds_toArray, List.set_cons_zero, List.set_cons_succ, i64_w, i32_w]
              rfl
            refine pure_ (i := 4) (N := some 40) (v := ?_) (a' := ?_) #[true, true, true, true, true, false, false, false, false, false, false, false, false, false, false, false, false, false, false, false, false, false, false, false, false, false, false, false] rfl rfl (any_of HT_.out (by kernel_rfl)) (fun _ _ _ h => h) (Or.inl ⟨by rfl, ?_⟩) ?_ ?_
            rotate_left
            · intro w'
              go_simp
              with_reducible rfl
            rotate_left
            · simp only [Act.put, List.setIfInBounds_toArray, List.set_cons_zero, List.set_cons_succ, i64_w, i32_w]
              rfl
            refine take_ (i := 5) (N := some 41) (v := ?_) (a' := ?_) #[true, true, true, true, true, true, false, false, false, false, false, false, false, false, false, false, false, false, false, false, false, false, false, false, false, false, false, false] rfl rfl (take_ofW HT_.out HW_.out (by kernel_rfl)) (fun _ _ _ h => h) (Or.inl ⟨by rfl, ?_⟩) hHeld ?_ ?_
            rotate_left
            · rintro w' ⟨s0, s1, s2⟩
              go_simp
              with_reducible rfl
            rotate_left
            · simp only [Act.put, List.setIfInBounds_toArray, List.set_cons_zero, List.set_cons_succ, i64_w, i32_w]
              rfl
            refine pure_ (i := 6) (N := some 42) (v := ?_) (a' := ?_) #[true, true, true, true, true, true, true, false, false, false, false, false, false, false, false, false, false, false, false, false, false, false, false, false, false, false, false, false] rfl rfl (any_of HT_.out (by kernel_rfl)) (fun _ _ _ h => h) (Or.inl ⟨by rfl, ?_⟩) ?_ ?_
            rotate_left
            · intro w'
              go_simp
              with_reducible rfl
            rotate_left
            · simp only [Act.put, List.setIfInBounds_toArray, List.set_cons_zero, List.set_cons_succ, i64_w, i32_w]
              rfl
            refine pure_ (i := 7) (N := some 43) (v := ?_) (a' := ?_) #[true, true, true, true, true, true, true, true, false, false, false, false, false, false, false, false, false, false, false, false, false, false, false, false, false, false, false, false] rfl rfl (any_of HT_.out (by kernel_rfl)) (fun _ _ _ h => h) (Or.inl ⟨by rfl, ?_⟩) ?_ ?_
            rotate_left
            · intro w'
              go_simp
              with_reducible rfl
            rotate_left
            · simp only [Act.put, List.setIfInBounds_toArray, List.set_cons_zero, List.set_cons_succ, i64_w, i32_w]
              rfl
            refine pure_ (i := 8) (N := some 44) (v := ?_) (a' := ?_) #[true, true, true, true, true, true, true, true, true, false, false, false, false, false, false, false, false, false, false, false, false, false, false, false, false, false, false, false] rfl rfl (any_of HT_.out (by kernel_rfl)) (fun _ _ _ h => h) (Or.inl ⟨by rfl, ?_⟩) ?_ ?_
            rotate_left
            · intro w'
              go_simp
              with_reducible rfl
            rotate_left
            · simp only [Act.put, List.setIfInBounds_toArray, List.set_cons_zero, List.set_cons_succ, i64_w, i32_w]
              rfl
            refine pure_ (i := 9) (N := some 45) (v := undef) (a' := ?_) #[true, true, true, true, true, true, true, true, true, true, false, false, false, false, false, false, false, false, false, false, false, false, false, false, false, false, false, false] rfl rfl (any_of HT_.out (by kernel_rfl)) (fun _ _ _ h => h) (Or.inr ⟨by rfl, rfl⟩) ?_ ?_
            rotate_left
            · simp only [Act.put, List.setIfInBounds_toArray, List.set_cons_zero, List.set_cons_succ, i64_w, i32_w]
              rfl
            refine pure_ (i := 10) (N := some 46) (v := undef) (a' := ?_) #[true, true, true, true, true, true, true, true, true, true, true, false, false, false, false, false, false, false, false, false, false, false, false, false, false, false, false, false] rfl rfl (any_of HT_.out (by kernel_rfl)) (fun _ _ _ h => h) (Or.inr ⟨by rfl, rfl⟩) ?_ ?_
            rotate_left
            · simp only [Act.put, List.setIfInBounds_toArray, List.set_cons_zero, List.set_cons_succ, i64_w, i32_w]
              rfl
            refine pure_ (i := 11) (N := some 47) (v := undef) (a' := ?_) #[true, true, true, true, true, true, true, true, true, true, true, true, false, false, false, false, false, false, false, false, false, false, false, false, false, false, false, false] rfl rfl (any_of HT_.out (by kernel_rfl)) (fun _ _ _ h => h) (Or.inr ⟨by rfl, rfl⟩) ?_ ?_
            rotate_left
            · simp only [Act.put, List.setIfInBounds_toArray, List.set_cons_zero, List.set_cons_succ, i64_w, i32_w]
              rfl
            refine pure_ (i := 12) (N := some 48) (v := undef) (a' := ?_) #[true, true, true, true, true, true, true, true, true, true, true, true, true, false, false, false, false, false, false, false, false, false, false, false, false, false, false, false] rfl rfl (any_of HT_.out (by kernel_rfl)) (fun _ _ _ h => h) (Or.inr ⟨by rfl, rfl⟩) ?_ ?_
            rotate_left
            · simp only [Act.put, List.setIfInBounds_toArray, List.set_cons_zero, List.set_cons_succ, i64_w, i32_w]
              rfl
            refine pure_ (i := 13) (N := some 49) (v := undef) (a' := ?_) #[true, true, true, true, true, true, true, true, true, true, true, true, true, true, false, false, false, false, false, false, false, false, false, false, false, false, false, false] rfl rfl (any_of HT_.out (by kernel_rfl)) (fun _ _ _ h => h) (Or.inr ⟨by rfl, rfl⟩) ?_ ?_
            rotate_left
            · simp only [Act.put, List.setIfInBounds_toArray, List.set_cons_zero, List.set_cons_succ, i64_w, i32_w]
              rfl
            refine pure_ (i := 14) (N := some 50) (v := ?_) (a' := ?_) #[true, true, true, true, true, true, true, true, true, true, true, true, true, true, true, false, false, false, false, false, false, false, false, false, false, false, false, false] rfl rfl (any_of HT_.out (by kernel_rfl)) (fun _ _ _ h => h) (Or.inl ⟨by rfl, ?_⟩) ?_ ?_
            rotate_left
            · intro w'
              go_simp
              with_reducible rfl
            rotate_left
            · simp only [Act.put, List.setIfInBounds_toArray, List.set_cons_zero, List.set_cons_succ, i64_w, i32_w]
              rfl
            refine pure_ (i := 15) (N := some 51) (v := ?_) (a' := ?_) #[true, true, true, true, true, true, true, true, true, true, true, true, true, true, true, true, false, false, false, false, false, false, false, false, false, false, false, false] rfl rfl (any_of HT_.out (by kernel_rfl)) (fun _ _ _ h => h) (Or.inl ⟨by rfl, ?_⟩) ?_ ?_
            rotate_left
            · intro w'
              go_simp
              with_reducible rfl
            rotate_left
            · simp only [Act.put, List.setIfInBounds_toArray, List.set_cons_zero, List.set_cons_succ, i64_w, i32_w]
              rfl
            refine pure_ (i := 16) (N := some 52) (v := undef) (a' := ?_) #[true, true, true, true, true, true, true, true, true, true, true, true, true, true, true, true, true, false, false, false, false, false, false, false, false, false, false, false] rfl rfl (any_of HT_.out (by kernel_rfl)) (fun _ _ _ h => h) (Or.inr ⟨by rfl, rfl⟩) ?_ ?_
            rotate_left
            · simp only [Act.put, List.setIfInBounds_toArray, List.set_cons_zero, List.set_cons_succ, i64_w, i32_w]
              rfl
            refine pure_ (i := 17) (N := some 53) (v := undef) (a' := ?_) #[true, true, true, true, true, true, true, true, true, true, true, true, true, true, true, true, true, true, false, false, false, false, false, false, false, false, false, false] rfl rfl (any_of HT_.out (by kernel_rfl)) (fun _ _ _ h => h) (Or.inr ⟨by rfl, rfl⟩) ?_ ?_
            rotate_left
            · simp only [Act.put, List.setIfInBounds_toArray, List.set_cons_zero, List.set_cons_succ, i64_w, i32_w]
              rfl
            refine pure_ (i := 18) (N := some 54) (v := undef) (a' := ?_) #[true, true, true, true, true, true, true, true, true, true, true, true, true, true, true, true, true, true, true, false, false, false, false, false, false, false, false, false] rfl rfl (any_of HT_.out (by kernel_rfl)) (fun _ _ _ h => h) (Or.inr ⟨by rfl, rfl⟩) ?_ ?_
            rotate_left
            · simp only [Act.put, List.setIfInBounds_toArray, List.set_cons_zero, List.set_cons_succ, i64_w, i32_w]
              rfl
            refine pure_ (i := 19) (N := some 55) (v := undef) (a' := ?_) #[true, true, true, true, true, true, true, true, true, true, true, true, true, true, true, true, true, true, true, true, false, false, false, false, false, false, false, false] rfl rfl (any_of HT_.out (by kernel_rfl)) (fun _ _ _ h => h) (Or.inr ⟨by rfl, rfl⟩) ?_ ?_
            rotate_left
            · simp only [Act.put, List.setIfInBounds_toArray, List.set_cons_zero, List.set_cons_succ, i64_w, i32_w]
              rfl
            refine pure_ (i := 20) (N := some 56) (v := undef) (a' := ?_) #[true, true, true, true, true, true, true, true, true, true, true, true, true, true, true, true, true, true, true, true, true, false, false, false, false, false, false, false] rfl rfl (any_of HT_.out (by kernel_rfl)) (fun _ _ _ h => h) (Or.inr ⟨by rfl, rfl⟩) ?_ ?_
            rotate_left
            · simp only [Act.put, List.setIfInBounds_toArray, List.set_cons_zero, List.set_cons_succ, i64_w, i32_w]
              rfl
            refine pure_ (i := 21) (N := some 57) (v := undef) (a' := ?_) #[true, true, true, true, true, true, true, true, true, true, true, true, true, true, true, true, true, true, true, true, true, true, false, false, false, false, false, false] rfl rfl (any_of HT_.out (by kernel_rfl)) (fun _ _ _ h => h) (Or.inr ⟨by rfl, rfl⟩) ?_ ?_
            rotate_left
            · simp only [Act.put, List.setIfInBounds_toArray, List.set_cons_zero, List.set_cons_succ, i64_w, i32_w]
              rfl
            refine pure_ (i := 22) (N := some 58) (v := undef) (a' := ?_) #[true, true, true, true, true, true, true, true, true, true, true, true, true, true, true, true, true, true, true, true, true, true, true, false, false, false, false, false] rfl rfl (any_of HT_.out (by kernel_rfl)) (fun _ _ _ h => h) (Or.inr ⟨by rfl, rfl⟩) ?_ ?_
            rotate_left
            · simp only [Act.put, List.setIfInBounds_toArray, List.set_cons_zero, List.set_cons_succ, i64_w, i32_w]
              rfl
            refine pure_ (i := 23) (N := some 59) (v := undef) (a' := ?_) #[true, true, true, true, true, true, true, true, true, true, true, true, true, true, true, true, true, true, true, true, true, true, true, true, false, false, false, false] rfl rfl (any_of HT_.out (by kernel_rfl)) (fun _ _ _ h => h) (Or.inr ⟨by rfl, rfl⟩) ?_ ?_
            rotate_left
            · simp only [Act.put, List.setIfInBounds_toArray, List.set_cons_zero, List.set_cons_succ, i64_w, i32_w]
              rfl
            refine pure_ (i := 24) (N := some 60) (v := undef) (a' := ?_) #[true, true, true, true, true, true, true, true, true, true, true, true, true, true, true, true, true, true, true, true, true, true, true, true, true, false, false, false] rfl rfl (any_of HT_.out (by kernel_rfl)) (fun _ _ _ h => h) (Or.inr ⟨by rfl, rfl⟩) ?_ ?_
            rotate_left
            · simp only [Act.put, List.setIfInBounds_toArray, List.set_cons_zero, List.set_cons_succ, i64_w, i32_w]
              rfl
            refine pure_ (i := 25) (N := some 61) (v := undef) (a' := ?_) #[true, true, true, true, true, true, true, true, true, true, true, true, true, true, true, true, true, true, true, true, true, true, true, true, true, true, false, false] rfl rfl (any_of HT_.out (by kernel_rfl)) (fun _ _ _ h => h) (Or.inr ⟨by rfl, rfl⟩) ?_ ?_
            rotate_left
            · simp only [Act.put, List.setIfInBounds_toArray, List.set_cons_zero, List.set_cons_succ, i64_w, i32_w]
              rfl
            refine pure_ (i := 26) (N := some 62) (v := undef) (a' := ?_) #[true, true, true, true, true, true, true, true, true, true, true, true, true, true, true, true, true, true, true, true, true, true, true, true, true, true, true, false] rfl rfl (any_of HT_.out (by kernel_rfl)) (fun _ _ _ h => h) (Or.inr ⟨by rfl, rfl⟩) ?_ ?_
            rotate_left
            · simp only [Act.put, List.setIfInBounds_toArray, List.set_cons_zero, List.set_cons_succ, i64_w, i32_w]
              rfl
            refine pure_ (i := 27) (N := some 63) (v := ?_) (a' := ?_) #[true, true, true, true, true, true, true, true, true, true, true, true, true, true, true, true, true, true, true, true, true, true, true, true, true, true, true, true] rfl rfl (any_of HT_.out (by kernel_rfl)) (fun _ _ _ h => h) (Or.inl ⟨by rfl, ?_⟩) ?_ ?_
            rotate_left
            · intro w'
              go_simp
              with_reducible rfl
            rotate_left
            · simp only [Act.put, List.setIfInBounds_toArray, List.set_cons_zero, List.set_cons_succ, i64_w, i32_w]
              rfl
            refine done_ (done_of HT_.out (by kernel_rfl)) ?_
            go_wp2_with (first | ((with_reducible refine gate_dst (N := 82) rfl ?_); refine Kd.R_lit (Kd.int .i64) _ 3 ?hg (N := 82) ?hd (xs := ([tz, y2] : List Int)) (inner := [.int .i64 tz, .int .i64 y2]) (ok := fun _ => True) (okp := fun _ => True) ?hr ?hp (fun _ hk => hk) trivial (Below.refl _ _) (Nat.le_refl _) (by simp) ?_; (case hd => rfl); (case hg => rfl); (case hr => first | (go_simp; done) | (go_simp; rfl)); (case hp => exact (Reps.one (show Kd.M (Kd.int .i64) _ _ _ tz [.int .i64 tz] from rfl) (Reps.one (show Kd.M (Kd.int .i64) _ _ _ y2 [.int .i64 y2] from rfl) (Reps.none _ _)))); intro vL wL hoL hb hg_ hnew_; clear hg_ hnew_; have HOl := Aside0.mk (Kd.R_elder' (by (with_reducible repeat (first | apply Kd.R_alloc | apply Kd.R_drewN | apply Kd.R_drew)); exact HO.out) (Kd.R_base hoL) hb); have HLl := Aside0.mk (Kd.R_lower (Kd.R_new' hoL (Kd.R_lt (by (with_reducible repeat (first | apply Kd.R_alloc | apply Kd.R_drewN | apply Kd.R_drew)); exact HO.out))) (below_size (by repeat (first | (with_reducible first | exact HB.out | apply below_alloc | apply pw_below_drewN | apply below_drew1) | exact HB.out)))); have HXl := Aside0.mk (blk_below (by (with_reducible repeat (first | refine blk_drewN ?_ _ | refine blk_drew ?_ | refine blk_alloc ?_ _)); exact HX.out) hb); have HBl := Aside0.mk (below_step (by repeat (first | (with_reducible first | exact HB.out | apply below_alloc | apply pw_below_drewN | apply below_drew1) | exact HB.out)) hb); have hlB : Below wr.heap.size wr wL := below_step (by first | exact Below.refl _ _ | exact below_drew1 (Below.refl _ _) | exact pw_below_drewN (Below.refl _ _) _ | exact below_drew1 (pw_below_drewN (Below.refl _ _) _)) hb; have HMl := Aside0.mk (HM.out.below hlB); have HTl := Aside0.mk (HTr.out.below hlB); clear hlB hb hoL; obtain ⟨AL, cL, eL⟩ := Kd.R_slice HLl.out; subst eL) | ((with_reducible refine gate_builtin (b := .append) (xs := #[.tmp 76, .tmp 82]) rfl ?_); at_builtin; refine Kd.R_append_rows (Kd.int .i64) (w0 := w) w.heap.size rfl (.tmp 76) (.tmp 82) 28 3 (.int .i64 0) 8 rfl Tryd.underlying28 hi3 rfl (by decide) (by omega) u6 xs [tz, y2] _ _ _ (fun k_ => k_ ≠ wb.heap.size) (fun _ => False) rfl rfl ?aO ?aR (fun _ _ h => h) (fun _ h => h.elim) ?aF ?aB ?aS ?aL ?_; (case aR => repeat (first | exact (Kd.R_reads' HLl.out).2.2 | (with_reducible refine Kd.C_alloc ?_ _) | (with_reducible refine Kd.C_drewN ?_ _) | (with_reducible refine Kd.C_drew ?_))); (case aB => exact (by repeat (first | (with_reducible first | exact HBl.out | apply below_alloc | apply pw_below_drewN | apply below_drew1) | exact HBl.out))); (case aF => exact (fun k_ hk e1 => by have h1 := HMl.out.lt; have h2 : wL.heap.size ≤ k_ := hk; omega)); (case aO => exact (by (with_reducible repeat (first | apply Kd.R_alloc | apply Kd.R_drewN | apply Kd.R_drew)); exact Kd.R_mono HOl.out (fun _ hk => hk.1))); (case aS => exact (below_size (by repeat (first | (with_reducible first | exact HBl.out | apply below_alloc | apply pw_below_drewN | apply below_drew1) | exact HBl.out)))); (case aL => have := LM.out; simp only [List.length_cons, List.length_nil]; omega); intro vA w5 ho hb hg hat; have HO5 := Aside0.mk ho; have HB5 := Aside0.mk hb; have HX5 := Aside0.mk (blk_grown HXl.out hg (Kd.R_ne HOl.out HXl.out (by decide))); have haw5 := Kd.R_away (Kd.R_mono HOl.out (fun _ hk => hk.1)) (g := wb.heap.size) (fun _ hk => hk); have HM5 := Aside0.mk (HMl.out.kept hg haw5); have HT5 := Aside0.mk (HT.out.below hb); clear ho hb hg hat haw5))
            have cz0 : w5.cell? ⟨w.heap.size, 0, none⟩ = some (.int .i64 a0) := blk_cell HX5.out 0
            have cz1 : w5.cell? ⟨w.heap.size, 1, none⟩ = some (.int .i64 a1) := blk_cell HX5.out 1
            have cz2 : w5.cell? ⟨w.heap.size, 2, none⟩ = some (.int .i64 a2) := blk_cell HX5.out 2
            go_quiet (fail)
            go_wp2_with fail
            go_roundg k1
            case measure => have := HK.out; omega
            case rel => exact ⟨Go.bits .or .i64 v (Go.bits .or .i64 jt jy), xs ++ [tz, y2], qs, rfl, HH, ⟨by have := HK.out; omega⟩, ⟨by (with_reducible repeat (first | apply Kd.R_alloc | apply Kd.R_drewN | apply Kd.R_drew)); exact HO5.out⟩, ⟨by (with_reducible repeat (first | refine blk_drewN ?_ _ | refine blk_drew ?_ | refine blk_alloc ?_ _)); exact HX5.out⟩, ⟨(by first | exact HM5.out | exact HM5.out.below (below_drew1 (Below.refl _ _)) | exact HM5.out.below (pw_below_drewN (Below.refl _ _) _) | exact HM5.out.below (below_drew1 (pw_below_drewN (Below.refl _ _) _)))⟩, ⟨(by first | exact HT5.out | exact HT5.out.below (below_drew1 (Below.refl _ _)) | exact HT5.out.below (pw_below_drewN (Below.refl _ _) _) | exact HT5.out.below (below_drew1 (pw_below_drewN (Below.refl _ _) _)))⟩, ⟨(by repeat (first | (with_reducible first | exact HB5.out | apply below_alloc | apply pw_below_drewN | apply below_drew1) | exact HB5.out))⟩, ⟨wf_bits _ _ _⟩⟩


end Go.Proofs.YtbdkmkbkggnekaaDoor.PFnExactTilingFirst
