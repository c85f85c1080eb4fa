-- Made by a program of this session (a changed copy of the kit print): the kit print itself does not give this text
import Derived.Test.YtbdkmkbkggnekaaDoorPFnTilingFirstx0
import Derived.Test.YtbdkmkbkggnekaaDoorPFnTilingFirstx3
import Derived.Test.YtbdkmkbkggnekaaDoorPFnTilingFirstx4
import Derived.Test.YtbdkmkbkggnekaaDoorV2
namespace Go.Proofs.YtbdkmkbkggnekaaDoor.PFnTilingFirst
open Go.RowKit Go.Proofs.YtbdkmkbkggnekaaDoorW.PrintWords Go.Proofs.YtbdkmkbkggnekaaDoorW.PrintLast Go.Proofs.YtbdkmkbkggnekaaDoorW.PrintMore
attribute [local go_sem] max2_int min2_int max_two min_two max_three min_three max_four min_four   -- for this text's walks alone
set_option linter.unusedVariables false
set_option linter.unusedSimpArgs false

/-! ### spec_TilingCount: function 8 -/
--@import Derived.Test.YtbdkmkbkggnekaaDoorV2
open Go.Proofs.YtbdkmkbkggnekaaDoor.My
def spec_TilingCount.f (k : Nat) (a0 a1 a2 : Int) : Option Int := (spec_BoardValid.f a0 a1 a2).bind fun t => (if t = true then ((spec_l14Ways.f k a0 a1 a2 a2 [] []).bind fun z => some z.1) else some (-1))
theorem spec_TilingCount.mono : ∀ a0 a1 a2 k, LeO (spec_TilingCount.f k a0 a1 a2) (spec_TilingCount.f (k + 1) a0 a1 a2) := by
  intro a0 a1 a2 k
  unfold spec_TilingCount.f
  repeat' first
      | (with_reducible exact spec_l14Ways.mono _ _ _ _ _ _ _)
      | (with_reducible exact LeO.refl _)
      | (with_reducible exact LeO.none _)
      | (with_reducible refine LeO.ite ?_ ?_)
      | (with_reducible refine LeO.bind ?_ (fun _ => ?_))
      | exact spec_l14Ways.mono _ _ _ _ _ _ _
      | exact LeO.none _
      | refine LeO.ite ?_ ?_
      | refine LeO.bind ?_ (fun _ => ?_)
set_option maxHeartbeats 4000000 in
set_option maxRecDepth 100000 in
theorem spec_TilingCount.calls (k : Nat) (a0 a1 a2 : Int) (r : Int) (w : World) (h : spec_TilingCount.f k a0 a1 a2 = some r) :
    Calls Tryd.prog 8 #[.agg #[.int .i64 a0, .int .i64 a1, .int .i64 a2]] w fun e w' => e = .returned (.int .i64 r) ∧ Below w.heap.size w w' := by
  have hu25 := Tryd.underlying25
  obtain ⟨t, ht, h⟩ := Option.bind_eq_some_iff.mp h
  have HV := Aside0.mk ht
  clear ht
  obtain ⟨W1, hW1⟩ : ∃ W1 : World, W1 = w.alloc (Obj.cells #[.int .i64 a0, .int .i64 a1, .int .i64 a2] 25) := ⟨_, rfl⟩
  have HW1 := Aside0.mk hW1
  have HBW : Aside0 (Below w.heap.size w W1) := ⟨by rw [hW1]; exact (Below.refl _ _).alloc (Nat.le_refl _) _⟩
  have HGB : Aside0 (W1.heap[w.heap.size]? = some (Obj.cells #[.int .i64 a0, .int .i64 a1, .int .i64 a2] 25 (0, 0))) := ⟨by rw [hW1]; exact blk_new _ _⟩
  have cb0 : (w.alloc (Obj.cells #[.int .i64 a0, .int .i64 a1, .int .i64 a2] 25)).cell? ⟨w.heap.size, 0, none⟩ = some (.int .i64 a0) := blk_cell (blk_new _ _) 0
  have cb1 : (w.alloc (Obj.cells #[.int .i64 a0, .int .i64 a1, .int .i64 a2] 25)).cell? ⟨w.heap.size, 1, none⟩ = some (.int .i64 a1) := blk_cell (blk_new _ _) 1
  have cb2 : (w.alloc (Obj.cells #[.int .i64 a0, .int .i64 a1, .int .i64 a2] 25)).cell? ⟨w.heap.size, 2, none⟩ = some (.int .i64 a2) := blk_cell (blk_new _ _) 2
  clear hW1
  cases t with
  | false =>
    rw [if_neg (by decide)] at h
    have er : -1 = r := Option.some.inj h
    subst er
    clear h
    go_enter Tryd.func8, Tryd.ntmps8
    go_wp2_with (first | (go_at_call 23; rw [← HW1.out]; refine (spec_BoardValid.calls a0 a1 a2 _ _ HV.out).mono ?_; rintro e wb ⟨rfl, hd⟩; have HB1 := Aside0.mk (below_step HBW.out hd); have HG1 := Aside0.mk ((hd.block _ (lt_of_some HGB.out)).trans HGB.out); have cx0 : wb.cell? ⟨w.heap.size, 0, none⟩ = some (.int .i64 a0) := blk_cell HG1.out 0; have cx1 : wb.cell? ⟨w.heap.size, 1, none⟩ = some (.int .i64 a1) := blk_cell HG1.out 1; have cx2 : wb.cell? ⟨w.heap.size, 2, none⟩ = some (.int .i64 a2) := blk_cell HG1.out 2; clear hd))
    go_ret
    exact ⟨rfl, HB1.out⟩
  | true =>
    rw [if_pos rfl] at h
    obtain ⟨⟨n, ks', ns'⟩, hf, h⟩ := Option.bind_eq_some_iff.mp h
    have er : n = r := Option.some.inj h
    subst er
    have HF := Aside0.mk hf
    clear h hf
    go_enter Tryd.func8, Tryd.ntmps8
    go_wp2_with (first | (go_at_call 23; rw [← HW1.out]; refine (spec_BoardValid.calls a0 a1 a2 _ _ HV.out).mono ?_; rintro e wb ⟨rfl, hd⟩; have HB1 := Aside0.mk (below_step HBW.out hd); have HG1 := Aside0.mk ((hd.block _ (lt_of_some HGB.out)).trans HGB.out); have cx0 : wb.cell? ⟨w.heap.size, 0, none⟩ = some (.int .i64 a0) := blk_cell HG1.out 0; have cx1 : wb.cell? ⟨w.heap.size, 1, none⟩ = some (.int .i64 a1) := blk_cell HG1.out 1; have cx2 : wb.cell? ⟨w.heap.size, 2, none⟩ = some (.int .i64 a2) := blk_cell HG1.out 2; clear hd) | ((with_reducible refine gate_dst (N := 8) rfl ?_); refine Kd.R_lit (Kd.int .i64) (w0 := w) w.heap.size 3 ?hg (N := 8) ?hd (xs := ([] : List Int)) (inner := []) (ok := fun _ => True) (okp := fun _ => False) ?hr ?hp (fun _ hk => hk.elim) ?hq HB1.out HB1.out.size (by simp) ?_; (case hd => rfl); (case hg => rfl); (case hr => first | (go_simp; done) | (go_simp; rfl)); (case hp => exact Reps.none _ _); (case hq => first | exact trivial | exact Nat.le_refl _); intro v8 w1 ho hb hg_ hnew_; obtain ⟨Ad8, cd8, ev8⟩ := Kd.R_slice ho; subst ev8; have HG2 := Aside0.mk (blk_alloc (blk_grown HG1.out hg_ (by simp)) (Obj.cells #[Value.slice Ad8 0 cd8] 28)); have HB2 := Aside0.mk (hb.alloc hb.size (Obj.cells #[Value.slice Ad8 0 cd8] 28)); have HO8 := Aside0.mk (Kd.R_alloc ho (Obj.cells #[Value.slice Ad8 0 cd8] 28)); have HK8 := Aside0.mk (blk_new w1 (Obj.cells #[Value.slice Ad8 0 cd8] 28)); have HS1 := Aside0.mk hb.size; clear cx0 cx1 cx2; have cx0 : (w1.alloc (Obj.cells #[Value.slice Ad8 0 cd8] 28)).cell? ⟨w.heap.size, 0, none⟩ = some (.int .i64 a0) := blk_cell HG2.out 0; have cx1 : (w1.alloc (Obj.cells #[Value.slice Ad8 0 cd8] 28)).cell? ⟨w.heap.size, 1, none⟩ = some (.int .i64 a1) := blk_cell HG2.out 1; have cx2 : (w1.alloc (Obj.cells #[Value.slice Ad8 0 cd8] 28)).cell? ⟨w.heap.size, 2, none⟩ = some (.int .i64 a2) := blk_cell HG2.out 2; clear ho hb hg_ hnew_) | ((with_reducible refine gate_dst (N := 9) rfl ?_); refine Kd.R_lit (Kd.int .i64) (w0 := w) w.heap.size 3 ?hg (N := 9) ?hd (xs := ([] : List Int)) (inner := []) (ok := fun q => (w1.alloc (Obj.cells #[Value.slice Ad8 0 cd8] 28)).heap.size ≤ q) (okp := fun _ => False) ?hr ?hp (fun _ hk => hk.elim) ?hq HB2.out HB2.out.size (by simp) ?_; (case hd => rfl); (case hg => rfl); (case hr => first | (go_simp; done) | (go_simp; rfl)); (case hp => exact Reps.none _ _); (case hq => first | exact trivial | exact Nat.le_refl _); intro v9 w2 ho hb hg_ hnew_; obtain ⟨Ad9, cd9, ev9⟩ := Kd.R_slice ho; subst ev9; have HG3 := Aside0.mk (blk_alloc (blk_grown HG2.out hg_ (by simp)) (Obj.cells #[Value.slice Ad9 0 cd9] 28)); have HB3 := Aside0.mk (hb.alloc hb.size (Obj.cells #[Value.slice Ad9 0 cd9] 28)); have HTW : Aside0 (Two w1.heap.size w2.heap.size w.heap.size (w2.alloc (Obj.cells #[Value.slice Ad9 0 cd9] 28)) [] []) := ⟨_, _, blk_alloc (blk_grown HK8.out hg_ (by simp)) _, blk_new _ _, Kd.R_alloc (Kd.R_grown (Kd.R_mono (ok' := fun q => some q ≠ (Value.slice Ad9 0 cd9).ownBlock) (Kd.R_bound HO8.out) (fun q hq e1 => by obtain ⟨b9, e9, l9⟩ := hnew_; have e2 := Option.some.inj (e1.trans e9); have := hq.2.2.1; omega)) hg_ (fun _ _ => by simp)) _, Kd.R_alloc (Kd.R_mono ho (fun q hq e1 => by have := own_lt_R HO8.out q e1.symm; omega)) _⟩; have HS2 := Aside0.mk (show w.heap.size ≤ w2.heap.size ∧ w1.heap.size ≠ w2.heap.size from ⟨hb.size, by have h1 := hg_.size; have h2 : (w1.alloc (Obj.cells #[Value.slice Ad8 0 cd8] 28)).heap.size = w1.heap.size + 1 := World.size_alloc _ _; omega⟩); clear cx0 cx1 cx2; have cx0 : (w2.alloc (Obj.cells #[Value.slice Ad9 0 cd9] 28)).cell? ⟨w.heap.size, 0, none⟩ = some (.int .i64 a0) := blk_cell HG3.out 0; have cx1 : (w2.alloc (Obj.cells #[Value.slice Ad9 0 cd9] 28)).cell? ⟨w.heap.size, 1, none⟩ = some (.int .i64 a1) := blk_cell HG3.out 1; have cx2 : (w2.alloc (Obj.cells #[Value.slice Ad9 0 cd9] 28)).cell? ⟨w.heap.size, 2, none⟩ = some (.int .i64 a2) := blk_cell HG3.out 2; clear ho hb hg_ hnew_) | ((with_reducible refine gate_callee (f := 24) rfl ?_); refine goesL_ (some 13) rfl rfl Tryd.func24 (by kernel_rfl) rfl #[.agg #[.int .i64 a0, .int .i64 a1, .int .i64 a2], .int .i64 a2, .pointer (some ⟨w1.heap.size, 0, none⟩), .pointer (some ⟨w2.heap.size, 0, none⟩)] rfl (by (try simp only [List.map_toArray, List.map_cons, List.map_nil]); first | done | rfl) ?_; refine (spec_l14Ways.calls w w1.heap.size w2.heap.size HS1.out HS2.out.1 HS2.out.2 a0 a1 a2 k a2 [] [] n ks' ns' _ HB3.out HTW.out HF.out).mono ?_; rintro e wc ⟨rfl, hd1, _, _⟩; have HB4 := Aside0.mk hd1; clear hd1; refine ⟨_, rfl, ?_⟩))
    go_ret
    exact ⟨rfl, HB4.out⟩

end Go.Proofs.YtbdkmkbkggnekaaDoor.PFnTilingFirst
