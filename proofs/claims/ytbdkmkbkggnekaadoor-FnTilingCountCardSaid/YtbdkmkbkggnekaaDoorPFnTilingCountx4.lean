-- Made by a program of this session (a changed copy of the kit print): the kit print itself does not give this text
import Derived.Test.YtbdkmkbkggnekaaDoorPFnTilingCountx0
import Derived.Test.YtbdkmkbkggnekaaDoorPFnTilingCountx3
import Derived.BigQuiet
import Derived.Deep.QuietTactic
import Derived.Deep.RegionHeld3
import Derived.StillTailTactics
import Derived.Test.YtbdkmkbkggnekaaDoorV2
namespace Go.Proofs.YtbdkmkbkggnekaaDoor.PFnTilingCount
open Go.RowKit Go.Proofs.YtbdkmkbkggnekaaDoorW.PrintWords Go.Proofs.YtbdkmkbkggnekaaDoorW.PrintLast Go.Proofs.YtbdkmkbkggnekaaDoorW.PrintMore
attribute [local go_sem] max2_int min2_int max_two min_two max_three min_three max_four min_four   -- for this text's walks alone
set_option linter.unusedVariables false
set_option linter.unusedSimpArgs false

/-! ### impl_tilings: function 26 -/
--@import Derived.Test.YtbdkmkbkggnekaaDoorV2
open Go.Proofs.YtbdkmkbkggnekaaDoor.My
--@import Derived.Deep.RegionHeld3
--@import Derived.StillTailTactics
--@import Derived.Deep.QuietTactic
--@import Derived.BigQuiet
def impl_tilings.f : Nat → Int → Int → Int → Int → List (Int × Int) → Option (Int × List (Int × Int))
  | 0, _, _, _, _, _ => none
  | k + 1, a0, a1, a2, v, ps => if 0 ≤ wrap64 (a0 * a1) then (if v = wrap64 (shl .i64 1 (wrap64 (a0 * a1)) - 1) then (some (1, ps)) else (match ps.lookup v with
    | some n => some (n, ps)
    | none => (if a1 = 0 then none else (if 0 ≤ wrap64 (tzV v + 1) then (if 0 ≤ wrap64 (tzV v + a1) then
      ((if Int.tmod (tzV v) a1 < wrap64 (a1 - 1) ∧ Go.bits .and .i64 (shr .i64 v (wrap64 (tzV v + 1))) 1 = 0 then ((impl_tilings.f k a0 a1 a2 (Go.bits .or .i64 (Go.bits .or .i64 v (shl .i64 1 (tzV v))) (shl .i64 1 (wrap64 (tzV v + 1)))) ps).bind fun z => some (wrap64 (0 + z.1), z.2)) else (some (0, ps))).bind fun z =>
      ((if wrap64 (tzV v + a1) < wrap64 (a0 * a1) ∧ Go.bits .and .i64 (shr .i64 v (wrap64 (tzV v + a1))) 1 = 0 then ((impl_tilings.f k a0 a1 a2 (Go.bits .or .i64 (Go.bits .or .i64 v (shl .i64 1 (tzV v))) (shl .i64 1 (wrap64 (tzV v + a1)))) z.2).bind fun y => some (wrap64 (z.1 + y.1), y.2)) else (some z)).bind fun z =>
      (if z.2.length < 4398046511104 then (some (z.1, (v, z.1) :: z.2)) else none))) else none) else none))))  else none
theorem impl_tilings.mono : ∀ (a0 a1 a2 v : Int) (ps : List (Int × Int)) (k : Nat), LeO (impl_tilings.f k a0 a1 a2 v ps) (impl_tilings.f (k + 1) a0 a1 a2 v ps) := by
  intro a0 a1 a2 v ps k
  induction k generalizing v ps with
  | zero => intro r h; simp [impl_tilings.f] at h
  | succ k ih =>
    rw [impl_tilings.f, impl_tilings.f]
    generalize List.lookup v ps = o
    cases o <;> dsimp only <;> repeat' first
      | (with_reducible exact ih _ _)
      | (with_reducible exact LeO.refl _)
      | (with_reducible exact LeO.none _)
      | (with_reducible refine LeO.ite ?_ ?_)
      | (with_reducible refine LeO.bind ?_ (fun _ => ?_))
def impl_tilings.T10 : Bool × List (List Nat × List Nat) := (true, [([], []), ([], []), ([], []), ([], []), ([3], [3]), ([2, 4], [2, 4]), ([], []), ([6], [6]), ([7], [7]), ([5, 8], [5, 8]), ([], []), ([1, 9, 10], [1, 9, 10]), ([0, 11], [0, 11]), ([12, 11, 0, 1, 2, 3, 4, 5, 6, 7, 8, 9, 10, 11, 12], [0, 12])])
def impl_tilings.B10 : List Nat := [0, 0, 0, 0, 8, 28, 0, 64, 192, 508, 0, 2046, 4095, 8191]
theorem impl_tilings.tab10 : rtab .any (opsOf Tryd.f26 10) = impl_tilings.T10 := by kernel_rfl
theorem impl_tilings.bits10 : waitsOk impl_tilings.T10.2 impl_tilings.B10 = true := by kernel_rfl
def impl_tilings.T12 : Bool × List (List Nat × List Nat) := (true, [([], []), ([], []), ([], []), ([], []), ([3], [3]), ([2, 4], [2, 4]), ([], []), ([], []), ([7], [7]), ([6, 8], [6, 8]), ([9], [9]), ([5, 10], [5, 10]), ([], []), ([1, 11, 12], [1, 11, 12]), ([0, 13], [0, 13]), ([14, 13, 0, 1, 2, 3, 4, 5, 6, 7, 8, 9, 10, 11, 12, 13, 14], [0, 14])])
def impl_tilings.B12 : List Nat := [0, 0, 0, 0, 8, 28, 0, 0, 128, 448, 960, 2044, 0, 8190, 16383, 32767]
theorem impl_tilings.tab12 : rtab .any (opsOf Tryd.f26 12) = impl_tilings.T12 := by kernel_rfl
theorem impl_tilings.bits12 : waitsOk impl_tilings.T12.2 impl_tilings.B12 = true := by kernel_rfl
theorem grown_trans {w w1 w2 : World} {row : Option Nat} (h : w.grownBy w1 row) (h' : w1.grownBy w2 row) : w.grownBy w2 row :=
  ⟨h'.os.trans h.os, h'.tape.trans h.tape, h'.output.trans h.output, Nat.le_trans h.size h'.size, fun i hi hne => (h'.block i (Nat.lt_of_lt_of_le hi h.size) hne).trans (h.block i hi hne)⟩
theorem tz_nn (v : Int) : 0 ≤ tzV v := by unfold tzV; omega
set_option maxHeartbeats 4000000 in
set_option maxRecDepth 100000 in
theorem impl_tilings.calls (a0 a1 a2 : Int) (b : Nat) (hb1 : b ≠ 1) (k : Nat) : ∀ (v : Int) (ps : List (Int × Int)) (n : Int) (ps' : List (Int × Int)) (w : World) (hv : (Lit.int .i64 v).wf = true) (hm : MapI Tryd.prog 3 3 w b ps) (hT : Tab64 w) (h : impl_tilings.f k a0 a1 a2 v ps = some (n, ps')),
    Calls Tryd.prog 26 #[.agg #[.int .i64 a0, .int .i64 a1, .int .i64 a2], .int .i64 v, .map (some b)] w fun e w' => e = .returned (.int .i64 n) ∧ MapI Tryd.prog 3 3 w' b ps' ∧ w.grownBy w' (some b) ∧ (Lit.int .i64 n).wf = true := by
  induction k with
  | zero => intro v ps n ps' w hv hm hT h; exact absurd h (by simp [impl_tilings.f])
  | succ k ih =>
    intro v ps n ps' w hv hm hT h
    rw [impl_tilings.f] at h
    have hu25 := Tryd.underlying25
    have z3 : ∀ w : World, (zeroValue 3).run Tryd.prog w = .ok (.int .i64 0) w := fun w => by kernel_rfl
    have HIH := Aside0.mk ih
    have HM := Aside0.mk hm
    have HT := Aside0.mk hT
    have HV := Aside0.mk hv
    clear ih hm hT hv
    obtain ⟨W1, hW1⟩ : ∃ W1 : World, W1 = w.alloc (Obj.cells #[.int .i64 a0, .int .i64 a1, .int .i64 a2] 25) := ⟨_, rfl⟩
    have HW1 := Aside0.mk hW1
    have HBW : Aside0 (Below w.heap.size w W1) := ⟨by rw [hW1]; exact (Below.refl _ _).alloc (Nat.le_refl _) _⟩
    have HGB : Aside0 (W1.heap[w.heap.size]? = some (Obj.cells #[.int .i64 a0, .int .i64 a1, .int .i64 a2] 25 (0, 0))) := ⟨by rw [hW1]; exact blk_new _ _⟩
    have cb0 : (w.alloc (Obj.cells #[.int .i64 a0, .int .i64 a1, .int .i64 a2] 25)).cell? ⟨w.heap.size, 0, none⟩ = some (.int .i64 a0) := blk_cell (blk_new _ _) 0
    have cb1 : (w.alloc (Obj.cells #[.int .i64 a0, .int .i64 a1, .int .i64 a2] 25)).cell? ⟨w.heap.size, 1, none⟩ = some (.int .i64 a1) := blk_cell (blk_new _ _) 1
    have HNE : Aside0 (w.heap.size ≠ b) := ⟨fun e => by have := HM.out.lt; omega⟩
    clear hW1
    obtain ⟨cells, hcells⟩ : ∃ c_ : Int, c_ = wrap64 (a0 * a1) := ⟨_, rfl⟩
    rw [← hcells] at h
    have hcw : wrap64 (a0 * a1) = cells := hcells.symm
    have hcw2 : IntKind.i64.wrap (a0 * a1) = cells := by rw [i64_w]; exact hcells.symm
    clear hcells
    by_cases c0 : 0 ≤ cells
    · rw [if_pos c0] at h
      have c0' : decide (0 ≤ cells) = true := decide_eq_true c0
      have c0'' := eq_true c0
      obtain ⟨j1, hj1⟩ : ∃ j_ : Int, (shl .i64 1 cells) = j_ := ⟨_, rfl⟩
      rw [hj1] at h
      have hj1a : (IntKind.i64.wrap (1 * 2 ^ min cells.toNat 64)) = j1 := hj1
      have hj1b : (IntKind.i64.wrap (2 ^ min cells.toNat 64)) = j1 := by have h_ := hj1a; rw [Int.one_mul] at h_; exact h_
      have hj1c : (wrap64 (1 * 2 ^ min cells.toNat 64)) = j1 := (i64_w _).symm.trans hj1a
      have hj1d : (wrap64 (2 ^ min cells.toNat 64)) = j1 := (i64_w _).symm.trans hj1b
      clear hj1
      by_cases c1 : v = wrap64 (j1 - 1)
      · rw [if_pos c1] at h
        have c1' : (v == wrap64 (j1 - 1)) = true := beq_iff_eq.mpr c1
        simp only [Option.some.injEq, Prod.mk.injEq] at h
        obtain ⟨rfl, rfl⟩ := h
        clear c1 c0
        go_enter Tryd.func26, Tryd.ntmps26
        go_wp2_with fail
        go_ret
        exact ⟨rfl, by first | exact HM.out.alloc _ | exact HM.out.below HBW.out, by first | exact World.grownBy_alloc _ _ _ | exact grown_of_below HBW.out _, by decide⟩
      · rw [if_neg c1] at h
        have c1' : (v == wrap64 (j1 - 1)) = false := beq_eq_false_iff_ne.mpr c1
        clear c1 c0
        cases hl : ps.lookup v with
        | some m =>
          simp only [hl, Option.some.injEq, Prod.mk.injEq] at h
          obtain ⟨rfl, rfl⟩ := h
          have HL := Aside0.mk hl
          clear hl
          have HMW : Aside0 ((Lit.int .i64 m).wf = true) := ⟨HM.out.wf HL.out⟩
          go_enter Tryd.func26, Tryd.ntmps26
          go_wp2_with (first | (at_lookup; rw [← HW1.out]; refine mapI_look (HM.out.below HBW.out) rfl _ _ 45 rfl Tryd.underlying3 Tryd.underlying45 Tryd.underlying3 (z3 _) rfl v rfl (Go.Maps.keyOf_int_mk Tryd.underlying3 HV.out) ?_; intro c hc; have hc_ := hc _ HL.out; subst hc_; rw [HL.out]; simp only [Option.isSome_some]; clear hc))
          go_ret
          exact ⟨rfl, HM.out.below HBW.out, grown_of_below HBW.out _, HMW.out⟩
        | none =>
          simp only [hl] at h
          have HL := Aside0.mk hl
          clear hl
          have HTZ : Aside0 (((Lib.ctz 64 (Go.bits BinOp.xor IntKind.u64 IntKind.u64.max (IntKind.u64.wrap v)).toNat : Nat) : Int) = tzV v) := ⟨rfl⟩
          have htz0 := tz_nn v
          generalize tzV v = tz at h HTZ htz0
          have htz0' : decide (0 ≤ tz) = true := decide_eq_true htz0
          have htz0'' := eq_true htz0
          by_cases c2 : a1 = 0
          · rw [if_pos c2] at h; exact absurd h (by simp)
          rw [if_neg c2] at h
          have c2' : (a1 == 0) = false := beq_eq_false_iff_ne.mpr c2
          have c2'' : (a1 = 0) = False := eq_false c2
          clear c2
          obtain ⟨u, hu⟩ : ∃ c_ : Int, c_ = wrap64 (tz + 1) := ⟨_, rfl⟩
          rw [← hu] at h
          have huw : wrap64 (tz + 1) = u := hu.symm
          have huv : IntKind.i64.wrap (tz + 1) = u := by rw [i64_w]; exact hu.symm
          clear hu
          obtain ⟨y2, hy2⟩ : ∃ c_ : Int, c_ = wrap64 (tz + a1) := ⟨_, rfl⟩
          rw [← hy2] at h
          have hy2w : wrap64 (tz + a1) = y2 := hy2.symm
          have hy2v : IntKind.i64.wrap (tz + a1) = y2 := by rw [i64_w]; exact hy2.symm
          clear hy2
          obtain ⟨d, hd⟩ : ∃ c_ : Int, c_ = wrap64 (a1 - 1) := ⟨_, rfl⟩
          rw [← hd] at h
          have hdw : wrap64 (a1 - 1) = d := hd.symm
          have hdv : IntKind.i64.wrap (a1 - 1) = d := by rw [i64_w]; exact hd.symm
          clear hd
          by_cases c3 : 0 ≤ u
          · rw [if_pos c3] at h
            by_cases c4 : 0 ≤ y2
            · rw [if_pos c4] at h
              have c3' : decide (0 ≤ u) = true := decide_eq_true c3
              have c4' : decide (0 ≤ y2) = true := decide_eq_true c4
              replace c3 := eq_true c3
              replace c4 := eq_true c4
              obtain ⟨jt, hjt⟩ : ∃ j_ : Int, (shl .i64 1 tz) = j_ := ⟨_, rfl⟩
              rw [hjt] at h
              have hjta : (IntKind.i64.wrap (1 * 2 ^ min tz.toNat 64)) = jt := hjt
              have hjtb : (IntKind.i64.wrap (2 ^ min tz.toNat 64)) = jt := by have h_ := hjta; rw [Int.one_mul] at h_; exact h_
              have hjtc : (wrap64 (1 * 2 ^ min tz.toNat 64)) = jt := (i64_w _).symm.trans hjta
              have hjtd : (wrap64 (2 ^ min tz.toNat 64)) = jt := (i64_w _).symm.trans hjtb
              clear hjt
              obtain ⟨ju, hju⟩ : ∃ j_ : Int, (shl .i64 1 u) = j_ := ⟨_, rfl⟩
              rw [hju] at h
              have hjua : (IntKind.i64.wrap (1 * 2 ^ min u.toNat 64)) = ju := hju
              have hjub : (IntKind.i64.wrap (2 ^ min u.toNat 64)) = ju := by have h_ := hjua; rw [Int.one_mul] at h_; exact h_
              have hjuc : (wrap64 (1 * 2 ^ min u.toNat 64)) = ju := (i64_w _).symm.trans hjua
              have hjud : (wrap64 (2 ^ min u.toNat 64)) = ju := (i64_w _).symm.trans hjub
              clear hju
              obtain ⟨jy, hjy⟩ : ∃ j_ : Int, (shl .i64 1 y2) = j_ := ⟨_, rfl⟩
              rw [hjy] at h
              have hjya : (IntKind.i64.wrap (1 * 2 ^ min y2.toNat 64)) = jy := hjy
              have hjyb : (IntKind.i64.wrap (2 ^ min y2.toNat 64)) = jy := by have h_ := hjya; rw [Int.one_mul] at h_; exact h_
              have hjyc : (wrap64 (1 * 2 ^ min y2.toNat 64)) = jy := (i64_w _).symm.trans hjya
              have hjyd : (wrap64 (2 ^ min y2.toNat 64)) = jy := (i64_w _).symm.trans hjyb
              clear hjy
              obtain ⟨su, hsu⟩ : ∃ j_ : Int, (shr .i64 v u) = j_ := ⟨_, rfl⟩
              rw [hsu] at h
              have hsua : (v / 2 ^ min u.toNat 64) = su := hsu
              clear hsu
              obtain ⟨sy, hsy⟩ : ∃ j_ : Int, (shr .i64 v y2) = j_ := ⟨_, rfl⟩
              rw [hsy] at h
              have hsya : (v / 2 ^ min y2.toNat 64) = sy := hsy
              clear hsy
              obtain ⟨z, hz, h⟩ := Option.bind_eq_some_iff.mp h
              obtain ⟨x, hx, h⟩ := Option.bind_eq_some_iff.mp h
              obtain ⟨z1, z2⟩ := z
              obtain ⟨x1, x2⟩ := x
              by_cases cL : x2.length < 4398046511104
              · rw [if_pos cL] at h
                simp only [Option.some.injEq, Prod.mk.injEq] at h
                obtain ⟨rfl, rfl⟩ := h
                have LM := Aside0.mk cL
                clear cL
                go_enter Tryd.func26, Tryd.ntmps26
                go_upto_region 9 with (first | (at_lookup; rw [← HW1.out]; refine mapI_look (HM.out.below HBW.out) rfl _ _ 45 rfl Tryd.underlying3 Tryd.underlying45 Tryd.underlying3 (z3 _) rfl v rfl (Go.Maps.keyOf_int_mk Tryd.underlying3 HV.out) ?_; intro c hc; rw [HL.out]; simp only [Option.isSome_none]; clear hc) | (go_at_call 27; refine (tzI _ (bits_u64 _ _ _).1 (bits_u64 _ _ _).2 _ (HT.out.below HBW.out)).mono ?_; rintro e w_ ⟨he, hw_⟩; have hq_ := hw_.symm; subst hq_; rw [HTZ.out] at he; subst he; clear hw_))
                have cx1 : W1.cell? ⟨w.heap.size, 1, none⟩ = some (.int .i64 a1) := blk_cell HGB.out 1
                have cx0 : W1.cell? ⟨w.heap.size, 0, none⟩ = some (.int .i64 a0) := blk_cell HGB.out 0
                have cx2 : W1.cell? ⟨w.heap.size, 2, none⟩ = some (.int .i64 a2) := blk_cell HGB.out 2
                have HM1 := Aside0.mk (HM.out.below HBW.out)
                have HT1 := Aside0.mk (HT.out.below HBW.out)
                have HG1 := Aside0.mk (grown_of_below HBW.out (some b))
                by_cases cA : Int.tmod tz a1 < d
                · have cA' : decide (Int.tmod tz a1 < d) = true := decide_eq_true cA
                  by_cases cB : Go.bits .and .i64 su 1 = 0
                  · rw [if_pos ⟨cA, cB⟩] at hz
                    have cB' : (Go.bits .and .i64 su 1 == 0) = true := beq_iff_eq.mpr cB
                    clear cA cB
                    obtain ⟨⟨m1, m2⟩, hf1, hz⟩ := Option.bind_eq_some_iff.mp hz
                    simp only [Option.some.injEq, Prod.mk.injEq] at hz
                    obtain ⟨hz1, rfl⟩ := hz
                    have HF1 := Aside0.mk hf1
                    clear hf1
                    obtain ⟨s1, hs1⟩ : ∃ c_ : Int, c_ = wrap64 (0 + m1) := ⟨_, rfl⟩
                    have hs1w : wrap64 (0 + m1) = s1 := hs1.symm
                    have hs1v : IntKind.i64.wrap (0 + m1) = s1 := by rw [i64_w]; exact hs1.symm
                    have HWFs1 : Aside0 ((Lit.int .i64 s1).wf = true) := ⟨by rw [hs1]; exact wf_wrap _⟩
                    have hs1z : wrap64 m1 = s1 := by rw [hs1, Int.zero_add]
                    have hs1y : IntKind.i64.wrap m1 = s1 := by rw [i64_w]; exact hs1z
                    rw [← hs1] at hz1
                    subst hz1
                    clear hs1
                    go_quiet (fail)
                    go_wp2_with fail
                    have HMd := Aside0.mk HM1.out
                    refine start_ (n := 14) (S := fun w' => w'.cell? ⟨w.heap.size, 0, none⟩ = some (.int .i64 a0) ∧ w'.cell? ⟨w.heap.size, 1, none⟩ = some (.int .i64 a1) ∧ w'.cell? ⟨w.heap.size, 2, none⟩ = some (.int .i64 a2)) (ds := []) #[false, false, false, false, false, false, false, false, false, false, false, false, false, false] (by kernel_rfl) rfl rfl ⟨blk_cell HGB.out 0, blk_cell HGB.out 1, blk_cell HGB.out 2⟩ (fun hHeld => ?_); refine with_tabW impl_tilings.tab10 impl_tilings.bits10 (fun HT_ HW_ => ?_)
                    refine pure_ (i := 0) (N := some 50) (v := ?_) (a' := ?_) #[true, false, false, false, false, false, false, false, false, false, false, false, false, false] rfl rfl (any_of HT_.out (by kernel_rfl)) (fun _ _ _ h => h) (Or.inl ⟨by rfl, ?_⟩) ?_ ?_
                    rotate_left
                    · intro w'
                      go_simp
                      with_reducible rfl
                    rotate_left
                    · simp only [Act.put, List.setIfInBounds_toArray, List.set_cons_zero, List.set_cons_succ, i64_w, i32_w]
                      rfl
                    refine take_ (i := 1) (N := some 51) (v := ?_) (a' := ?_) #[true, true, false, false, false, false, false, false, false, false, false, false, false, false] rfl rfl (take_ofW HT_.out HW_.out (by kernel_rfl)) (fun _ _ _ h => h) (Or.inl ⟨by rfl, ?_⟩) hHeld ?_ ?_
                    rotate_left
                    · rintro w' ⟨s0, s1, s2⟩
                      go_simp
                      with_reducible rfl
                    rotate_left
                    · simp only [Act.put, List.setIfInBounds_toArray, List.set_cons_zero, List.set_cons_succ, i64_w, i32_w]
                      rfl
                    refine pure_ (i := 2) (N := some 52) (v := ?_) (a' := ?_) #[true, true, true, false, false, false, false, false, false, false, false, false, false, false] rfl rfl (any_of HT_.out (by kernel_rfl)) (fun _ _ _ h => h) (Or.inl ⟨by rfl, ?_⟩) ?_ ?_
                    rotate_left
                    · intro w'
                      go_simp
                      with_reducible rfl
                    rotate_left
                    · simp only [Act.put, List.setIfInBounds_toArray, List.set_cons_zero, List.set_cons_succ, i64_w, i32_w]
                      rfl
                    refine pure_ (i := 3) (N := some 53) (v := ?_) (a' := ?_) #[true, true, true, true, false, false, false, false, false, false, false, false, false, false] rfl rfl (any_of HT_.out (by kernel_rfl)) (fun _ _ _ h => h) (Or.inl ⟨by rfl, ?_⟩) ?_ ?_
                    rotate_left
                    · intro w'
                      go_simp
                      with_reducible rfl
                    rotate_left
                    · simp only [Act.put, List.setIfInBounds_toArray, List.set_cons_zero, List.set_cons_succ, i64_w, i32_w]
                      rfl
                    refine pure_ (i := 4) (N := some 54) (v := ?_) (a' := ?_) #[true, true, true, true, true, false, false, false, false, false, false, false, false, false] rfl rfl (any_of HT_.out (by kernel_rfl)) (fun _ _ _ h => h) (Or.inl ⟨by rfl, ?_⟩) ?_ ?_
                    rotate_left
                    · intro w'
                      go_simp
                      with_reducible rfl
                    rotate_left
                    · simp only [Act.put, List.setIfInBounds_toArray, List.set_cons_zero, List.set_cons_succ, i64_w, i32_w]
                      rfl
                    refine pure_ (i := 5) (N := some 55) (v := ?_) (a' := ?_) #[true, true, true, true, true, true, false, false, false, false, false, false, false, false] rfl rfl (any_of HT_.out (by kernel_rfl)) (fun _ _ _ h => h) (Or.inl ⟨by rfl, ?_⟩) ?_ ?_
                    rotate_left
                    · intro w'
                      go_simp
                      with_reducible rfl
                    rotate_left
                    · simp only [Act.put, List.setIfInBounds_toArray, List.set_cons_zero, List.set_cons_succ, i64_w, i32_w]
                      rfl
                    refine pure_ (i := 6) (N := some 56) (v := ?_) (a' := ?_) #[true, true, true, true, true, true, true, false, false, false, false, false, false, false] rfl rfl (any_of HT_.out (by kernel_rfl)) (fun _ _ _ h => h) (Or.inl ⟨by rfl, ?_⟩) ?_ ?_
                    rotate_left
                    · intro w'
                      go_simp
                      with_reducible rfl
                    rotate_left
                    · simp only [Act.put, List.setIfInBounds_toArray, List.set_cons_zero, List.set_cons_succ, i64_w, i32_w]
                      rfl
                    refine pure_ (i := 7) (N := some 57) (v := ?_) (a' := ?_) #[true, true, true, true, true, true, true, true, false, false, false, false, false, false] rfl rfl (any_of HT_.out (by kernel_rfl)) (fun _ _ _ h => h) (Or.inl ⟨by rfl, ?_⟩) ?_ ?_
                    rotate_left
                    · intro w'
                      go_simp
                      with_reducible rfl
                    rotate_left
                    · simp only [Act.put, List.setIfInBounds_toArray, List.set_cons_zero, List.set_cons_succ, i64_w, i32_w]
                      rfl
                    refine pure_ (i := 8) (N := some 58) (v := ?_) (a' := ?_) #[true, true, true, true, true, true, true, true, true, false, false, false, false, false] rfl rfl (any_of HT_.out (by kernel_rfl)) (fun _ _ _ h => h) (Or.inl ⟨by rfl, ?_⟩) ?_ ?_
                    rotate_left
                    · intro w'
                      go_simp
                      with_reducible rfl
                    rotate_left
                    · simp only [Act.put, List.setIfInBounds_toArray, List.set_cons_zero, List.set_cons_succ, i64_w, i32_w]
                      rfl
                    refine pure_ (i := 9) (N := some 59) (v := ?_) (a' := ?_) #[true, true, true, true, true, true, true, true, true, true, false, false, false, false] rfl rfl (any_of HT_.out (by kernel_rfl)) (fun _ _ _ h => h) (Or.inl ⟨by rfl, ?_⟩) ?_ ?_
                    rotate_left
                    · intro w'
                      go_simp
                      with_reducible rfl
                    rotate_left
                    · simp only [Act.put, List.setIfInBounds_toArray, List.set_cons_zero, List.set_cons_succ, i64_w, i32_w]
                      rfl
                    refine pure_ (i := 10) (N := some 60) (v := ?_) (a' := ?_) #[true, true, true, true, true, true, true, true, true, true, true, false, false, false] rfl rfl (any_of HT_.out (by kernel_rfl)) (fun _ _ _ h => h) (Or.inl ⟨by rfl, ?_⟩) ?_ ?_
                    rotate_left
                    · intro w'
                      go_simp
                      with_reducible rfl
                    rotate_left
                    · simp only [Act.put, List.setIfInBounds_toArray, List.set_cons_zero, List.set_cons_succ, i64_w, i32_w]
                      rfl
                    refine one_ (i := 11) (N := some 61) #[true, true, true, true, true, true, true, true, true, true, true, true, false, false] rfl rfl (one_of HT_.out (by kernel_rfl)) (by decide) (fun K hK => ?_)
                    refine call_ 26 #[.agg #[.int .i64 a0, .int .i64 a1, .int .i64 a2], .int .i64 (Go.bits .or .i64 (Go.bits .or .i64 v jt) ju), .map (some b)] (by rfl) rfl ?_ ?_
                    · first | (go_simp; done) | (go_simp; rfl)
                    refine (HIH.out _ ps m1 m2 _ (wf_bits _ _ _) (by first | exact HM1.out | exact HM1.out.below (below_drew1 (Below.refl _ _)) | exact HM1.out.below (pw_below_drewN (Below.refl _ _) _) | exact HM1.out.below (below_drew1 (pw_below_drewN (Below.refl _ _) _))) (by first | exact HT1.out | exact HT1.out.below (below_drew1 (Below.refl _ _)) | exact HT1.out.below (pw_below_drewN (Below.refl _ _) _) | exact HT1.out.below (below_drew1 (pw_below_drewN (Below.refl _ _) _))) HF1.out).mono ?_
                    rintro e wcA ⟨rfl, hd1, hd2, hd3⟩
                    have HMa := Aside0.mk hd1
                    have HGa := Aside0.mk (grown_trans HG1.out (grown_trans (by first | exact grown_of_below (Below.refl _ _) _ | exact grown_of_below (below_drew1 (Below.refl _ _)) _ | exact grown_of_below (pw_below_drewN (Below.refl _ _) _) _ | exact grown_of_below (below_drew1 (pw_below_drewN (Below.refl _ _) _)) _) hd2))
                    have HWa := Aside0.mk hd3
                    have HXa := Aside0.mk (blk_grown HGB.out (grown_trans (by first | exact grown_of_below (Below.refl _ _) _ | exact grown_of_below (below_drew1 (Below.refl _ _)) _ | exact grown_of_below (pw_below_drewN (Below.refl _ _) _) _ | exact grown_of_below (below_drew1 (pw_below_drewN (Below.refl _ _) _)) _) hd2) (by intro e1; injection e1 with e1; exact HNE.out e1))
                    have cxa : wcA.cell? ⟨w.heap.size, 1, none⟩ = some (.int .i64 a1) := blk_cell HXa.out 1
                    have cya : wcA.cell? ⟨w.heap.size, 0, none⟩ = some (.int .i64 a0) := blk_cell HXa.out 0
                    have cza : wcA.cell? ⟨w.heap.size, 2, none⟩ = some (.int .i64 a2) := blk_cell HXa.out 2
                    have HTa := Aside0.mk (HT.out.grown HGa.out hb1)
                    clear hd1 hd2 hd3
                    refine ⟨_, rfl, ?_⟩
                    refine hK.out _ _ ⟨cya, cxa, cza⟩ (fun hHeld => ?_)
                    clear hK K
                    refine norm_ (a' := ?_) ?_ ?_
                    rotate_left
                    · show Act.put _ (some 61) _ = _
                      simp only [Act.put, List.setIfInBounds_toArray, List.set_cons_zero, List.set_cons_succ, i64_w, i32_w]
                      rfl
                    refine pure_ (i := 12) (N := some 62) (v := ?_) (a' := ?_) #[true, true, true, true, true, true, true, true, true, true, true, true, true, false] rfl rfl (any_of HT_.out (by kernel_rfl)) (fun _ _ _ h => h) (Or.inl ⟨by rfl, ?_⟩) ?_ ?_
                    rotate_left
                    · intro w'
                      go_simp
                      with_reducible rfl
                    rotate_left
                    · simp only [Act.put, List.setIfInBounds_toArray, List.set_cons_zero, List.set_cons_succ, i64_w, i32_w]
                      rfl
                    refine pure_ (i := 13) (N := some 11) (v := ?_) (a' := ?_) #[true, true, true, true, true, true, true, true, true, true, true, true, true, true] rfl rfl (any_of HT_.out (by kernel_rfl)) (fun _ _ _ h => h) (Or.inl ⟨by rfl, ?_⟩) ?_ ?_
                    rotate_left
                    · intro w'
                      go_simp
                      with_reducible rfl
                    rotate_left
                    · simp only [Act.put, List.setIfInBounds_toArray, List.set_cons_zero, List.set_cons_succ, i64_w, i32_w]
                      rfl
                    refine done_ (done_of HT_.out (by kernel_rfl)) ?_

                    by_cases cC : y2 < cells
                    · have cC' : decide (y2 < cells) = true := decide_eq_true cC
                      by_cases cD : Go.bits .and .i64 sy 1 = 0
                      · rw [if_pos ⟨cC, cD⟩] at hx
                        have cD' : (Go.bits .and .i64 sy 1 == 0) = true := beq_iff_eq.mpr cD
                        clear cC cD
                        obtain ⟨⟨n1, n2⟩, hf2, hx⟩ := Option.bind_eq_some_iff.mp hx
                        simp only [Option.some.injEq, Prod.mk.injEq] at hx
                        obtain ⟨hx1, rfl⟩ := hx
                        have HF2 := Aside0.mk hf2
                        clear hf2
                        obtain ⟨s2, hs2⟩ : ∃ c_ : Int, c_ = wrap64 (s1 + n1) := ⟨_, rfl⟩
                        have hs2w : wrap64 (s1 + n1) = s2 := hs2.symm
                        have hs2v : IntKind.i64.wrap (s1 + n1) = s2 := by rw [i64_w]; exact hs2.symm
                        have HWFs2 : Aside0 ((Lit.int .i64 s2).wf = true) := ⟨by rw [hs2]; exact wf_wrap _⟩
                        rw [← hs2] at hx1
                        subst hx1
                        clear hs2
                        go_wp2_with fail
                        have HMd := Aside0.mk HMa.out
                        refine start_ (n := 16) (S := fun w' => w'.cell? ⟨w.heap.size, 0, none⟩ = some (.int .i64 a0) ∧ w'.cell? ⟨w.heap.size, 1, none⟩ = some (.int .i64 a1) ∧ w'.cell? ⟨w.heap.size, 2, none⟩ = some (.int .i64 a2)) (ds := []) #[false, false, false, false, false, false, false, false, false, false, false, false, false, false, false, false] (by kernel_rfl) rfl rfl ⟨blk_cell HXa.out 0, blk_cell HXa.out 1, blk_cell HXa.out 2⟩ (fun hHeld => ?_); refine with_tabW impl_tilings.tab12 impl_tilings.bits12 (fun HT_ HW_ => ?_)
                        refine pure_ (i := 0) (N := some 79) (v := ?_) (a' := ?_) #[true, false, false, false, false, false, false, false, false, false, false, false, false, false, false, false] rfl rfl (any_of HT_.out (by kernel_rfl)) (fun _ _ _ h => h) (Or.inl ⟨by rfl, ?_⟩) ?_ ?_
                        rotate_left
                        · intro w'
                          go_simp
                          with_reducible rfl
                        rotate_left
                        · simp only [Act.put, List.setIfInBounds_toArray, List.set_cons_zero, List.set_cons_succ, i64_w, i32_w]
                          rfl
                        refine take_ (i := 1) (N := some 80) (v := ?_) (a' := ?_) #[true, true, false, false, false, false, false, false, false, false, false, false, false, false, false, false] rfl rfl (take_ofW HT_.out HW_.out (by kernel_rfl)) (fun _ _ _ h => h) (Or.inl ⟨by rfl, ?_⟩) hHeld ?_ ?_
                        rotate_left
                        · rintro w' ⟨s0, s1, s2⟩
                          go_simp
                          with_reducible rfl
                        rotate_left
                        · simp only [Act.put, List.setIfInBounds_toArray, List.set_cons_zero, List.set_cons_succ, i64_w, i32_w]
                          rfl
                        refine pure_ (i := 2) (N := some 81) (v := ?_) (a' := ?_) #[true, true, true, false, false, false, false, false, false, false, false, false, false, false, false, false] rfl rfl (any_of HT_.out (by kernel_rfl)) (fun _ _ _ h => h) (Or.inl ⟨by rfl, ?_⟩) ?_ ?_
                        rotate_left
                        · intro w'
                          go_simp
                          with_reducible rfl
                        rotate_left
                        · simp only [Act.put, List.setIfInBounds_toArray, List.set_cons_zero, List.set_cons_succ, i64_w, i32_w]
                          rfl
                        refine pure_ (i := 3) (N := some 82) (v := ?_) (a' := ?_) #[true, true, true, true, false, false, false, false, false, false, false, false, false, false, false, false] rfl rfl (any_of HT_.out (by kernel_rfl)) (fun _ _ _ h => h) (Or.inl ⟨by rfl, ?_⟩) ?_ ?_
                        rotate_left
                        · intro w'
                          go_simp
                          with_reducible rfl
                        rotate_left
                        · simp only [Act.put, List.setIfInBounds_toArray, List.set_cons_zero, List.set_cons_succ, i64_w, i32_w]
                          rfl
                        refine pure_ (i := 4) (N := some 83) (v := ?_) (a' := ?_) #[true, true, true, true, true, false, false, false, false, false, false, false, false, false, false, false] rfl rfl (any_of HT_.out (by kernel_rfl)) (fun _ _ _ h => h) (Or.inl ⟨by rfl, ?_⟩) ?_ ?_
                        rotate_left
                        · intro w'
                          go_simp
                          with_reducible rfl
                        rotate_left
                        · simp only [Act.put, List.setIfInBounds_toArray, List.set_cons_zero, List.set_cons_succ, i64_w, i32_w]
                          rfl
                        refine pure_ (i := 5) (N := some 84) (v := ?_) (a' := ?_) #[true, true, true, true, true, true, false, false, false, false, false, false, false, false, false, false] rfl rfl (any_of HT_.out (by kernel_rfl)) (fun _ _ _ h => h) (Or.inl ⟨by rfl, ?_⟩) ?_ ?_
                        rotate_left
                        · intro w'
                          go_simp
                          with_reducible rfl
                        rotate_left
                        · simp only [Act.put, List.setIfInBounds_toArray, List.set_cons_zero, List.set_cons_succ, i64_w, i32_w]
                          rfl
                        refine pure_ (i := 6) (N := some 85) (v := ?_) (a' := ?_) #[true, true, true, true, true, true, true, false, false, false, false, false, false, false, false, false] rfl rfl (any_of HT_.out (by kernel_rfl)) (fun _ _ _ h => h) (Or.inl ⟨by rfl, ?_⟩) ?_ ?_
                        rotate_left
                        · intro w'
                          go_simp
                          with_reducible rfl
                        rotate_left
                        · simp only [Act.put, List.setIfInBounds_toArray, List.set_cons_zero, List.set_cons_succ, i64_w, i32_w]
                          rfl
                        refine pure_ (i := 7) (N := some 86) (v := ?_) (a' := ?_) #[true, true, true, true, true, true, true, true, false, false, false, false, false, false, false, false] rfl rfl (any_of HT_.out (by kernel_rfl)) (fun _ _ _ h => h) (Or.inl ⟨by rfl, ?_⟩) ?_ ?_
                        rotate_left
                        · intro w'
                          go_simp
                          with_reducible rfl
                        rotate_left
                        · simp only [Act.put, List.setIfInBounds_toArray, List.set_cons_zero, List.set_cons_succ, i64_w, i32_w]
                          rfl
                        refine take_ (i := 8) (N := some 87) (v := ?_) (a' := ?_) #[true, true, true, true, true, true, true, true, true, false, false, false, false, false, false, false] rfl rfl (take_ofW HT_.out HW_.out (by kernel_rfl)) (fun _ _ _ h => h) (Or.inl ⟨by rfl, ?_⟩) hHeld ?_ ?_
                        rotate_left
                        · rintro w' ⟨s0, s1, s2⟩
                          go_simp
                          with_reducible rfl
                        rotate_left
                        · simp only [Act.put, List.setIfInBounds_toArray, List.set_cons_zero, List.set_cons_succ, i64_w, i32_w]
                          rfl
                        refine pure_ (i := 9) (N := some 88) (v := ?_) (a' := ?_) #[true, true, true, true, true, true, true, true, true, true, false, false, false, false, false, false] rfl rfl (any_of HT_.out (by kernel_rfl)) (fun _ _ _ h => h) (Or.inl ⟨by rfl, ?_⟩) ?_ ?_
                        rotate_left
                        · intro w'
                          go_simp
                          with_reducible rfl
                        rotate_left
                        · simp only [Act.put, List.setIfInBounds_toArray, List.set_cons_zero, List.set_cons_succ, i64_w, i32_w]
                          rfl
                        refine pure_ (i := 10) (N := some 89) (v := ?_) (a' := ?_) #[true, true, true, true, true, true, true, true, true, true, true, false, false, false, false, false] rfl rfl (any_of HT_.out (by kernel_rfl)) (fun _ _ _ h => h) (Or.inl ⟨by rfl, ?_⟩) ?_ ?_
                        rotate_left
                        · intro w'
                          go_simp
                          with_reducible rfl
                        rotate_left
                        · simp only [Act.put, List.setIfInBounds_toArray, List.set_cons_zero, List.set_cons_succ, i64_w, i32_w]
                          rfl
                        refine pure_ (i := 11) (N := some 90) (v := ?_) (a' := ?_) #[true, true, true, true, true, true, true, true, true, true, true, true, false, false, false, false] rfl rfl (any_of HT_.out (by kernel_rfl)) (fun _ _ _ h => h) (Or.inl ⟨by rfl, ?_⟩) ?_ ?_
                        rotate_left
                        · intro w'
                          go_simp
                          with_reducible rfl
                        rotate_left
                        · simp only [Act.put, List.setIfInBounds_toArray, List.set_cons_zero, List.set_cons_succ, i64_w, i32_w]
                          rfl
                        refine pure_ (i := 12) (N := some 91) (v := ?_) (a' := ?_) #[true, true, true, true, true, true, true, true, true, true, true, true, true, false, false, false] rfl rfl (any_of HT_.out (by kernel_rfl)) (fun _ _ _ h => h) (Or.inl ⟨by rfl, ?_⟩) ?_ ?_
                        rotate_left
                        · intro w'
                          go_simp
                          with_reducible rfl
                        rotate_left
                        · simp only [Act.put, List.setIfInBounds_toArray, List.set_cons_zero, List.set_cons_succ, i64_w, i32_w]
                          rfl
                        refine one_ (i := 13) (N := some 92) #[true, true, true, true, true, true, true, true, true, true, true, true, true, true, false, false] rfl rfl (one_of HT_.out (by kernel_rfl)) (by decide) (fun K hK => ?_)
                        refine call_ 26 #[.agg #[.int .i64 a0, .int .i64 a1, .int .i64 a2], .int .i64 (Go.bits .or .i64 (Go.bits .or .i64 v jt) jy), .map (some b)] (by rfl) rfl ?_ ?_
                        · first | (go_simp; done) | (go_simp; rfl)
                        refine (HIH.out _ m2 n1 n2 _ (wf_bits _ _ _) (by first | exact HMa.out | exact HMa.out.below (below_drew1 (Below.refl _ _)) | exact HMa.out.below (pw_below_drewN (Below.refl _ _) _) | exact HMa.out.below (below_drew1 (pw_below_drewN (Below.refl _ _) _))) (by first | exact HTa.out | exact HTa.out.below (below_drew1 (Below.refl _ _)) | exact HTa.out.below (pw_below_drewN (Below.refl _ _) _) | exact HTa.out.below (below_drew1 (pw_below_drewN (Below.refl _ _) _))) HF2.out).mono ?_
                        rintro e wcB ⟨rfl, hd1, hd2, hd3⟩
                        have HMb := Aside0.mk hd1
                        have HGb := Aside0.mk (grown_trans HGa.out (grown_trans (by first | exact grown_of_below (Below.refl _ _) _ | exact grown_of_below (below_drew1 (Below.refl _ _)) _ | exact grown_of_below (pw_below_drewN (Below.refl _ _) _) _ | exact grown_of_below (below_drew1 (pw_below_drewN (Below.refl _ _) _)) _) hd2))
                        have HWb := Aside0.mk hd3
                        have HXb := Aside0.mk (blk_grown HXa.out (grown_trans (by first | exact grown_of_below (Below.refl _ _) _ | exact grown_of_below (below_drew1 (Below.refl _ _)) _ | exact grown_of_below (pw_below_drewN (Below.refl _ _) _) _ | exact grown_of_below (below_drew1 (pw_below_drewN (Below.refl _ _) _)) _) hd2) (by intro e1; injection e1 with e1; exact HNE.out e1))
                        have cxb : wcB.cell? ⟨w.heap.size, 1, none⟩ = some (.int .i64 a1) := blk_cell HXb.out 1
                        have cyb : wcB.cell? ⟨w.heap.size, 0, none⟩ = some (.int .i64 a0) := blk_cell HXb.out 0
                        have czb : wcB.cell? ⟨w.heap.size, 2, none⟩ = some (.int .i64 a2) := blk_cell HXb.out 2
                        have HTb := Aside0.mk (HT.out.grown HGb.out hb1)
                        clear hd1 hd2 hd3
                        refine ⟨_, rfl, ?_⟩
                        refine hK.out _ _ ⟨cyb, cxb, czb⟩ (fun hHeld => ?_)
                        clear hK K
                        refine norm_ (a' := ?_) ?_ ?_
                        rotate_left
                        · show Act.put _ (some 92) _ = _
                          simp only [Act.put, List.setIfInBounds_toArray, List.set_cons_zero, List.set_cons_succ, i64_w, i32_w]
                          rfl
                        refine pure_ (i := 14) (N := some 93) (v := ?_) (a' := ?_) #[true, true, true, true, true, true, true, true, true, true, true, true, true, true, true, false] rfl rfl (any_of HT_.out (by kernel_rfl)) (fun _ _ _ h => h) (Or.inl ⟨by rfl, ?_⟩) ?_ ?_
                        rotate_left
                        · intro w'
                          go_simp
                          with_reducible rfl
                        rotate_left
                        · simp only [Act.put, List.setIfInBounds_toArray, List.set_cons_zero, List.set_cons_succ, i64_w, i32_w]
                          rfl
                        refine pure_ (i := 15) (N := some 11) (v := ?_) (a' := ?_) #[true, true, true, true, true, true, true, true, true, true, true, true, true, true, true, true] rfl rfl (any_of HT_.out (by kernel_rfl)) (fun _ _ _ h => h) (Or.inl ⟨by rfl, ?_⟩) ?_ ?_
                        rotate_left
                        · intro w'
                          go_simp
                          with_reducible rfl
                        rotate_left
                        · simp only [Act.put, List.setIfInBounds_toArray, List.set_cons_zero, List.set_cons_succ, i64_w, i32_w]
                          rfl
                        refine done_ (done_of HT_.out (by kernel_rfl)) ?_

                        go_wp2_with (first | (at_mapUpdate; refine mapI_put (by first | exact HMb.out | exact HMb.out.below (below_drew1 (Below.refl _ _)) | exact HMb.out.below (pw_below_drewN (Below.refl _ _) _) | exact HMb.out.below (below_drew1 (pw_below_drewN (Below.refl _ _) _))) rfl _ _ _ 45 rfl Tryd.underlying3 Tryd.underlying45 Tryd.underlying3 rfl v rfl (Go.Maps.keyOf_int_mk Tryd.underlying3 HV.out) _ rfl HWFs2.out LM.out ?_; intro w9 hm9 hg9; have HM9 := Aside0.mk hm9; have HG9 := Aside0.mk (grown_trans HGb.out (grown_trans (by first | exact grown_of_below (Below.refl _ _) _ | exact grown_of_below (below_drew1 (Below.refl _ _)) _ | exact grown_of_below (pw_below_drewN (Below.refl _ _) _) _ | exact grown_of_below (below_drew1 (pw_below_drewN (Below.refl _ _) _)) _) hg9)); clear hm9 hg9))
                        go_ret
                        exact ⟨rfl, HM9.out, HG9.out, HWFs2.out⟩
                      · rw [if_neg (fun h_ => cD h_.2)] at hx
                        have cD' : (Go.bits .and .i64 sy 1 == 0) = false := beq_eq_false_iff_ne.mpr cD
                        clear cC cD
                        simp only [Option.some.injEq, Prod.mk.injEq] at hx
                        obtain ⟨rfl, rfl⟩ := hx
                        go_wp2_with (first | (at_mapUpdate; refine mapI_put (by first | exact HMa.out | exact HMa.out.below (below_drew1 (Below.refl _ _)) | exact HMa.out.below (pw_below_drewN (Below.refl _ _) _) | exact HMa.out.below (below_drew1 (pw_below_drewN (Below.refl _ _) _))) rfl _ _ _ 45 rfl Tryd.underlying3 Tryd.underlying45 Tryd.underlying3 rfl v rfl (Go.Maps.keyOf_int_mk Tryd.underlying3 HV.out) _ rfl HWFs1.out LM.out ?_; intro w9 hm9 hg9; have HM9 := Aside0.mk hm9; have HG9 := Aside0.mk (grown_trans HGa.out (grown_trans (by first | exact grown_of_below (Below.refl _ _) _ | exact grown_of_below (below_drew1 (Below.refl _ _)) _ | exact grown_of_below (pw_below_drewN (Below.refl _ _) _) _ | exact grown_of_below (below_drew1 (pw_below_drewN (Below.refl _ _) _)) _) hg9)); clear hm9 hg9))
                        go_ret
                        exact ⟨rfl, HM9.out, HG9.out, HWFs1.out⟩
                    · rw [if_neg (fun h_ => cC h_.1)] at hx
                      have cC' : decide (y2 < cells) = false := decide_eq_false cC
                      clear cC
                      simp only [Option.some.injEq, Prod.mk.injEq] at hx
                      obtain ⟨rfl, rfl⟩ := hx
                      go_wp2_with (first | (at_mapUpdate; refine mapI_put (by first | exact HMa.out | exact HMa.out.below (below_drew1 (Below.refl _ _)) | exact HMa.out.below (pw_below_drewN (Below.refl _ _) _) | exact HMa.out.below (below_drew1 (pw_below_drewN (Below.refl _ _) _))) rfl _ _ _ 45 rfl Tryd.underlying3 Tryd.underlying45 Tryd.underlying3 rfl v rfl (Go.Maps.keyOf_int_mk Tryd.underlying3 HV.out) _ rfl HWFs1.out LM.out ?_; intro w9 hm9 hg9; have HM9 := Aside0.mk hm9; have HG9 := Aside0.mk (grown_trans HGa.out (grown_trans (by first | exact grown_of_below (Below.refl _ _) _ | exact grown_of_below (below_drew1 (Below.refl _ _)) _ | exact grown_of_below (pw_below_drewN (Below.refl _ _) _) _ | exact grown_of_below (below_drew1 (pw_below_drewN (Below.refl _ _) _)) _) hg9)); clear hm9 hg9))
                      go_ret
                      exact ⟨rfl, HM9.out, HG9.out, HWFs1.out⟩
                  · rw [if_neg (fun h_ => cB h_.2)] at hz
                    have cB' : (Go.bits .and .i64 su 1 == 0) = false := beq_eq_false_iff_ne.mpr cB
                    clear cA cB
                    simp only [Option.some.injEq, Prod.mk.injEq] at hz
                    obtain ⟨rfl, rfl⟩ := hz
                    go_quiet (fail)
                    by_cases cC : y2 < cells
                    · have cC' : decide (y2 < cells) = true := decide_eq_true cC
                      by_cases cD : Go.bits .and .i64 sy 1 = 0
                      · rw [if_pos ⟨cC, cD⟩] at hx
                        have cD' : (Go.bits .and .i64 sy 1 == 0) = true := beq_iff_eq.mpr cD
                        clear cC cD
                        obtain ⟨⟨n1, n2⟩, hf2, hx⟩ := Option.bind_eq_some_iff.mp hx
                        simp only [Option.some.injEq, Prod.mk.injEq] at hx
                        obtain ⟨hx1, rfl⟩ := hx
                        have HF2 := Aside0.mk hf2
                        clear hf2
                        obtain ⟨s2, hs2⟩ : ∃ c_ : Int, c_ = wrap64 (0 + n1) := ⟨_, rfl⟩
                        have hs2w : wrap64 (0 + n1) = s2 := hs2.symm
                        have hs2v : IntKind.i64.wrap (0 + n1) = s2 := by rw [i64_w]; exact hs2.symm
                        have HWFs2 : Aside0 ((Lit.int .i64 s2).wf = true) := ⟨by rw [hs2]; exact wf_wrap _⟩
                        have hs2z : wrap64 n1 = s2 := by rw [hs2, Int.zero_add]
                        have hs2y : IntKind.i64.wrap n1 = s2 := by rw [i64_w]; exact hs2z
                        rw [← hs2] at hx1
                        subst hx1
                        clear hs2
                        go_wp2_with fail
                        have HMd := Aside0.mk HM1.out
                        refine start_ (n := 16) (S := fun w' => w'.cell? ⟨w.heap.size, 0, none⟩ = some (.int .i64 a0) ∧ w'.cell? ⟨w.heap.size, 1, none⟩ = some (.int .i64 a1) ∧ w'.cell? ⟨w.heap.size, 2, none⟩ = some (.int .i64 a2)) (ds := []) #[false, false, false, false, false, false, false, false, false, false, false, false, false, false, false, false] (by kernel_rfl) rfl rfl ⟨blk_cell HGB.out 0, blk_cell HGB.out 1, blk_cell HGB.out 2⟩ (fun hHeld => ?_); refine with_tabW impl_tilings.tab12 impl_tilings.bits12 (fun HT_ HW_ => ?_)
                        refine pure_ (i := 0) (N := some 79) (v := ?_) (a' := ?_) #[true, false, false, false, false, false, false, false, false, false, false, false, false, false, false, false] rfl rfl (any_of HT_.out (by kernel_rfl)) (fun _ _ _ h => h) (Or.inl ⟨by rfl, ?_⟩) ?_ ?_
                        rotate_left
                        · intro w'
                          go_simp
                          with_reducible rfl
                        rotate_left
                        · simp only [Act.put, List.setIfInBounds_toArray, List.set_cons_zero, List.set_cons_succ, i64_w, i32_w]
                          rfl
                        refine take_ (i := 1) (N := some 80) (v := ?_) (a' := ?_) #[true, true, false, false, false, false, false, false, false, false, false, false, false, false, false, false] rfl rfl (take_ofW HT_.out HW_.out (by kernel_rfl)) (fun _ _ _ h => h) (Or.inl ⟨by rfl, ?_⟩) hHeld ?_ ?_
                        rotate_left
                        · rintro w' ⟨s0, s1, s2⟩
                          go_simp
                          with_reducible rfl
                        rotate_left
                        · simp only [Act.put, List.setIfInBounds_toArray, List.set_cons_zero, List.set_cons_succ, i64_w, i32_w]
                          rfl
                        refine pure_ (i := 2) (N := some 81) (v := ?_) (a' := ?_) #[true, true, true, false, false, false, false, false, false, false, false, false, false, false, false, false] rfl rfl (any_of HT_.out (by kernel_rfl)) (fun _ _ _ h => h) (Or.inl ⟨by rfl, ?_⟩) ?_ ?_
                        rotate_left
                        · intro w'
                          go_simp
                          with_reducible rfl
                        rotate_left
                        · simp only [Act.put, List.setIfInBounds_toArray, List.set_cons_zero, List.set_cons_succ, i64_w, i32_w]
                          rfl
                        refine pure_ (i := 3) (N := some 82) (v := ?_) (a' := ?_) #[true, true, true, true, false, false, false, false, false, false, false, false, false, false, false, false] rfl rfl (any_of HT_.out (by kernel_rfl)) (fun _ _ _ h => h) (Or.inl ⟨by rfl, ?_⟩) ?_ ?_
                        rotate_left
                        · intro w'
                          go_simp
                          with_reducible rfl
                        rotate_left
                        · simp only [Act.put, List.setIfInBounds_toArray, List.set_cons_zero, List.set_cons_succ, i64_w, i32_w]
                          rfl
                        refine pure_ (i := 4) (N := some 83) (v := ?_) (a' := ?_) #[true, true, true, true, true, false, false, false, false, false, false, false, false, false, false, false] rfl rfl (any_of HT_.out (by kernel_rfl)) (fun _ _ _ h => h) (Or.inl ⟨by rfl, ?_⟩) ?_ ?_
                        rotate_left
                        · intro w'
                          go_simp
                          with_reducible rfl
                        rotate_left
                        · simp only [Act.put, List.setIfInBounds_toArray, List.set_cons_zero, List.set_cons_succ, i64_w, i32_w]
                          rfl
                        refine pure_ (i := 5) (N := some 84) (v := ?_) (a' := ?_) #[true, true, true, true, true, true, false, false, false, false, false, false, false, false, false, false] rfl rfl (any_of HT_.out (by kernel_rfl)) (fun _ _ _ h => h) (Or.inl ⟨by rfl, ?_⟩) ?_ ?_
                        rotate_left
                        · intro w'
                          go_simp
                          with_reducible rfl
                        rotate_left
                        · simp only [Act.put, List.setIfInBounds_toArray, List.set_cons_zero, List.set_cons_succ, i64_w, i32_w]
                          rfl
                        refine pure_ (i := 6) (N := some 85) (v := ?_) (a' := ?_) #[true, true, true, true, true, true, true, false, false, false, false, false, false, false, false, false] rfl rfl (any_of HT_.out (by kernel_rfl)) (fun _ _ _ h => h) (Or.inl ⟨by rfl, ?_⟩) ?_ ?_
                        rotate_left
                        · intro w'
                          go_simp
                          with_reducible rfl
                        rotate_left
                        · simp only [Act.put, List.setIfInBounds_toArray, List.set_cons_zero, List.set_cons_succ, i64_w, i32_w]
                          rfl
                        refine pure_ (i := 7) (N := some 86) (v := ?_) (a' := ?_) #[true, true, true, true, true, true, true, true, false, false, false, false, false, false, false, false] rfl rfl (any_of HT_.out (by kernel_rfl)) (fun _ _ _ h => h) (Or.inl ⟨by rfl, ?_⟩) ?_ ?_
                        rotate_left
                        · intro w'
                          go_simp
                          with_reducible rfl
                        rotate_left
                        · simp only [Act.put, List.setIfInBounds_toArray, List.set_cons_zero, List.set_cons_succ, i64_w, i32_w]
                          rfl
                        refine take_ (i := 8) (N := some 87) (v := ?_) (a' := ?_) #[true, true, true, true, true, true, true, true, true, false, false, false, false, false, false, false] rfl rfl (take_ofW HT_.out HW_.out (by kernel_rfl)) (fun _ _ _ h => h) (Or.inl ⟨by rfl, ?_⟩) hHeld ?_ ?_
                        rotate_left
                        · rintro w' ⟨s0, s1, s2⟩
                          go_simp
                          with_reducible rfl
                        rotate_left
                        · simp only [Act.put, List.setIfInBounds_toArray, List.set_cons_zero, List.set_cons_succ, i64_w, i32_w]
                          rfl
                        refine pure_ (i := 9) (N := some 88) (v := ?_) (a' := ?_) #[true, true, true, true, true, true, true, true, true, true, false, false, false, false, false, false] rfl rfl (any_of HT_.out (by kernel_rfl)) (fun _ _ _ h => h) (Or.inl ⟨by rfl, ?_⟩) ?_ ?_
                        rotate_left
                        · intro w'
                          go_simp
                          with_reducible rfl
                        rotate_left
                        · simp only [Act.put, List.setIfInBounds_toArray, List.set_cons_zero, List.set_cons_succ, i64_w, i32_w]
                          rfl
                        refine pure_ (i := 10) (N := some 89) (v := ?_) (a' := ?_) #[true, true, true, true, true, true, true, true, true, true, true, false, false, false, false, false] rfl rfl (any_of HT_.out (by kernel_rfl)) (fun _ _ _ h => h) (Or.inl ⟨by rfl, ?_⟩) ?_ ?_
                        rotate_left
                        · intro w'
                          go_simp
                          with_reducible rfl
                        rotate_left
                        · simp only [Act.put, List.setIfInBounds_toArray, List.set_cons_zero, List.set_cons_succ, i64_w, i32_w]
                          rfl
                        refine pure_ (i := 11) (N := some 90) (v := ?_) (a' := ?_) #[true, true, true, true, true, true, true, true, true, true, true, true, false, false, false, false] rfl rfl (any_of HT_.out (by kernel_rfl)) (fun _ _ _ h => h) (Or.inl ⟨by rfl, ?_⟩) ?_ ?_
                        rotate_left
                        · intro w'
                          go_simp
                          with_reducible rfl
                        rotate_left
                        · simp only [Act.put, List.setIfInBounds_toArray, List.set_cons_zero, List.set_cons_succ, i64_w, i32_w]
                          rfl
                        refine pure_ (i := 12) (N := some 91) (v := ?_) (a' := ?_) #[true, true, true, true, true, true, true, true, true, true, true, true, true, false, false, false] rfl rfl (any_of HT_.out (by kernel_rfl)) (fun _ _ _ h => h) (Or.inl ⟨by rfl, ?_⟩) ?_ ?_
                        rotate_left
                        · intro w'
                          go_simp
                          with_reducible rfl
                        rotate_left
                        · simp only [Act.put, List.setIfInBounds_toArray, List.set_cons_zero, List.set_cons_succ, i64_w, i32_w]
                          rfl
                        refine one_ (i := 13) (N := some 92) #[true, true, true, true, true, true, true, true, true, true, true, true, true, true, false, false] rfl rfl (one_of HT_.out (by kernel_rfl)) (by decide) (fun K hK => ?_)
                        refine call_ 26 #[.agg #[.int .i64 a0, .int .i64 a1, .int .i64 a2], .int .i64 (Go.bits .or .i64 (Go.bits .or .i64 v jt) jy), .map (some b)] (by rfl) rfl ?_ ?_
                        · first | (go_simp; done) | (go_simp; rfl)
                        refine (HIH.out _ ps n1 n2 _ (wf_bits _ _ _) (by first | exact HM1.out | exact HM1.out.below (below_drew1 (Below.refl _ _)) | exact HM1.out.below (pw_below_drewN (Below.refl _ _) _) | exact HM1.out.below (below_drew1 (pw_below_drewN (Below.refl _ _) _))) (by first | exact HT1.out | exact HT1.out.below (below_drew1 (Below.refl _ _)) | exact HT1.out.below (pw_below_drewN (Below.refl _ _) _) | exact HT1.out.below (below_drew1 (pw_below_drewN (Below.refl _ _) _))) HF2.out).mono ?_
                        rintro e wcB ⟨rfl, hd1, hd2, hd3⟩
                        have HMb := Aside0.mk hd1
                        have HGb := Aside0.mk (grown_trans HG1.out (grown_trans (by first | exact grown_of_below (Below.refl _ _) _ | exact grown_of_below (below_drew1 (Below.refl _ _)) _ | exact grown_of_below (pw_below_drewN (Below.refl _ _) _) _ | exact grown_of_below (below_drew1 (pw_below_drewN (Below.refl _ _) _)) _) hd2))
                        have HWb := Aside0.mk hd3
                        have HXb := Aside0.mk (blk_grown HGB.out (grown_trans (by first | exact grown_of_below (Below.refl _ _) _ | exact grown_of_below (below_drew1 (Below.refl _ _)) _ | exact grown_of_below (pw_below_drewN (Below.refl _ _) _) _ | exact grown_of_below (below_drew1 (pw_below_drewN (Below.refl _ _) _)) _) hd2) (by intro e1; injection e1 with e1; exact HNE.out e1))
                        have cxb : wcB.cell? ⟨w.heap.size, 1, none⟩ = some (.int .i64 a1) := blk_cell HXb.out 1
                        have cyb : wcB.cell? ⟨w.heap.size, 0, none⟩ = some (.int .i64 a0) := blk_cell HXb.out 0
                        have czb : wcB.cell? ⟨w.heap.size, 2, none⟩ = some (.int .i64 a2) := blk_cell HXb.out 2
                        have HTb := Aside0.mk (HT.out.grown HGb.out hb1)
                        clear hd1 hd2 hd3
                        refine ⟨_, rfl, ?_⟩
                        refine hK.out _ _ ⟨cyb, cxb, czb⟩ (fun hHeld => ?_)
                        clear hK K
                        refine norm_ (a' := ?_) ?_ ?_
                        rotate_left
                        · show Act.put _ (some 92) _ = _
                          simp only [Act.put, List.setIfInBounds_toArray, List.set_cons_zero, List.set_cons_succ, i64_w, i32_w]
                          rfl
                        refine pure_ (i := 14) (N := some 93) (v := ?_) (a' := ?_) #[true, true, true, true, true, true, true, true, true, true, true, true, true, true, true, false] rfl rfl (any_of HT_.out (by kernel_rfl)) (fun _ _ _ h => h) (Or.inl ⟨by rfl, ?_⟩) ?_ ?_
                        rotate_left
                        · intro w'
                          go_simp
                          with_reducible rfl
                        rotate_left
                        · simp only [Act.put, List.setIfInBounds_toArray, List.set_cons_zero, List.set_cons_succ, i64_w, i32_w]
                          rfl
                        refine pure_ (i := 15) (N := some 11) (v := ?_) (a' := ?_) #[true, true, true, true, true, true, true, true, true, true, true, true, true, true, true, true] rfl rfl (any_of HT_.out (by kernel_rfl)) (fun _ _ _ h => h) (Or.inl ⟨by rfl, ?_⟩) ?_ ?_
                        rotate_left
                        · intro w'
                          go_simp
                          with_reducible rfl
                        rotate_left
                        · simp only [Act.put, List.setIfInBounds_toArray, List.set_cons_zero, List.set_cons_succ, i64_w, i32_w]
                          rfl
                        refine done_ (done_of HT_.out (by kernel_rfl)) ?_

                        go_wp2_with (first | (at_mapUpdate; refine mapI_put (by first | exact HMb.out | exact HMb.out.below (below_drew1 (Below.refl _ _)) | exact HMb.out.below (pw_below_drewN (Below.refl _ _) _) | exact HMb.out.below (below_drew1 (pw_below_drewN (Below.refl _ _) _))) rfl _ _ _ 45 rfl Tryd.underlying3 Tryd.underlying45 Tryd.underlying3 rfl v rfl (Go.Maps.keyOf_int_mk Tryd.underlying3 HV.out) _ rfl HWFs2.out LM.out ?_; intro w9 hm9 hg9; have HM9 := Aside0.mk hm9; have HG9 := Aside0.mk (grown_trans HGb.out (grown_trans (by first | exact grown_of_below (Below.refl _ _) _ | exact grown_of_below (below_drew1 (Below.refl _ _)) _ | exact grown_of_below (pw_below_drewN (Below.refl _ _) _) _ | exact grown_of_below (below_drew1 (pw_below_drewN (Below.refl _ _) _)) _) hg9)); clear hm9 hg9))
                        go_ret
                        exact ⟨rfl, HM9.out, HG9.out, HWFs2.out⟩
                      · rw [if_neg (fun h_ => cD h_.2)] at hx
                        have cD' : (Go.bits .and .i64 sy 1 == 0) = false := beq_eq_false_iff_ne.mpr cD
                        clear cC cD
                        simp only [Option.some.injEq, Prod.mk.injEq] at hx
                        obtain ⟨rfl, rfl⟩ := hx
                        go_wp2_with (first | (at_mapUpdate; refine mapI_put (by first | exact HM1.out | exact HM1.out.below (below_drew1 (Below.refl _ _)) | exact HM1.out.below (pw_below_drewN (Below.refl _ _) _) | exact HM1.out.below (below_drew1 (pw_below_drewN (Below.refl _ _) _))) rfl _ _ _ 45 rfl Tryd.underlying3 Tryd.underlying45 Tryd.underlying3 rfl v rfl (Go.Maps.keyOf_int_mk Tryd.underlying3 HV.out) _ rfl (by decide) LM.out ?_; intro w9 hm9 hg9; have HM9 := Aside0.mk hm9; have HG9 := Aside0.mk (grown_trans HG1.out (grown_trans (by first | exact grown_of_below (Below.refl _ _) _ | exact grown_of_below (below_drew1 (Below.refl _ _)) _ | exact grown_of_below (pw_below_drewN (Below.refl _ _) _) _ | exact grown_of_below (below_drew1 (pw_below_drewN (Below.refl _ _) _)) _) hg9)); clear hm9 hg9))
                        go_ret
                        exact ⟨rfl, HM9.out, HG9.out, (by decide)⟩
                    · rw [if_neg (fun h_ => cC h_.1)] at hx
                      have cC' : decide (y2 < cells) = false := decide_eq_false cC
                      clear cC
                      simp only [Option.some.injEq, Prod.mk.injEq] at hx
                      obtain ⟨rfl, rfl⟩ := hx
                      go_wp2_with (first | (at_mapUpdate; refine mapI_put (by first | exact HM1.out | exact HM1.out.below (below_drew1 (Below.refl _ _)) | exact HM1.out.below (pw_below_drewN (Below.refl _ _) _) | exact HM1.out.below (below_drew1 (pw_below_drewN (Below.refl _ _) _))) rfl _ _ _ 45 rfl Tryd.underlying3 Tryd.underlying45 Tryd.underlying3 rfl v rfl (Go.Maps.keyOf_int_mk Tryd.underlying3 HV.out) _ rfl (by decide) LM.out ?_; intro w9 hm9 hg9; have HM9 := Aside0.mk hm9; have HG9 := Aside0.mk (grown_trans HG1.out (grown_trans (by first | exact grown_of_below (Below.refl _ _) _ | exact grown_of_below (below_drew1 (Below.refl _ _)) _ | exact grown_of_below (pw_below_drewN (Below.refl _ _) _) _ | exact grown_of_below (below_drew1 (pw_below_drewN (Below.refl _ _) _)) _) hg9)); clear hm9 hg9))
                      go_ret
                      exact ⟨rfl, HM9.out, HG9.out, (by decide)⟩
                · rw [if_neg (fun h_ => cA h_.1)] at hz
                  have cA' : decide (Int.tmod tz a1 < d) = false := decide_eq_false cA
                  clear cA
                  simp only [Option.some.injEq, Prod.mk.injEq] at hz
                  obtain ⟨rfl, rfl⟩ := hz
                  go_quiet (fail)
                  by_cases cC : y2 < cells
                  · have cC' : decide (y2 < cells) = true := decide_eq_true cC
                    by_cases cD : Go.bits .and .i64 sy 1 = 0
                    · rw [if_pos ⟨cC, cD⟩] at hx
                      have cD' : (Go.bits .and .i64 sy 1 == 0) = true := beq_iff_eq.mpr cD
                      clear cC cD
                      obtain ⟨⟨n1, n2⟩, hf2, hx⟩ := Option.bind_eq_some_iff.mp hx
                      simp only [Option.some.injEq, Prod.mk.injEq] at hx
                      obtain ⟨hx1, rfl⟩ := hx
                      have HF2 := Aside0.mk hf2
                      clear hf2
                      obtain ⟨s2, hs2⟩ : ∃ c_ : Int, c_ = wrap64 (0 + n1) := ⟨_, rfl⟩
                      have hs2w : wrap64 (0 + n1) = s2 := hs2.symm
                      have hs2v : IntKind.i64.wrap (0 + n1) = s2 := by rw [i64_w]; exact hs2.symm
                      have HWFs2 : Aside0 ((Lit.int .i64 s2).wf = true) := ⟨by rw [hs2]; exact wf_wrap _⟩
                      have hs2z : wrap64 n1 = s2 := by rw [hs2, Int.zero_add]
                      have hs2y : IntKind.i64.wrap n1 = s2 := by rw [i64_w]; exact hs2z
                      rw [← hs2] at hx1
                      subst hx1
                      clear hs2
                      go_wp2_with fail
                      have HMd := Aside0.mk HM1.out
                      refine start_ (n := 16) (S := fun w' => w'.cell? ⟨w.heap.size, 0, none⟩ = some (.int .i64 a0) ∧ w'.cell? ⟨w.heap.size, 1, none⟩ = some (.int .i64 a1) ∧ w'.cell? ⟨w.heap.size, 2, none⟩ = some (.int .i64 a2)) (ds := []) #[false, false, false, false, false, false, false, false, false, false, false, false, false, false, false, false] (by kernel_rfl) rfl rfl ⟨blk_cell HGB.out 0, blk_cell HGB.out 1, blk_cell HGB.out 2⟩ (fun hHeld => ?_); refine with_tabW impl_tilings.tab12 impl_tilings.bits12 (fun HT_ HW_ => ?_)
                      refine pure_ (i := 0) (N := some 79) (v := ?_) (a' := ?_) #[true, false, false, false, false, false, false, false, false, false, false, false, false, false, false, false] rfl rfl (any_of HT_.out (by kernel_rfl)) (fun _ _ _ h => h) (Or.inl ⟨by rfl, ?_⟩) ?_ ?_
                      rotate_left
                      · intro w'
                        go_simp
                        with_reducible rfl
                      rotate_left
                      · simp only [Act.put, List.setIfInBounds_toArray, List.set_cons_zero, List.set_cons_succ, i64_w, i32_w]
                        rfl
                      refine take_ (i := 1) (N := some 80) (v := ?_) (a' := ?_) #[true, true, false, false, false, false, false, false, false, false, false, false, false, false, false, false] rfl rfl (take_ofW HT_.out HW_.out (by kernel_rfl)) (fun _ _ _ h => h) (Or.inl ⟨by rfl, ?_⟩) hHeld ?_ ?_
                      rotate_left
                      · rintro w' ⟨s0, s1, s2⟩
                        go_simp
                        with_reducible rfl
                      rotate_left
                      · simp only [Act.put, List.setIfInBounds_toArray, List.set_cons_zero, List.set_cons_succ, i64_w, i32_w]
                        rfl
                      refine pure_ (i := 2) (N := some 81) (v := ?_) (a' := ?_) #[true, true, true, false, false, false, false, false, false, false, false, false, false, false, false, false] rfl rfl (any_of HT_.out (by kernel_rfl)) (fun _ _ _ h => h) (Or.inl ⟨by rfl, ?_⟩) ?_ ?_
                      rotate_left
                      · intro w'
                        go_simp
                        with_reducible rfl
                      rotate_left
                      · simp only [Act.put, List.setIfInBounds_toArray, List.set_cons_zero, List.set_cons_succ, i64_w, i32_w]
                        rfl
                      refine pure_ (i := 3) (N := some 82) (v := ?_) (a' := ?_) #[true, true, true, true, false, false, false, false, false, false, false, false, false, false, false, false] rfl rfl (any_of HT_.out (by kernel_rfl)) (fun _ _ _ h => h) (Or.inl ⟨by rfl, ?_⟩) ?_ ?_
                      rotate_left
                      · intro w'
                        go_simp
                        with_reducible rfl
                      rotate_left
                      · simp only [Act.put, List.setIfInBounds_toArray, List.set_cons_zero, List.set_cons_succ, i64_w, i32_w]
                        rfl
                      refine pure_ (i := 4) (N := some 83) (v := ?_) (a' := ?_) #[true, true, true, true, true, false, false, false, false, false, false, false, false, false, false, false] rfl rfl (any_of HT_.out (by kernel_rfl)) (fun _ _ _ h => h) (Or.inl ⟨by rfl, ?_⟩) ?_ ?_
                      rotate_left
                      · intro w'
                        go_simp
                        with_reducible rfl
                      rotate_left
                      · simp only [Act.put, List.setIfInBounds_toArray, List.set_cons_zero, List.set_cons_succ, i64_w, i32_w]
                        rfl
                      refine pure_ (i := 5) (N := some 84) (v := ?_) (a' := ?_) #[true, true, true, true, true, true, false, false, false, false, false, false, false, false, false, false] rfl rfl (any_of HT_.out (by kernel_rfl)) (fun _ _ _ h => h) (Or.inl ⟨by rfl, ?_⟩) ?_ ?_
                      rotate_left
                      · intro w'
                        go_simp
                        with_reducible rfl
                      rotate_left
                      · simp only [Act.put, List.setIfInBounds_toArray, List.set_cons_zero, List.set_cons_succ, i64_w, i32_w]
                        rfl
                      refine pure_ (i := 6) (N := some 85) (v := ?_) (a' := ?_) #[true, true, true, true, true, true, true, false, false, false, false, false, false, false, false, false] rfl rfl (any_of HT_.out (by kernel_rfl)) (fun _ _ _ h => h) (Or.inl ⟨by rfl, ?_⟩) ?_ ?_
                      rotate_left
                      · intro w'
                        go_simp
                        with_reducible rfl
                      rotate_left
                      · simp only [Act.put, List.setIfInBounds_toArray, List.set_cons_zero, List.set_cons_succ, i64_w, i32_w]
                        rfl
                      refine pure_ (i := 7) (N := some 86) (v := ?_) (a' := ?_) #[true, true, true, true, true, true, true, true, false, false, false, false, false, false, false, false] rfl rfl (any_of HT_.out (by kernel_rfl)) (fun _ _ _ h => h) (Or.inl ⟨by rfl, ?_⟩) ?_ ?_
                      rotate_left
                      · intro w'
                        go_simp
                        with_reducible rfl
                      rotate_left
                      · simp only [Act.put, List.setIfInBounds_toArray, List.set_cons_zero, List.set_cons_succ, i64_w, i32_w]
                        rfl
                      refine take_ (i := 8) (N := some 87) (v := ?_) (a' := ?_) #[true, true, true, true, true, true, true, true, true, false, false, false, false, false, false, false] rfl rfl (take_ofW HT_.out HW_.out (by kernel_rfl)) (fun _ _ _ h => h) (Or.inl ⟨by rfl, ?_⟩) hHeld ?_ ?_
                      rotate_left
                      · rintro w' ⟨s0, s1, s2⟩
                        go_simp
                        with_reducible rfl
                      rotate_left
                      · simp only [Act.put, List.setIfInBounds_toArray, List.set_cons_zero, List.set_cons_succ, i64_w, i32_w]
                        rfl
                      refine pure_ (i := 9) (N := some 88) (v := ?_) (a' := ?_) #[true, true, true, true, true, true, true, true, true, true, false, false, false, false, false, false] rfl rfl (any_of HT_.out (by kernel_rfl)) (fun _ _ _ h => h) (Or.inl ⟨by rfl, ?_⟩) ?_ ?_
                      rotate_left
                      · intro w'
                        go_simp
                        with_reducible rfl
                      rotate_left
                      · simp only [Act.put, List.setIfInBounds_toArray, List.set_cons_zero, List.set_cons_succ, i64_w, i32_w]
                        rfl
                      refine pure_ (i := 10) (N := some 89) (v := ?_) (a' := ?_) #[true, true, true, true, true, true, true, true, true, true, true, false, false, false, false, false] rfl rfl (any_of HT_.out (by kernel_rfl)) (fun _ _ _ h => h) (Or.inl ⟨by rfl, ?_⟩) ?_ ?_
                      rotate_left
                      · intro w'
                        go_simp
                        with_reducible rfl
                      rotate_left
                      · simp only [Act.put, List.setIfInBounds_toArray, List.set_cons_zero, List.set_cons_succ, i64_w, i32_w]
                        rfl
                      refine pure_ (i := 11) (N := some 90) (v := ?_) (a' := ?_) #[true, true, true, true, true, true, true, true, true, true, true, true, false, false, false, false] rfl rfl (any_of HT_.out (by kernel_rfl)) (fun _ _ _ h => h) (Or.inl ⟨by rfl, ?_⟩) ?_ ?_
                      rotate_left
                      · intro w'
                        go_simp
                        with_reducible rfl
                      rotate_left
                      · simp only [Act.put, List.setIfInBounds_toArray, List.set_cons_zero, List.set_cons_succ, i64_w, i32_w]
                        rfl
                      refine pure_ (i := 12) (N := some 91) (v := ?_) (a' := ?_) #[true, true, true, true, true, true, true, true, true, true, true, true, true, false, false, false] rfl rfl (any_of HT_.out (by kernel_rfl)) (fun _ _ _ h => h) (Or.inl ⟨by rfl, ?_⟩) ?_ ?_
                      rotate_left
                      · intro w'
                        go_simp
                        with_reducible rfl
                      rotate_left
                      · simp only [Act.put, List.setIfInBounds_toArray, List.set_cons_zero, List.set_cons_succ, i64_w, i32_w]
                        rfl
                      refine one_ (i := 13) (N := some 92) #[true, true, true, true, true, true, true, true, true, true, true, true, true, true, false, false] rfl rfl (one_of HT_.out (by kernel_rfl)) (by decide) (fun K hK => ?_)
                      refine call_ 26 #[.agg #[.int .i64 a0, .int .i64 a1, .int .i64 a2], .int .i64 (Go.bits .or .i64 (Go.bits .or .i64 v jt) jy), .map (some b)] (by rfl) rfl ?_ ?_
                      · first | (go_simp; done) | (go_simp; rfl)
                      refine (HIH.out _ ps n1 n2 _ (wf_bits _ _ _) (by first | exact HM1.out | exact HM1.out.below (below_drew1 (Below.refl _ _)) | exact HM1.out.below (pw_below_drewN (Below.refl _ _) _) | exact HM1.out.below (below_drew1 (pw_below_drewN (Below.refl _ _) _))) (by first | exact HT1.out | exact HT1.out.below (below_drew1 (Below.refl _ _)) | exact HT1.out.below (pw_below_drewN (Below.refl _ _) _) | exact HT1.out.below (below_drew1 (pw_below_drewN (Below.refl _ _) _))) HF2.out).mono ?_
                      rintro e wcB ⟨rfl, hd1, hd2, hd3⟩
                      have HMb := Aside0.mk hd1
                      have HGb := Aside0.mk (grown_trans HG1.out (grown_trans (by first | exact grown_of_below (Below.refl _ _) _ | exact grown_of_below (below_drew1 (Below.refl _ _)) _ | exact grown_of_below (pw_below_drewN (Below.refl _ _) _) _ | exact grown_of_below (below_drew1 (pw_below_drewN (Below.refl _ _) _)) _) hd2))
                      have HWb := Aside0.mk hd3
                      have HXb := Aside0.mk (blk_grown HGB.out (grown_trans (by first | exact grown_of_below (Below.refl _ _) _ | exact grown_of_below (below_drew1 (Below.refl _ _)) _ | exact grown_of_below (pw_below_drewN (Below.refl _ _) _) _ | exact grown_of_below (below_drew1 (pw_below_drewN (Below.refl _ _) _)) _) hd2) (by intro e1; injection e1 with e1; exact HNE.out e1))
                      have cxb : wcB.cell? ⟨w.heap.size, 1, none⟩ = some (.int .i64 a1) := blk_cell HXb.out 1
                      have cyb : wcB.cell? ⟨w.heap.size, 0, none⟩ = some (.int .i64 a0) := blk_cell HXb.out 0
                      have czb : wcB.cell? ⟨w.heap.size, 2, none⟩ = some (.int .i64 a2) := blk_cell HXb.out 2
                      have HTb := Aside0.mk (HT.out.grown HGb.out hb1)
                      clear hd1 hd2 hd3
                      refine ⟨_, rfl, ?_⟩
                      refine hK.out _ _ ⟨cyb, cxb, czb⟩ (fun hHeld => ?_)
                      clear hK K
                      refine norm_ (a' := ?_) ?_ ?_
                      rotate_left
                      · show Act.put _ (some 92) _ = _
                        simp only [Act.put, List.setIfInBounds_toArray, List.set_cons_zero, List.set_cons_succ, i64_w, i32_w]
                        rfl
                      refine pure_ (i := 14) (N := some 93) (v := ?_) (a' := ?_) #[true, true, true, true, true, true, true, true, true, true, true, true, true, true, true, false] rfl rfl (any_of HT_.out (by kernel_rfl)) (fun _ _ _ h => h) (Or.inl ⟨by rfl, ?_⟩) ?_ ?_
                      rotate_left
                      · intro w'
                        go_simp
                        with_reducible rfl
                      rotate_left
                      · simp only [Act.put, List.setIfInBounds_toArray, List.set_cons_zero, List.set_cons_succ, i64_w, i32_w]
                        rfl
                      refine pure_ (i := 15) (N := some 11) (v := ?_) (a' := ?_) #[true, true, true, true, true, true, true, true, true, true, true, true, true, true, true, true] rfl rfl (any_of HT_.out (by kernel_rfl)) (fun _ _ _ h => h) (Or.inl ⟨by rfl, ?_⟩) ?_ ?_
                      rotate_left
                      · intro w'
                        go_simp
                        with_reducible rfl
                      rotate_left
                      · simp only [Act.put, List.setIfInBounds_toArray, List.set_cons_zero, List.set_cons_succ, i64_w, i32_w]
                        rfl
                      refine done_ (done_of HT_.out (by kernel_rfl)) ?_

                      go_wp2_with (first | (at_mapUpdate; refine mapI_put (by first | exact HMb.out | exact HMb.out.below (below_drew1 (Below.refl _ _)) | exact HMb.out.below (pw_below_drewN (Below.refl _ _) _) | exact HMb.out.below (below_drew1 (pw_below_drewN (Below.refl _ _) _))) rfl _ _ _ 45 rfl Tryd.underlying3 Tryd.underlying45 Tryd.underlying3 rfl v rfl (Go.Maps.keyOf_int_mk Tryd.underlying3 HV.out) _ rfl HWFs2.out LM.out ?_; intro w9 hm9 hg9; have HM9 := Aside0.mk hm9; have HG9 := Aside0.mk (grown_trans HGb.out (grown_trans (by first | exact grown_of_below (Below.refl _ _) _ | exact grown_of_below (below_drew1 (Below.refl _ _)) _ | exact grown_of_below (pw_below_drewN (Below.refl _ _) _) _ | exact grown_of_below (below_drew1 (pw_below_drewN (Below.refl _ _) _)) _) hg9)); clear hm9 hg9))
                      go_ret
                      exact ⟨rfl, HM9.out, HG9.out, HWFs2.out⟩
                    · rw [if_neg (fun h_ => cD h_.2)] at hx
                      have cD' : (Go.bits .and .i64 sy 1 == 0) = false := beq_eq_false_iff_ne.mpr cD
                      clear cC cD
                      simp only [Option.some.injEq, Prod.mk.injEq] at hx
                      obtain ⟨rfl, rfl⟩ := hx
                      go_wp2_with (first | (at_mapUpdate; refine mapI_put (by first | exact HM1.out | exact HM1.out.below (below_drew1 (Below.refl _ _)) | exact HM1.out.below (pw_below_drewN (Below.refl _ _) _) | exact HM1.out.below (below_drew1 (pw_below_drewN (Below.refl _ _) _))) rfl _ _ _ 45 rfl Tryd.underlying3 Tryd.underlying45 Tryd.underlying3 rfl v rfl (Go.Maps.keyOf_int_mk Tryd.underlying3 HV.out) _ rfl (by decide) LM.out ?_; intro w9 hm9 hg9; have HM9 := Aside0.mk hm9; have HG9 := Aside0.mk (grown_trans HG1.out (grown_trans (by first | exact grown_of_below (Below.refl _ _) _ | exact grown_of_below (below_drew1 (Below.refl _ _)) _ | exact grown_of_below (pw_below_drewN (Below.refl _ _) _) _ | exact grown_of_below (below_drew1 (pw_below_drewN (Below.refl _ _) _)) _) hg9)); clear hm9 hg9))
                      go_ret
                      exact ⟨rfl, HM9.out, HG9.out, (by decide)⟩
                  · rw [if_neg (fun h_ => cC h_.1)] at hx
                    have cC' : decide (y2 < cells) = false := decide_eq_false cC
                    clear cC
                    simp only [Option.some.injEq, Prod.mk.injEq] at hx
                    obtain ⟨rfl, rfl⟩ := hx
                    go_wp2_with (first | (at_mapUpdate; refine mapI_put (by first | exact HM1.out | exact HM1.out.below (below_drew1 (Below.refl _ _)) | exact HM1.out.below (pw_below_drewN (Below.refl _ _) _) | exact HM1.out.below (below_drew1 (pw_below_drewN (Below.refl _ _) _))) rfl _ _ _ 45 rfl Tryd.underlying3 Tryd.underlying45 Tryd.underlying3 rfl v rfl (Go.Maps.keyOf_int_mk Tryd.underlying3 HV.out) _ rfl (by decide) LM.out ?_; intro w9 hm9 hg9; have HM9 := Aside0.mk hm9; have HG9 := Aside0.mk (grown_trans HG1.out (grown_trans (by first | exact grown_of_below (Below.refl _ _) _ | exact grown_of_below (below_drew1 (Below.refl _ _)) _ | exact grown_of_below (pw_below_drewN (Below.refl _ _) _) _ | exact grown_of_below (below_drew1 (pw_below_drewN (Below.refl _ _) _)) _) hg9)); clear hm9 hg9))
                    go_ret
                    exact ⟨rfl, HM9.out, HG9.out, (by decide)⟩
              · rw [if_neg cL] at h
                exact absurd h (by simp)
            · rw [if_neg c4] at h
              exact absurd h (by simp)
          · rw [if_neg c3] at h
            exact absurd h (by simp)
    · rw [if_neg c0] at h
      exact absurd h (by simp)

end Go.Proofs.YtbdkmkbkggnekaaDoor.PFnTilingCount
