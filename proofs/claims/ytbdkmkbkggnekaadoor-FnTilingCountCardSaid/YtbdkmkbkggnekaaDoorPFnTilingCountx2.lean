-- Made by a program of this session (a changed copy of the kit print): the kit print itself does not give this text
import Derived.Test.YtbdkmkbkggnekaaDoorPFnTilingCountx0
import Derived.BigQuiet
import Derived.Deep.QuietTactic
import Derived.Deep.RegionHeld3
import Derived.Test.YtbdkmkbkggnekaaDoorV3
namespace Go.Proofs.YtbdkmkbkggnekaaDoor.PFnTilingCount
open Go.RowKit Go.Proofs.YtbdkmkbkggnekaaDoorW.PrintWords Go.Proofs.YtbdkmkbkggnekaaDoorW.PrintLast Go.Proofs.YtbdkmkbkggnekaaDoorW.PrintMore
attribute [local go_sem] max2_int min2_int max_two min_two max_three min_three max_four min_four   -- for this text's walks alone
set_option linter.unusedVariables false
set_option linter.unusedSimpArgs false

/-! ### spec_l14Ways: function 24 -/
--@import Derived.Test.YtbdkmkbkggnekaaDoorV3
open Go.Proofs.YtbdkmkbkggnekaaDoor.My
--@import Derived.Deep.RegionHeld3
--@import Derived.Deep.QuietTactic
--@import Derived.BigQuiet
def spec_l14Ways.l0 : Nat → Int → Int → Int → Option Int
  | 0, _, _, _ => none
  | k + 1, n, v, i => if i < n then (if 0 ≤ i then (if Int.tmod (shr .i64 v i) 2 = 1 then (spec_l14Ways.l0 k n v (wrap64 (i + 1))) else (some i)) else none) else (some i)
def spec_l14Ways.l1 : Nat → List Int → List Int → Int → Int → Option (Option Int)
  | 0, _, _, _, _ => none
  | k + 1, ks, ns, v, i => if i < (ks.length : Int) then (if 0 ≤ i then (if rd ks i = v then (if i < (ns.length : Int) then (some (some (rd ns i))) else none) else (spec_l14Ways.l1 k ks ns v (wrap64 (i + 1)))) else none) else (some none)
def spec_l14Ways.f : Nat → Int → Int → Int → Int → List Int → List Int → Option (Int × List Int × List Int)
  | 0, _, _, _, _, _, _ => none
  | k + 1, a0, a1, a2, v, ks, ns => (spec_l14Ways.l0 k (wrap64 (a0 * a1)) v 0).bind fun t => (if t = wrap64 (a0 * a1) then (some (1, ks, ns)) else ((spec_l14Ways.l1 k ks ns v 0).bind fun o => (match o with
    | some n => some (n, ks, ns)
    | none => (if a1 = 0 then none else (if 0 ≤ t then (if 0 ≤ wrap64 (t + 1) then (if 0 ≤ wrap64 (t + a1) then
      ((if Int.tmod t a1 < wrap64 (a1 - 1) ∧ Int.tmod (shr .i64 v (wrap64 (t + 1))) 2 = 0 then ((spec_l14Ways.f k a0 a1 a2 (Go.bits .or .i64 (Go.bits .or .i64 v (shl .i64 1 t)) (shl .i64 1 (wrap64 (t + 1)))) ks ns).bind fun z => some (wrap64 (0 + z.1), z.2)) else (some (0, ks, ns))).bind fun z =>
      ((if wrap64 (t + a1) < wrap64 (a0 * a1) ∧ Int.tmod (shr .i64 v (wrap64 (t + a1))) 2 = 0 then ((spec_l14Ways.f k a0 a1 a2 (Go.bits .or .i64 (Go.bits .or .i64 v (shl .i64 1 t)) (shl .i64 1 (wrap64 (t + a1)))) z.2.1 z.2.2).bind fun y => some (wrap64 (z.1 + y.1), y.2)) else (some z)).bind fun x =>
      (if x.2.1.length < 4398046511104 then (if x.2.2.length < 4398046511104 then (some (x.1, x.2.1 ++ [v], x.2.2 ++ [x.1])) else none) else none))) else none) else none) else none)))))
theorem spec_l14Ways.mono_l : ∀ k, (∀ y0 y1 y2, LeO (spec_l14Ways.l0 k y0 y1 y2) (spec_l14Ways.l0 (k + 1) y0 y1 y2)) ∧ (∀ y0 y1 y2 y3, LeO (spec_l14Ways.l1 k y0 y1 y2 y3) (spec_l14Ways.l1 (k + 1) y0 y1 y2 y3)) ∧ (∀ y0 y1 y2 y3 y4 y5, LeO (spec_l14Ways.f k y0 y1 y2 y3 y4 y5) (spec_l14Ways.f (k + 1) y0 y1 y2 y3 y4 y5))
  | 0 => ⟨fun _ _ _ r h => by simp [spec_l14Ways.l0] at h, fun _ _ _ _ r h => by simp [spec_l14Ways.l1] at h, fun _ _ _ _ _ _ r h => by simp [spec_l14Ways.f] at h⟩
  | k + 1 => by
    obtain ⟨i0, i1, i2⟩ := spec_l14Ways.mono_l k
    refine ⟨?_, ?_, ?_⟩
    · intro y0 y1 y2
      rw [spec_l14Ways.l0, spec_l14Ways.l0]
      repeat' first
        | (with_reducible exact i0 _ _ _)
        | (with_reducible exact LeO.refl _)
        | (with_reducible refine LeO.ite ?_ ?_)
    · intro y0 y1 y2 y3
      rw [spec_l14Ways.l1, spec_l14Ways.l1]
      repeat' first
        | (with_reducible exact i1 _ _ _ _)
        | (with_reducible exact LeO.refl _)
        | (with_reducible refine LeO.ite ?_ ?_)
    · intro y0 y1 y2 y3 y4 y5
      rw [spec_l14Ways.f, spec_l14Ways.f]
      refine LeO.bind (i0 _ _ _) fun t => LeO.ite (LeO.refl _) (LeO.bind (i1 _ _ _ _) fun o => ?_)
      cases o <;> dsimp only <;> repeat' first
        | (with_reducible exact i2 _ _ _ _ _ _)
        | (with_reducible exact LeO.refl _)
        | (with_reducible exact LeO.none _)
        | (with_reducible refine LeO.ite ?_ ?_)
        | (with_reducible refine LeO.bind ?_ (fun _ => ?_))
theorem spec_l14Ways.mono : ∀ a0 a1 a2 a3 a4 a5 k, LeO (spec_l14Ways.f k a0 a1 a2 a3 a4 a5) (spec_l14Ways.f (k + 1) a0 a1 a2 a3 a4 a5) := fun _ _ _ _ _ _ k => (spec_l14Ways.mono_l k).2.2 _ _ _ _ _ _
theorem wf_wrapW (z : Int) : (Lit.int .i64 (wrap64 z)).wf = true := by
  have h : (decide (IntKind.i64.min ≤ wrap64 z) && decide (wrap64 z ≤ IntKind.i64.max)) = true := by
    simp [IntKind.min, IntKind.max, IntKind.bits, IntKind.signed]
    unfold wrap64
    omega
  exact h
/-- Two variables of ints whose rows are apart. -/
def Two (bk bw base : Nat) (w : World) (ks ns : List Int) : Prop := ∃ vk vw, w.heap[bk]? = some (Obj.cells #[vk] 28 (0, 0)) ∧ w.heap[bw]? = some (Obj.cells #[vw] 28 (0, 0)) ∧
  Kd.R (Kd.int .i64) 3 w base (fun q => some q ≠ vw.ownBlock) vk ks ∧ Kd.R (Kd.int .i64) 3 w base (fun q => some q ≠ vk.ownBlock) vw ns
theorem Two.below {bk bw base : Nat} {w w' : World} {ks ns : List Int} (h : Two bk bw base w ks ns) (hb : Below w.heap.size w w') : Two bk bw base w' ks ns := by
  obtain ⟨vk, vw, h1, h2, h3, h4⟩ := h
  exact ⟨vk, vw, (hb.block bk (lt_of_some h1)).trans h1, (hb.block bw (lt_of_some h2)).trans h2, Kd.R_below h3 hb, Kd.R_below h4 hb⟩
theorem two_other {w w1 : World} {base : Nat} {vk vw v7 : Value} {ns : List Int} (h : Kd.R (Kd.int .i64) 3 w base (fun q => some q ≠ vk.ownBlock) vw ns) (hgr : w.grownBy w1 vk.ownBlock) (hat : v7.ownBlock = vk.ownBlock ∨ ∃ b, v7.ownBlock = some b ∧ w.heap.size ≤ b) : Kd.R (Kd.int .i64) 3 w1 base (fun q => some q ≠ v7.ownBlock) vw ns := by
  refine Kd.R_mono (Kd.R_grown (Kd.R_bound h) hgr (fun q hq => hq.1)) (fun q hq e => ?_)
  rcases hat with h1 | ⟨b, h1, h2⟩
  · rw [h1] at e; exact hq.1 e
  · rw [h1] at e; injection e with e; have := hq.2.2.1; omega
/-- What a call of l14Ways leaves. -/
def WaysPost (W0 : World) (bk bw : Nat) (w : World) (n : Int) (ks ns : List Int) (e : Ending) (w' : World) : Prop :=
  e = .returned (.int .i64 n) ∧ Below W0.heap.size W0 w' ∧ Two bk bw W0.heap.size w' ks ns ∧ Keep [25] w w'
def spec_l14Ways.T14 : Bool × List (List Nat × List Nat) := (true, [([], []), ([], []), ([], []), ([], []), ([3], [3]), ([2, 4], [2, 4]), ([], []), ([6], [6]), ([7], [7]), ([5, 8], [5, 8]), ([], []), ([], []), ([1, 9, 10, 11], [1, 9, 10, 11]), ([0, 12], [0, 12]), ([13, 12, 0, 1, 2, 3, 4, 5, 6, 7, 8, 9, 10, 11, 12, 13], [0, 13])])
def spec_l14Ways.B14 : List Nat := [0, 0, 0, 0, 8, 28, 0, 64, 192, 508, 0, 0, 4094, 8191, 16383]
theorem spec_l14Ways.tab14 : rtab .any (opsOf Tryd.f24 14) = spec_l14Ways.T14 := by kernel_rfl
theorem spec_l14Ways.bits14 : waitsOk spec_l14Ways.T14.2 spec_l14Ways.B14 = true := by kernel_rfl
def spec_l14Ways.T16 : Bool × List (List Nat × List Nat) := (true, [([], []), ([], []), ([], []), ([], []), ([3], [3]), ([2, 4], [2, 4]), ([], []), ([], []), ([7], [7]), ([6, 8], [6, 8]), ([9], [9]), ([5, 10], [5, 10]), ([], []), ([], []), ([1, 11, 12, 13], [1, 11, 12, 13]), ([0, 14], [0, 14]), ([15, 14, 0, 1, 2, 3, 4, 5, 6, 7, 8, 9, 10, 11, 12, 13, 14, 15], [0, 15])])
def spec_l14Ways.B16 : List Nat := [0, 0, 0, 0, 8, 28, 0, 0, 128, 448, 960, 2044, 0, 0, 16382, 32767, 65535]
theorem spec_l14Ways.tab16 : rtab .any (opsOf Tryd.f24 16) = spec_l14Ways.T16 := by kernel_rfl
theorem spec_l14Ways.bits16 : waitsOk spec_l14Ways.T16.2 spec_l14Ways.B16 = true := by kernel_rfl
set_option maxHeartbeats 4000000 in
set_option maxRecDepth 100000 in
theorem spec_l14Ways.calls (W0 : World) (bk bw : Nat) (hk0 : W0.heap.size ≤ bk) (hw0 : W0.heap.size ≤ bw) (hne : bk ≠ bw) (a0 a1 a2 : Int) (k : Nat) : ∀ (v : Int) (ks ns : List Int) (n : Int) (ks' ns' : List Int) (w : World) (hb : Below W0.heap.size W0 w) (hv : Two bk bw W0.heap.size w ks ns) (h : spec_l14Ways.f k a0 a1 a2 v ks ns = some (n, ks', ns')),
    Calls Tryd.prog 24 #[.agg #[.int .i64 a0, .int .i64 a1, .int .i64 a2], .int .i64 v, .pointer (some ⟨bk, 0, none⟩), .pointer (some ⟨bw, 0, none⟩)] w (WaysPost W0 bk bw w n ks' ns') := by
  induction k with
  | zero => intro v ks ns n ks' ns' w hb hv h; exact absurd h (by simp [spec_l14Ways.f])
  | succ k ih =>
    intro v ks ns n ks' ns' w hb hv h
    rw [spec_l14Ways.f] at h
    have hu25 := Tryd.underlying25
    have HIH := Aside0.mk ih
    have HB := Aside0.mk hb
    have HV := Aside0.mk hv
    have HK0 := Aside0.mk hk0
    have HW0 := Aside0.mk hw0
    have HNE := Aside0.mk hne
    clear ih hb hv hk0 hw0 hne
    obtain ⟨W1, hW1⟩ : ∃ W1 : World, W1 = w.alloc (Obj.cells #[.int .i64 a0, .int .i64 a1, .int .i64 a2] 25) := ⟨_, rfl⟩
    have HW1 := Aside0.mk hW1
    have HBW : Aside0 (Below w.heap.size w W1) := ⟨by rw [hW1]; exact (Below.refl _ _).alloc (Nat.le_refl _) _⟩
    have HGB : Aside0 (W1.heap[w.heap.size]? = some (Obj.cells #[.int .i64 a0, .int .i64 a1, .int .i64 a2] 25 (0, 0))) := ⟨by rw [hW1]; exact blk_new _ _⟩
    have cb0 : (w.alloc (Obj.cells #[.int .i64 a0, .int .i64 a1, .int .i64 a2] 25)).cell? ⟨w.heap.size, 0, none⟩ = some (.int .i64 a0) := blk_cell (blk_new _ _) 0
    have cb1 : (w.alloc (Obj.cells #[.int .i64 a0, .int .i64 a1, .int .i64 a2] 25)).cell? ⟨w.heap.size, 1, none⟩ = some (.int .i64 a1) := blk_cell (blk_new _ _) 1
    clear hW1
    obtain ⟨cells, hcells⟩ : ∃ c_ : Int, c_ = wrap64 (a0 * a1) := ⟨_, rfl⟩
    rw [← hcells] at h
    have hcw : wrap64 (a0 * a1) = cells := hcells.symm
    have hcw2 : IntKind.i64.wrap (a0 * a1) = cells := by rw [i64_w]; exact hcells.symm
    clear hcells
    obtain ⟨t, ht, h⟩ := Option.bind_eq_some_iff.mp h
    have HT := Aside0.mk ht
    have HH := Aside0.mk h
    clear ht h
    go_enter Tryd.func24, Tryd.ntmps24
    go_wp2_with fail
    go_loopg [10] k (fun kq v10 w' => ∃ (i : Int), v10 = .int .i64 i ∧ Aside0 (spec_l14Ways.l0 kq cells v i = some t) ∧ Aside0 (kq ≤ k) ∧ Aside0 (Below W1.heap.size W1 w'))
    case atStart => exact ⟨0, rfl, HT, ⟨Nat.le_refl _⟩, ⟨by rw [HW1.out]; exact Below.refl _ _⟩⟩
    case round =>
      clear HT cb0 cb1
      obtain ⟨i, rfl, HA, HK, HW⟩ := hrel
      cases gk with
      | zero => exact absurd HA.out (by simp [spec_l14Ways.l0])
      | succ k1 =>
        have H := HA.out
        clear HA
        rw [spec_l14Ways.l0] at H
        by_cases c5 : i < cells
        · rw [if_pos c5] at H
          have c5b : decide (i < cells) = true := decide_eq_true c5
          by_cases c6 : 0 ≤ i
          · rw [if_pos c6] at H
            have c6b : decide (0 ≤ i) = true := decide_eq_true c6
            replace c6 := eq_true c6
            obtain ⟨s, hs⟩ : ∃ j_ : Int, (shr .i64 v i) = j_ := ⟨_, rfl⟩
            rw [hs] at H
            have hsa : (v / 2 ^ min i.toNat 64) = s := hs
            clear hs
            by_cases c7 : Int.tmod s 2 = 1
            · rw [if_pos c7] at H
              have c7b : (Int.tmod s 2 == 1) = true := beq_iff_eq.mpr c7
              clear c7
              have H' := Aside0.mk H
              clear H
              go_wp2_with fail
              go_roundg k1
              case measure => have := HK.out; omega
              case rel => exact ⟨wrap64 (i + 1), rfl, H', ⟨by have := HK.out; omega⟩, HW⟩
            · rw [if_neg c7] at H
              have c7b : (Int.tmod s 2 == 1) = false := beq_eq_false_iff_ne.mpr c7
              clear c7
              have et : i = t := Option.some.inj H
              subst et
              clear H
              have H := HH.out
              by_cases c8 : i = cells
              · rw [if_pos c8] at H
                have c8b : (i == cells) = true := beq_iff_eq.mpr c8
                clear c8
                simp only [Option.some.injEq, Prod.mk.injEq] at H
                obtain ⟨rfl, rfl, rfl⟩ := H
                go_wp2_with fail
                all_goals go_ret
                all_goals exact ⟨rfl, below_step (below_step HB.out HBW.out) HW.out, (HV.out.below HBW.out).below HW.out, ((Keep.refl _ _).of_below HBW.out).of_below HW.out⟩
              · rw [if_neg c8] at H
                have c8b : (i == cells) = false := beq_eq_false_iff_ne.mpr c8
                clear c8
                obtain ⟨o, ho, H⟩ := Option.bind_eq_some_iff.mp H
                have HO := Aside0.mk ho
                have HH2 := Aside0.mk H
                clear ho H
                have HBr := Aside0.mk (below_step (below_step HB.out HBW.out) HW.out)
                have HVr := Aside0.mk ((HV.out.below HBW.out).below HW.out)
                have HGr := Aside0.mk ((HW.out.block _ (lt_of_some HGB.out)).trans HGB.out)
                obtain ⟨vk, vw, hgk, hgw, hrk, hrw⟩ := HVr.out
                obtain ⟨Ak, ck, ek⟩ := Kd.R_slice hrk
                subst ek
                obtain ⟨Aw, cw, ew⟩ := Kd.R_slice hrw
                subst ew
                have HGK := Aside0.mk hgk
                have HGW := Aside0.mk hgw
                have HRK := Aside0.mk hrk
                have HRW := Aside0.mk hrw
                have ck0 : wr.cell? ⟨bk, 0, none⟩ = some (.slice Ak ks.length ck) := blk_cell hgk 0
                clear hgk hgw hrk hrw
                have HZ0 := Aside0.mk (Below.refl wr.heap.size wr)
                go_wp2_with fail
                go_loopg [11] k (fun kq v11 w' => ∃ (j : Int), v11 = .int .i64 j ∧ Aside0 (spec_l14Ways.l1 kq ks ns v j = some o) ∧ Aside0 (kq ≤ k) ∧ Aside0 (Below wr.heap.size wr w'))
                case atStart => exact ⟨0, rfl, HO, ⟨Nat.le_refl _⟩, HZ0⟩
                case round =>
                  clear HO HZ0 ck0
                  obtain ⟨j, rfl, HA, HK2, HZ⟩ := hrel
                  have ck0 : wr.cell? ⟨bk, 0, none⟩ = some (.slice Ak ks.length ck) := blk_cell ((HZ.out.block _ (lt_of_some HGK.out)).trans HGK.out) 0
                  have cw0 : wr.cell? ⟨bw, 0, none⟩ = some (.slice Aw ns.length cw) := blk_cell ((HZ.out.block _ (lt_of_some HGW.out)).trans HGW.out) 0
                  cases gk with
                  | zero => exact absurd HA.out (by simp [spec_l14Ways.l1])
                  | succ k2 =>
                    have H := HA.out
                    clear HA
                    rw [spec_l14Ways.l1] at H
                    by_cases d1 : j < (ks.length : Int)
                    · rw [if_pos d1] at H
                      have d1b : decide (j < (ks.length : Int)) = true := decide_eq_true d1
                      by_cases d2 : 0 ≤ j
                      · rw [if_pos d2] at H
                        have d2b : decide (0 ≤ j) = true := decide_eq_true d2
                        obtain ⟨adk, eadk, hxk⟩ := Kd.at_int (Kd.C_below (Kd.R_reads' HRK.out).2.2 HZ.out) j d2 d1
                        subst eadk
                        by_cases d3 : rd ks j = v
                        · rw [if_pos d3] at H
                          have d3b : (rd ks j == v) = true := beq_iff_eq.mpr d3
                          by_cases d4 : j < (ns.length : Int)
                          · rw [if_pos d4] at H
                            have d4b : decide (j < (ns.length : Int)) = true := decide_eq_true d4
                            obtain ⟨adw, eadw, hxw⟩ := Kd.at_int (Kd.C_below (Kd.R_reads' HRW.out).2.2 HZ.out) j d2 d4
                            subst eadw
                            have eo : some (rd ns j) = o := Option.some.inj H
                            subst eo
                            clear H d3
                            have H := HH2.out
                            simp only [Option.some.injEq, Prod.mk.injEq] at H
                            obtain ⟨rfl, rfl, rfl⟩ := H
                            replace d1 := eq_true d1
                            replace d2 := eq_true d2
                            replace d4 := eq_true d4
                            go_wp2_with fail
                            go_ret
                            exact ⟨rfl, below_step HBr.out HZ.out, HVr.out.below HZ.out, (((Keep.refl _ _).of_below HBW.out).of_below HW.out).of_below HZ.out⟩
                          · rw [if_neg d4] at H
                            exact absurd H (by simp)
                        · rw [if_neg d3] at H
                          have d3b : (rd ks j == v) = false := beq_eq_false_iff_ne.mpr d3
                          clear d3
                          have H' := Aside0.mk H
                          clear H
                          replace d1 := eq_true d1
                          replace d2 := eq_true d2
                          go_wp2_with fail
                          go_roundg k2
                          case measure => have := HK2.out; omega
                          case rel => exact ⟨wrap64 (j + 1), rfl, H', ⟨by have := HK2.out; omega⟩, HZ⟩
                      · rw [if_neg d2] at H
                        exact absurd H (by simp)
                    · rw [if_neg d1] at H
                      have d1b : decide (j < (ks.length : Int)) = false := decide_eq_false d1
                      clear d1
                      have eo : none = o := Option.some.inj H
                      subst eo
                      clear H
                      have h := HH2.out
                      clear HH2
                      simp only [] at h
                      have HBz := Aside0.mk (below_step HBr.out HZ.out)
                      have HVz := Aside0.mk (HVr.out.below HZ.out)
                      have HGz := Aside0.mk ((HZ.out.block _ (lt_of_some HGr.out)).trans HGr.out)
                      have HKz := Aside0.mk (((Keep.refl [25] w).of_below HBW.out).of_below (below_step HW.out HZ.out))
                      have hi3 : (Tryd.prog.info? 3).map (fun i => (i.zero, i.size, i.bytes)) = some (some (.int .i64 0), 1, 8) := by kernel_rfl
                      have HKp1 := Aside0.mk (((Keep.refl [25] W1).of_below HW.out).of_below HZ.out)
                      have cx1 : wr.cell? ⟨w.heap.size, 1, none⟩ = some (.int .i64 a1) := blk_cell HGz.out 1
                      have cx0 : wr.cell? ⟨w.heap.size, 0, none⟩ = some (.int .i64 a0) := blk_cell HGz.out 0
                      have cx2 : wr.cell? ⟨w.heap.size, 2, none⟩ = some (.int .i64 a2) := blk_cell HGz.out 2
                      by_cases e2 : a1 = 0
                      · rw [if_pos e2] at h; exact absurd h (by simp)
                      rw [if_neg e2] at h
                      have e2b : (a1 == 0) = false := beq_eq_false_iff_ne.mpr e2
                      have e2c : (a1 = 0) = False := eq_false e2
                      clear e2
                      obtain ⟨u, hu⟩ : ∃ c_ : Int, c_ = wrap64 (i + 1) := ⟨_, rfl⟩
                      rw [← hu] at h
                      have huw : wrap64 (i + 1) = u := hu.symm
                      have huv : IntKind.i64.wrap (i + 1) = u := by rw [i64_w]; exact hu.symm
                      clear hu
                      obtain ⟨y2, hy2⟩ : ∃ c_ : Int, c_ = wrap64 (i + a1) := ⟨_, rfl⟩
                      rw [← hy2] at h
                      have hy2w : wrap64 (i + a1) = y2 := hy2.symm
                      have hy2v : IntKind.i64.wrap (i + a1) = y2 := by rw [i64_w]; exact hy2.symm
                      clear hy2
                      obtain ⟨d, hd⟩ : ∃ c_ : Int, c_ = wrap64 (a1 - 1) := ⟨_, rfl⟩
                      rw [← hd] at h
                      have hdw : wrap64 (a1 - 1) = d := hd.symm
                      have hdv : IntKind.i64.wrap (a1 - 1) = d := by rw [i64_w]; exact hd.symm
                      clear hd
                      by_cases e3 : 0 ≤ i
                      rotate_left
                      · rw [if_neg e3] at h; exact absurd h (by simp)
                      rw [if_pos e3] at h
                      by_cases e4 : 0 ≤ u
                      rotate_left
                      · rw [if_neg e4] at h; exact absurd h (by simp)
                      rw [if_pos e4] at h
                      by_cases e5 : 0 ≤ y2
                      rotate_left
                      · rw [if_neg e5] at h; exact absurd h (by simp)
                      rw [if_pos e5] at h
                      have e3b : decide (0 ≤ i) = true := decide_eq_true e3
                      have e4b : decide (0 ≤ u) = true := decide_eq_true e4
                      have e5b : decide (0 ≤ y2) = true := decide_eq_true e5
                      replace e3 := eq_true e3
                      replace e4 := eq_true e4
                      replace e5 := eq_true e5
                      obtain ⟨jt, hjt⟩ : ∃ j_ : Int, (shl .i64 1 i) = j_ := ⟨_, rfl⟩
                      rw [hjt] at h
                      have hjta : (IntKind.i64.wrap (1 * 2 ^ min i.toNat 64)) = jt := hjt
                      have hjtb : (IntKind.i64.wrap (2 ^ min i.toNat 64)) = jt := by have h_ := hjta; rw [Int.one_mul] at h_; exact h_
                      have hjtc : (wrap64 (1 * 2 ^ min i.toNat 64)) = jt := (i64_w _).symm.trans hjta
                      have hjtd : (wrap64 (2 ^ min i.toNat 64)) = jt := (i64_w _).symm.trans hjtb
                      clear hjt
                      obtain ⟨ju, hju⟩ : ∃ j_ : Int, (shl .i64 1 u) = j_ := ⟨_, rfl⟩
                      rw [hju] at h
                      have hjua : (IntKind.i64.wrap (1 * 2 ^ min u.toNat 64)) = ju := hju
                      have hjub : (IntKind.i64.wrap (2 ^ min u.toNat 64)) = ju := by have h_ := hjua; rw [Int.one_mul] at h_; exact h_
                      have hjuc : (wrap64 (1 * 2 ^ min u.toNat 64)) = ju := (i64_w _).symm.trans hjua
                      have hjud : (wrap64 (2 ^ min u.toNat 64)) = ju := (i64_w _).symm.trans hjub
                      clear hju
                      obtain ⟨jy, hjy⟩ : ∃ j_ : Int, (shl .i64 1 y2) = j_ := ⟨_, rfl⟩
                      rw [hjy] at h
                      have hjya : (IntKind.i64.wrap (1 * 2 ^ min y2.toNat 64)) = jy := hjy
                      have hjyb : (IntKind.i64.wrap (2 ^ min y2.toNat 64)) = jy := by have h_ := hjya; rw [Int.one_mul] at h_; exact h_
                      have hjyc : (wrap64 (1 * 2 ^ min y2.toNat 64)) = jy := (i64_w _).symm.trans hjya
                      have hjyd : (wrap64 (2 ^ min y2.toNat 64)) = jy := (i64_w _).symm.trans hjyb
                      clear hjy
                      obtain ⟨su, hsu⟩ : ∃ j_ : Int, (shr .i64 v u) = j_ := ⟨_, rfl⟩
                      rw [hsu] at h
                      have hsua : (v / 2 ^ min u.toNat 64) = su := hsu
                      clear hsu
                      obtain ⟨sy, hsy⟩ : ∃ j_ : Int, (shr .i64 v y2) = j_ := ⟨_, rfl⟩
                      rw [hsy] at h
                      have hsya : (v / 2 ^ min y2.toNat 64) = sy := hsy
                      clear hsy
                      obtain ⟨z, hz, h⟩ := Option.bind_eq_some_iff.mp h
                      obtain ⟨x, hx, h⟩ := Option.bind_eq_some_iff.mp h
                      obtain ⟨z1, z2, z3⟩ := z
                      obtain ⟨x1, x2, x3⟩ := x
                      by_cases cL : x2.length < 4398046511104
                      rotate_left
                      · rw [if_neg cL] at h; exact absurd h (by simp)
                      rw [if_pos cL] at h
                      by_cases cM : x3.length < 4398046511104
                      rotate_left
                      · rw [if_neg cM] at h; exact absurd h (by simp)
                      rw [if_pos cM] at h
                      simp only [Option.some.injEq, Prod.mk.injEq] at h
                      obtain ⟨rfl, rfl, rfl⟩ := h
                      have LM1 := Aside0.mk cL
                      have LM2 := Aside0.mk cM
                      clear cL cM
                      go_upto_region 13 with (fail)
                      by_cases cA : Int.tmod i a1 < d
                      · have cA' : decide (Int.tmod i a1 < d) = true := decide_eq_true cA
                        by_cases cB : Int.tmod su 2 = 0
                        · rw [if_pos ⟨cA, cB⟩] at hz
                          have cB' : (Int.tmod su 2 == 0) = true := beq_iff_eq.mpr cB
                          clear cA cB
                          obtain ⟨⟨m1, m2, m3⟩, hf1, hz⟩ := Option.bind_eq_some_iff.mp hz
                          simp only [Option.some.injEq, Prod.mk.injEq] at hz
                          obtain ⟨hz1, rfl, rfl⟩ := hz
                          have HF1 := Aside0.mk hf1
                          clear hf1
                          obtain ⟨s1, hs1⟩ : ∃ c_ : Int, c_ = wrap64 (0 + m1) := ⟨_, rfl⟩
                          have hs1w : wrap64 (0 + m1) = s1 := hs1.symm
                          have hs1v : IntKind.i64.wrap (0 + m1) = s1 := by rw [i64_w]; exact hs1.symm
                          have HWFs1 : Aside0 ((Lit.int .i64 s1).wf = true) := ⟨by rw [hs1]; exact wf_wrapW _⟩
                          have hs1z : wrap64 m1 = s1 := by rw [hs1, Int.zero_add]
                          have hs1y : IntKind.i64.wrap m1 = s1 := by rw [i64_w]; exact hs1z
                          rw [← hs1] at hz1
                          subst hz1
                          clear hs1
                          go_quiet (fail)
                          go_wp2_with fail
                          refine start_ (n := 15) (S := fun w' => w'.cell? ⟨w.heap.size, 0, none⟩ = some (.int .i64 a0) ∧ w'.cell? ⟨w.heap.size, 1, none⟩ = some (.int .i64 a1) ∧ w'.cell? ⟨w.heap.size, 2, none⟩ = some (.int .i64 a2)) (ds := []) #[false, false, false, false, false, false, false, false, false, false, false, false, false, false, false] (by kernel_rfl) rfl rfl ⟨blk_cell HGz.out 0, blk_cell HGz.out 1, blk_cell HGz.out 2⟩ (fun hHeld => ?_); refine with_tabW spec_l14Ways.tab14 spec_l14Ways.bits14 (fun HT_ HW_ => ?_)
                          refine pure_ (i := 0) (N := some 71) (v := ?_) (a' := ?_) #[true, false, false, false, false, false, false, false, false, false, false, false, false, false, false] rfl rfl (any_of HT_.out (by kernel_rfl)) (fun _ _ _ h => h) (Or.inl ⟨by rfl, ?_⟩) ?_ ?_
                          rotate_left
                          · intro w'
                            go_simp
                            with_reducible rfl
                          rotate_left
                          · simp only [Act.put, List.setIfInBounds_toArray, List.set_cons_zero, List.set_cons_succ, i64_w, i32_w]
                            rfl
                          refine take_ (i := 1) (N := some 72) (v := ?_) (a' := ?_) #[true, true, false, false, false, false, false, false, false, false, false, false, false, false, false] rfl rfl (take_ofW HT_.out HW_.out (by kernel_rfl)) (fun _ _ _ h => h) (Or.inl ⟨by rfl, ?_⟩) hHeld ?_ ?_
                          rotate_left
                          · rintro w' ⟨s0, s1, s2⟩
                            go_simp
                            with_reducible rfl
                          rotate_left
                          · simp only [Act.put, List.setIfInBounds_toArray, List.set_cons_zero, List.set_cons_succ, i64_w, i32_w]
                            rfl
                          refine pure_ (i := 2) (N := some 73) (v := ?_) (a' := ?_) #[true, true, true, false, false, false, false, false, false, false, false, false, false, false, false] rfl rfl (any_of HT_.out (by kernel_rfl)) (fun _ _ _ h => h) (Or.inl ⟨by rfl, ?_⟩) ?_ ?_
                          rotate_left
                          · intro w'
                            go_simp
                            with_reducible rfl
                          rotate_left
                          · simp only [Act.put, List.setIfInBounds_toArray, List.set_cons_zero, List.set_cons_succ, i64_w, i32_w]
                            rfl
                          refine pure_ (i := 3) (N := some 74) (v := ?_) (a' := ?_) #[true, true, true, true, false, false, false, false, false, false, false, false, false, false, false] rfl rfl (any_of HT_.out (by kernel_rfl)) (fun _ _ _ h => h) (Or.inl ⟨by rfl, ?_⟩) ?_ ?_
                          rotate_left
                          · intro w'
                            go_simp
                            with_reducible rfl
                          rotate_left
                          · simp only [Act.put, List.setIfInBounds_toArray, List.set_cons_zero, List.set_cons_succ, i64_w, i32_w]
                            rfl
                          refine pure_ (i := 4) (N := some 75) (v := ?_) (a' := ?_) #[true, true, true, true, true, false, false, false, false, false, false, false, false, false, false] rfl rfl (any_of HT_.out (by kernel_rfl)) (fun _ _ _ h => h) (Or.inl ⟨by rfl, ?_⟩) ?_ ?_
                          rotate_left
                          · intro w'
                            go_simp
                            with_reducible rfl
                          rotate_left
                          · simp only [Act.put, List.setIfInBounds_toArray, List.set_cons_zero, List.set_cons_succ, i64_w, i32_w]
                            rfl
                          refine pure_ (i := 5) (N := some 76) (v := ?_) (a' := ?_) #[true, true, true, true, true, true, false, false, false, false, false, false, false, false, false] rfl rfl (any_of HT_.out (by kernel_rfl)) (fun _ _ _ h => h) (Or.inl ⟨by rfl, ?_⟩) ?_ ?_
                          rotate_left
                          · intro w'
                            go_simp
                            with_reducible rfl
                          rotate_left
                          · simp only [Act.put, List.setIfInBounds_toArray, List.set_cons_zero, List.set_cons_succ, i64_w, i32_w]
                            rfl
                          refine pure_ (i := 6) (N := some 77) (v := ?_) (a' := ?_) #[true, true, true, true, true, true, true, false, false, false, false, false, false, false, false] rfl rfl (any_of HT_.out (by kernel_rfl)) (fun _ _ _ h => h) (Or.inl ⟨by rfl, ?_⟩) ?_ ?_
                          rotate_left
                          · intro w'
                            go_simp
                            with_reducible rfl
                          rotate_left
                          · simp only [Act.put, List.setIfInBounds_toArray, List.set_cons_zero, List.set_cons_succ, i64_w, i32_w]
                            rfl
                          refine pure_ (i := 7) (N := some 78) (v := ?_) (a' := ?_) #[true, true, true, true, true, true, true, true, false, false, false, false, false, false, false] rfl rfl (any_of HT_.out (by kernel_rfl)) (fun _ _ _ h => h) (Or.inl ⟨by rfl, ?_⟩) ?_ ?_
                          rotate_left
                          · intro w'
                            go_simp
                            with_reducible rfl
                          rotate_left
                          · simp only [Act.put, List.setIfInBounds_toArray, List.set_cons_zero, List.set_cons_succ, i64_w, i32_w]
                            rfl
                          refine pure_ (i := 8) (N := some 79) (v := ?_) (a' := ?_) #[true, true, true, true, true, true, true, true, true, false, false, false, false, false, false] rfl rfl (any_of HT_.out (by kernel_rfl)) (fun _ _ _ h => h) (Or.inl ⟨by rfl, ?_⟩) ?_ ?_
                          rotate_left
                          · intro w'
                            go_simp
                            with_reducible rfl
                          rotate_left
                          · simp only [Act.put, List.setIfInBounds_toArray, List.set_cons_zero, List.set_cons_succ, i64_w, i32_w]
                            rfl
                          refine pure_ (i := 9) (N := some 80) (v := ?_) (a' := ?_) #[true, true, true, true, true, true, true, true, true, true, false, false, false, false, false] rfl rfl (any_of HT_.out (by kernel_rfl)) (fun _ _ _ h => h) (Or.inl ⟨by rfl, ?_⟩) ?_ ?_
                          rotate_left
                          · intro w'
                            go_simp
                            with_reducible rfl
                          rotate_left
                          · simp only [Act.put, List.setIfInBounds_toArray, List.set_cons_zero, List.set_cons_succ, i64_w, i32_w]
                            rfl
                          refine pure_ (i := 10) (N := some 81) (v := ?_) (a' := ?_) #[true, true, true, true, true, true, true, true, true, true, true, false, false, false, false] rfl rfl (any_of HT_.out (by kernel_rfl)) (fun _ _ _ h => h) (Or.inl ⟨by rfl, ?_⟩) ?_ ?_
                          rotate_left
                          · intro w'
                            go_simp
                            with_reducible rfl
                          rotate_left
                          · simp only [Act.put, List.setIfInBounds_toArray, List.set_cons_zero, List.set_cons_succ, i64_w, i32_w]
                            rfl
                          refine pure_ (i := 11) (N := some 82) (v := ?_) (a' := ?_) #[true, true, true, true, true, true, true, true, true, true, true, true, false, false, false] rfl rfl (any_of HT_.out (by kernel_rfl)) (fun _ _ _ h => h) (Or.inl ⟨by rfl, ?_⟩) ?_ ?_
                          rotate_left
                          · intro w'
                            go_simp
                            with_reducible rfl
                          rotate_left
                          · simp only [Act.put, List.setIfInBounds_toArray, List.set_cons_zero, List.set_cons_succ, i64_w, i32_w]
                            rfl
                          refine one_ (i := 12) (N := some 83) #[true, true, true, true, true, true, true, true, true, true, true, true, true, false, false] rfl rfl (one_of HT_.out (by kernel_rfl)) (by decide) (fun K hK => ?_)
                          refine call_ 24 #[.agg #[.int .i64 a0, .int .i64 a1, .int .i64 a2], .int .i64 (Go.bits .or .i64 (Go.bits .or .i64 v jt) ju), .pointer (some ⟨bk, 0, none⟩), .pointer (some ⟨bw, 0, none⟩)] (by rfl) rfl ?_ ?_
                          · first | (go_simp; done) | (go_simp; rfl)
                          refine (HIH.out _ ks ns m1 m2 m3 _ (by first | exact below_step HBz.out (Below.refl _ _) | exact below_step HBz.out (below_drew1 (Below.refl _ _)) | exact below_step HBz.out (pw_below_drewN (Below.refl _ _) _) | exact below_step HBz.out (below_drew1 (pw_below_drewN (Below.refl _ _) _))) (by first | exact HVz.out | exact HVz.out.below (below_drew1 (Below.refl _ _)) | exact HVz.out.below (pw_below_drewN (Below.refl _ _) _) | exact HVz.out.below (below_drew1 (pw_below_drewN (Below.refl _ _) _))) HF1.out).mono ?_
                          rintro e wcA ⟨rfl, hd1, hd2, hd3⟩
                          have HBa := Aside0.mk hd1
                          have HVa := Aside0.mk hd2
                          have HKa := Aside0.mk (Keep.trans (by first | exact HKp1.out | exact HKp1.out.of_below (below_drew1 (Below.refl _ _)) | exact HKp1.out.of_below (pw_below_drewN (Below.refl _ _) _) | exact HKp1.out.of_below (below_drew1 (pw_below_drewN (Below.refl _ _) _))) hd3)
                          have HXa := Aside0.mk ((HKa.out.2 _ 25 _ (by decide) HGB.out).trans HGB.out)
                          have cxa : wcA.cell? ⟨w.heap.size, 1, none⟩ = some (.int .i64 a1) := blk_cell HXa.out 1
                          have cya : wcA.cell? ⟨w.heap.size, 0, none⟩ = some (.int .i64 a0) := blk_cell HXa.out 0
                          have cza : wcA.cell? ⟨w.heap.size, 2, none⟩ = some (.int .i64 a2) := blk_cell HXa.out 2
                          clear hd1 hd2 hd3
                          refine ⟨_, rfl, ?_⟩
                          refine hK.out _ _ ⟨cya, cxa, cza⟩ (fun hHeld => ?_)
                          clear hK K
                          refine norm_ (a' := ?_) ?_ ?_
                          rotate_left
                          · show Act.put _ (some 83) _ = _
                            simp only [Act.put, List.setIfInBounds_toArray, List.set_cons_zero, List.set_cons_succ, i64_w, i32_w]
                            rfl
                          refine pure_ (i := 13) (N := some 84) (v := ?_) (a' := ?_) #[true, true, true, true, true, true, true, true, true, true, true, true, true, true, false] rfl rfl (any_of HT_.out (by kernel_rfl)) (fun _ _ _ h => h) (Or.inl ⟨by rfl, ?_⟩) ?_ ?_
                          rotate_left
                          · intro w'
                            go_simp
                            with_reducible rfl
                          rotate_left
                          · simp only [Act.put, List.setIfInBounds_toArray, List.set_cons_zero, List.set_cons_succ, i64_w, i32_w]
                            rfl
                          refine pure_ (i := 14) (N := some 12) (v := ?_) (a' := ?_) #[true, true, true, true, true, true, true, true, true, true, true, true, true, true, true] rfl rfl (any_of HT_.out (by kernel_rfl)) (fun _ _ _ h => h) (Or.inl ⟨by rfl, ?_⟩) ?_ ?_
                          rotate_left
                          · intro w'
                            go_simp
                            with_reducible rfl
                          rotate_left
                          · simp only [Act.put, List.setIfInBounds_toArray, List.set_cons_zero, List.set_cons_succ, i64_w, i32_w]
                            rfl
                          refine done_ (done_of HT_.out (by kernel_rfl)) ?_
                          by_cases cC : y2 < cells
                          · have cC' : decide (y2 < cells) = true := decide_eq_true cC
                            by_cases cD : Int.tmod sy 2 = 0
                            · rw [if_pos ⟨cC, cD⟩] at hx
                              have cD' : (Int.tmod sy 2 == 0) = true := beq_iff_eq.mpr cD
                              clear cC cD
                              obtain ⟨⟨n1, n2, n3⟩, hf2, hx⟩ := Option.bind_eq_some_iff.mp hx
                              simp only [Option.some.injEq, Prod.mk.injEq] at hx
                              obtain ⟨hx1, rfl, rfl⟩ := hx
                              have HF2 := Aside0.mk hf2
                              clear hf2
                              obtain ⟨s2, hs2⟩ : ∃ c_ : Int, c_ = wrap64 (s1 + n1) := ⟨_, rfl⟩
                              have hs2w : wrap64 (s1 + n1) = s2 := hs2.symm
                              have hs2v : IntKind.i64.wrap (s1 + n1) = s2 := by rw [i64_w]; exact hs2.symm
                              have HWFs2 : Aside0 ((Lit.int .i64 s2).wf = true) := ⟨by rw [hs2]; exact wf_wrapW _⟩
                              rw [← hs2] at hx1
                              subst hx1
                              clear hs2
                              go_wp2_with fail
                              refine start_ (n := 17) (S := fun w' => w'.cell? ⟨w.heap.size, 0, none⟩ = some (.int .i64 a0) ∧ w'.cell? ⟨w.heap.size, 1, none⟩ = some (.int .i64 a1) ∧ w'.cell? ⟨w.heap.size, 2, none⟩ = some (.int .i64 a2)) (ds := []) #[false, false, false, false, false, false, false, false, false, false, false, false, false, false, false, false, false] (by kernel_rfl) rfl rfl ⟨blk_cell HXa.out 0, blk_cell HXa.out 1, blk_cell HXa.out 2⟩ (fun hHeld => ?_); refine with_tabW spec_l14Ways.tab16 spec_l14Ways.bits16 (fun HT_ HW_ => ?_)
                              refine pure_ (i := 0) (N := some 101) (v := ?_) (a' := ?_) #[true, false, false, false, false, false, false, false, false, false, false, false, false, false, false, false, false] rfl rfl (any_of HT_.out (by kernel_rfl)) (fun _ _ _ h => h) (Or.inl ⟨by rfl, ?_⟩) ?_ ?_
                              rotate_left
                              · intro w'
                                go_simp
                                with_reducible rfl
                              rotate_left
                              · simp only [Act.put, List.setIfInBounds_toArray, List.set_cons_zero, List.set_cons_succ, i64_w, i32_w]
                                rfl
                              refine take_ (i := 1) (N := some 102) (v := ?_) (a' := ?_) #[true, true, false, false, false, false, false, false, false, false, false, false, false, false, false, false, false] rfl rfl (take_ofW HT_.out HW_.out (by kernel_rfl)) (fun _ _ _ h => h) (Or.inl ⟨by rfl, ?_⟩) hHeld ?_ ?_
                              rotate_left
                              · rintro w' ⟨s0, s1, s2⟩
                                go_simp
                                with_reducible rfl
                              rotate_left
                              · simp only [Act.put, List.setIfInBounds_toArray, List.set_cons_zero, List.set_cons_succ, i64_w, i32_w]
                                rfl
                              refine pure_ (i := 2) (N := some 103) (v := ?_) (a' := ?_) #[true, true, true, false, false, false, false, false, false, false, false, false, false, false, false, false, false] rfl rfl (any_of HT_.out (by kernel_rfl)) (fun _ _ _ h => h) (Or.inl ⟨by rfl, ?_⟩) ?_ ?_
                              rotate_left
                              · intro w'
                                go_simp
                                with_reducible rfl
                              rotate_left
                              · simp only [Act.put, List.setIfInBounds_toArray, List.set_cons_zero, List.set_cons_succ, i64_w, i32_w]
                                rfl
                              refine pure_ (i := 3) (N := some 104) (v := ?_) (a' := ?_) #[true, true, true, true, false, false, false, false, false, false, false, false, false, false, false, false, false] rfl rfl (any_of HT_.out (by kernel_rfl)) (fun _ _ _ h => h) (Or.inl ⟨by rfl, ?_⟩) ?_ ?_
                              rotate_left
                              · intro w'
                                go_simp
                                with_reducible rfl
                              rotate_left
                              · simp only [Act.put, List.setIfInBounds_toArray, List.set_cons_zero, List.set_cons_succ, i64_w, i32_w]
                                rfl
                              refine pure_ (i := 4) (N := some 105) (v := ?_) (a' := ?_) #[true, true, true, true, true, false, false, false, false, false, false, false, false, false, false, false, false] rfl rfl (any_of HT_.out (by kernel_rfl)) (fun _ _ _ h => h) (Or.inl ⟨by rfl, ?_⟩) ?_ ?_
                              rotate_left
                              · intro w'
                                go_simp
                                with_reducible rfl
                              rotate_left
                              · simp only [Act.put, List.setIfInBounds_toArray, List.set_cons_zero, List.set_cons_succ, i64_w, i32_w]
                                rfl
                              refine pure_ (i := 5) (N := some 106) (v := ?_) (a' := ?_) #[true, true, true, true, true, true, false, false, false, false, false, false, false, false, false, false, false] rfl rfl (any_of HT_.out (by kernel_rfl)) (fun _ _ _ h => h) (Or.inl ⟨by rfl, ?_⟩) ?_ ?_
                              rotate_left
                              · intro w'
                                go_simp
                                with_reducible rfl
                              rotate_left
                              · simp only [Act.put, List.setIfInBounds_toArray, List.set_cons_zero, List.set_cons_succ, i64_w, i32_w]
                                rfl
                              refine pure_ (i := 6) (N := some 107) (v := ?_) (a' := ?_) #[true, true, true, true, true, true, true, false, false, false, false, false, false, false, false, false, false] rfl rfl (any_of HT_.out (by kernel_rfl)) (fun _ _ _ h => h) (Or.inl ⟨by rfl, ?_⟩) ?_ ?_
                              rotate_left
                              · intro w'
                                go_simp
                                with_reducible rfl
                              rotate_left
                              · simp only [Act.put, List.setIfInBounds_toArray, List.set_cons_zero, List.set_cons_succ, i64_w, i32_w]
                                rfl
                              refine pure_ (i := 7) (N := some 108) (v := ?_) (a' := ?_) #[true, true, true, true, true, true, true, true, false, false, false, false, false, false, false, false, false] rfl rfl (any_of HT_.out (by kernel_rfl)) (fun _ _ _ h => h) (Or.inl ⟨by rfl, ?_⟩) ?_ ?_
                              rotate_left
                              · intro w'
                                go_simp
                                with_reducible rfl
                              rotate_left
                              · simp only [Act.put, List.setIfInBounds_toArray, List.set_cons_zero, List.set_cons_succ, i64_w, i32_w]
                                rfl
                              refine take_ (i := 8) (N := some 109) (v := ?_) (a' := ?_) #[true, true, true, true, true, true, true, true, true, false, false, false, false, false, false, false, false] rfl rfl (take_ofW HT_.out HW_.out (by kernel_rfl)) (fun _ _ _ h => h) (Or.inl ⟨by rfl, ?_⟩) hHeld ?_ ?_
                              rotate_left
                              · rintro w' ⟨s0, s1, s2⟩
                                go_simp
                                with_reducible rfl
                              rotate_left
                              · simp only [Act.put, List.setIfInBounds_toArray, List.set_cons_zero, List.set_cons_succ, i64_w, i32_w]
                                rfl
                              refine pure_ (i := 9) (N := some 110) (v := ?_) (a' := ?_) #[true, true, true, true, true, true, true, true, true, true, false, false, false, false, false, false, false] rfl rfl (any_of HT_.out (by kernel_rfl)) (fun _ _ _ h => h) (Or.inl ⟨by rfl, ?_⟩) ?_ ?_
                              rotate_left
                              · intro w'
                                go_simp
                                with_reducible rfl
                              rotate_left
                              · simp only [Act.put, List.setIfInBounds_toArray, List.set_cons_zero, List.set_cons_succ, i64_w, i32_w]
                                rfl
                              refine pure_ (i := 10) (N := some 111) (v := ?_) (a' := ?_) #[true, true, true, true, true, true, true, true, true, true, true, false, false, false, false, false, false] rfl rfl (any_of HT_.out (by kernel_rfl)) (fun _ _ _ h => h) (Or.inl ⟨by rfl, ?_⟩) ?_ ?_
                              rotate_left
                              · intro w'
                                go_simp
                                with_reducible rfl
                              rotate_left
                              · simp only [Act.put, List.setIfInBounds_toArray, List.set_cons_zero, List.set_cons_succ, i64_w, i32_w]
                                rfl
                              refine pure_ (i := 11) (N := some 112) (v := ?_) (a' := ?_) #[true, true, true, true, true, true, true, true, true, true, true, true, false, false, false, false, false] rfl rfl (any_of HT_.out (by kernel_rfl)) (fun _ _ _ h => h) (Or.inl ⟨by rfl, ?_⟩) ?_ ?_
                              rotate_left
                              · intro w'
                                go_simp
                                with_reducible rfl
                              rotate_left
                              · simp only [Act.put, List.setIfInBounds_toArray, List.set_cons_zero, List.set_cons_succ, i64_w, i32_w]
                                rfl
                              refine pure_ (i := 12) (N := some 113) (v := ?_) (a' := ?_) #[true, true, true, true, true, true, true, true, true, true, true, true, true, false, false, false, false] rfl rfl (any_of HT_.out (by kernel_rfl)) (fun _ _ _ h => h) (Or.inl ⟨by rfl, ?_⟩) ?_ ?_
                              rotate_left
                              · intro w'
                                go_simp
                                with_reducible rfl
                              rotate_left
                              · simp only [Act.put, List.setIfInBounds_toArray, List.set_cons_zero, List.set_cons_succ, i64_w, i32_w]
                                rfl
                              refine pure_ (i := 13) (N := some 114) (v := ?_) (a' := ?_) #[true, true, true, true, true, true, true, true, true, true, true, true, true, true, false, false, false] rfl rfl (any_of HT_.out (by kernel_rfl)) (fun _ _ _ h => h) (Or.inl ⟨by rfl, ?_⟩) ?_ ?_
                              rotate_left
                              · intro w'
                                go_simp
                                with_reducible rfl
                              rotate_left
                              · simp only [Act.put, List.setIfInBounds_toArray, List.set_cons_zero, List.set_cons_succ, i64_w, i32_w]
                                rfl
                              refine one_ (i := 14) (N := some 115) #[true, true, true, true, true, true, true, true, true, true, true, true, true, true, true, false, false] rfl rfl (one_of HT_.out (by kernel_rfl)) (by decide) (fun K hK => ?_)
                              refine call_ 24 #[.agg #[.int .i64 a0, .int .i64 a1, .int .i64 a2], .int .i64 (Go.bits .or .i64 (Go.bits .or .i64 v jt) jy), .pointer (some ⟨bk, 0, none⟩), .pointer (some ⟨bw, 0, none⟩)] (by rfl) rfl ?_ ?_
                              · first | (go_simp; done) | (go_simp; rfl)
                              refine (HIH.out _ m2 m3 n1 n2 n3 _ (by first | exact below_step HBa.out (Below.refl _ _) | exact below_step HBa.out (below_drew1 (Below.refl _ _)) | exact below_step HBa.out (pw_below_drewN (Below.refl _ _) _) | exact below_step HBa.out (below_drew1 (pw_below_drewN (Below.refl _ _) _))) (by first | exact HVa.out | exact HVa.out.below (below_drew1 (Below.refl _ _)) | exact HVa.out.below (pw_below_drewN (Below.refl _ _) _) | exact HVa.out.below (below_drew1 (pw_below_drewN (Below.refl _ _) _))) HF2.out).mono ?_
                              rintro e wcB ⟨rfl, hd1, hd2, hd3⟩
                              have HBb := Aside0.mk hd1
                              have HVb := Aside0.mk hd2
                              have HKb := Aside0.mk (Keep.trans (by first | exact HKa.out | exact HKa.out.of_below (below_drew1 (Below.refl _ _)) | exact HKa.out.of_below (pw_below_drewN (Below.refl _ _) _) | exact HKa.out.of_below (below_drew1 (pw_below_drewN (Below.refl _ _) _))) hd3)
                              have HXb := Aside0.mk ((HKb.out.2 _ 25 _ (by decide) HGB.out).trans HGB.out)
                              have cxb : wcB.cell? ⟨w.heap.size, 1, none⟩ = some (.int .i64 a1) := blk_cell HXb.out 1
                              have cyb : wcB.cell? ⟨w.heap.size, 0, none⟩ = some (.int .i64 a0) := blk_cell HXb.out 0
                              have czb : wcB.cell? ⟨w.heap.size, 2, none⟩ = some (.int .i64 a2) := blk_cell HXb.out 2
                              clear hd1 hd2 hd3
                              refine ⟨_, rfl, ?_⟩
                              refine hK.out _ _ ⟨cyb, cxb, czb⟩ (fun hHeld => ?_)
                              clear hK K
                              refine norm_ (a' := ?_) ?_ ?_
                              rotate_left
                              · show Act.put _ (some 115) _ = _
                                simp only [Act.put, List.setIfInBounds_toArray, List.set_cons_zero, List.set_cons_succ, i64_w, i32_w]
                                rfl
                              refine pure_ (i := 15) (N := some 116) (v := ?_) (a' := ?_) #[true, true, true, true, true, true, true, true, true, true, true, true, true, true, true, true, false] rfl rfl (any_of HT_.out (by kernel_rfl)) (fun _ _ _ h => h) (Or.inl ⟨by rfl, ?_⟩) ?_ ?_
                              rotate_left
                              · intro w'
                                go_simp
                                with_reducible rfl
                              rotate_left
                              · simp only [Act.put, List.setIfInBounds_toArray, List.set_cons_zero, List.set_cons_succ, i64_w, i32_w]
                                rfl
                              refine pure_ (i := 16) (N := some 12) (v := ?_) (a' := ?_) #[true, true, true, true, true, true, true, true, true, true, true, true, true, true, true, true, true] rfl rfl (any_of HT_.out (by kernel_rfl)) (fun _ _ _ h => h) (Or.inl ⟨by rfl, ?_⟩) ?_ ?_
                              rotate_left
                              · intro w'
                                go_simp
                                with_reducible rfl
                              rotate_left
                              · simp only [Act.put, List.setIfInBounds_toArray, List.set_cons_zero, List.set_cons_succ, i64_w, i32_w]
                                rfl
                              refine done_ (done_of HT_.out (by kernel_rfl)) ?_
                              obtain ⟨vk2, vw2, hgk2, hgw2, hrk2, hrw2⟩ := HVb.out
                              obtain ⟨Ak2, ck2, ek2⟩ := Kd.R_slice hrk2
                              subst ek2
                              obtain ⟨Aw2, cw2, ew2⟩ := Kd.R_slice hrw2
                              subst ew2
                              have HGK2 := Aside0.mk hgk2
                              have HGW2 := Aside0.mk hgw2
                              have HRK2 := Aside0.mk hrk2
                              have HRW2 := Aside0.mk hrw2
                              have ckf := blk_cell hgk2 0
                              clear ck0 cw0
                              clear hgk2 hgw2 hrk2 hrw2
                              go_wp2_with (first | ((with_reducible refine gate_builtin (b := .append) (xs := #[.tmp 120, .tmp 122]) rfl ?_); at_builtin; refine Kd.R_append (Kd.int .i64) (w0 := W0) W0.heap.size rfl (.tmp 120) (.tmp 122) 28 3 (.int .i64 0) 8 rfl Tryd.underlying28 hi3 rfl (by decide) (by omega) (.slice Ak2 n2.length ck2) n2 v [.int .i64 v] (fun q => some q ≠ (Value.slice Aw2 n3.length cw2).ownBlock) (fun _ => False) rfl rfl ?aP (fun _ hk => hk.elim) ?aF ?aO ?aB ?aS ?aL ?_; (case aP => exact rfl); (case aF => exact fun q hq e1 => Nat.lt_irrefl _ (Nat.lt_of_lt_of_le (own_lt_R (by first | exact HRW2.out | exact Kd.R_below HRW2.out (pw_below_drewN (Below.refl _ _) _)) q e1.symm) hq)); (case aO => exact (by first | exact HRK2.out | exact Kd.R_below HRK2.out (pw_below_drewN (Below.refl _ _) _))); (case aB => exact (by first | exact below_step HBb.out (Below.refl _ _) | exact below_step HBb.out (below_drew1 (Below.refl _ _)) | exact below_step HBb.out (pw_below_drewN (Below.refl _ _) _) | exact below_step HBb.out (below_drew1 (pw_below_drewN (Below.refl _ _) _)))); (case aS => exact below_size (by first | exact below_step HBb.out (Below.refl _ _) | exact below_step HBb.out (below_drew1 (Below.refl _ _)) | exact below_step HBb.out (pw_below_drewN (Below.refl _ _) _) | exact below_step HBb.out (below_drew1 (pw_below_drewN (Below.refl _ _) _)))); (case aL => have := LM1.out; omega); intro v7 w7 ho hb hgr hat; obtain ⟨Ad7, cd7, ev7⟩ := Kd.R_slice ho; subst ev7; simp only [List.length_append, List.length_singleton] at ho hat; have HO7 := Aside0.mk ho; have HB7 := Aside0.mk hb; have HGK7 := Aside0.mk (blk_grown (by first | exact HGK2.out | exact blk_drewN HGK2.out _) hgr (Kd.R_ne (by first | exact HRK2.out | exact Kd.R_below HRK2.out (pw_below_drewN (Below.refl _ _) _)) (by first | exact HGK2.out | exact blk_drewN HGK2.out _) (by decide))); have HGW7 := Aside0.mk (blk_grown (by first | exact HGW2.out | exact blk_drewN HGW2.out _) hgr (Kd.R_ne (by first | exact HRK2.out | exact Kd.R_below HRK2.out (pw_below_drewN (Below.refl _ _) _)) (by first | exact HGW2.out | exact blk_drewN HGW2.out _) (by decide))); have HRW7 := Aside0.mk (two_other (by first | exact HRW2.out | exact Kd.R_below HRW2.out (pw_below_drewN (Below.refl _ _) _)) hgr hat); have HK7 := Aside0.mk (Keep.grown (by first | exact HKb.out | exact HKb.out.of_below (below_drew1 (Below.refl _ _)) | exact HKb.out.of_below (pw_below_drewN (Below.refl _ _) _) | exact HKb.out.of_below (below_drew1 (pw_below_drewN (Below.refl _ _) _))) (by first | exact HRK2.out | exact Kd.R_below HRK2.out (pw_below_drewN (Below.refl _ _) _)) (by decide) hgr); have hfz7 := blk_frozen HGK7.out 0; have hcell7 := blk_cell HGK7.out 0; have hcw7 : (w7.setCell ⟨bk, 0, none⟩ (.slice Ad7 (n2.length + 1) cd7)).cell? ⟨bw, 0, none⟩ = some (.slice Aw2 n3.length cw2) := blk_cell ((Below.heap_setCell w7 ⟨bk, 0, none⟩ _ bw (fun e1 => HNE.out e1.symm)).trans HGW7.out) 0; clear ho hb hgr hat) | ((with_reducible refine gate_builtin (b := .append) (xs := #[.tmp 128, .tmp 130]) rfl ?_); at_builtin; refine Kd.R_append (Kd.int .i64) (w0 := W0) W0.heap.size rfl (.tmp 128) (.tmp 130) 28 3 (.int .i64 0) 8 rfl Tryd.underlying28 hi3 rfl (by decide) (by omega) (.slice Aw2 n3.length cw2) n3 s2 [.int .i64 s2] (fun q => some q ≠ (Value.slice Ad7 (n2.length + 1) cd7).ownBlock) (fun _ => False) rfl (by first | rfl | (rw [Go.World.size_setCell]; rfl)) ?aP (fun _ hk => hk.elim) ?aF ?aO ?aB ?aS ?aL ?_; (case aP => exact rfl); (case aF => exact fun q hq e1 => Nat.lt_irrefl _ (Nat.lt_of_lt_of_le (own_lt_R (Kd.R_set HO7.out HGK7.out (by simp [Kd.int, Kd.scalar]) 0 (.slice Ad7 (n2.length + 1) cd7)) q e1.symm) hq)); (case aO => exact Kd.R_set HRW7.out HGK7.out (by simp [Kd.int, Kd.scalar]) 0 _); (case aB => exact HB7.out.setCell HK0.out _); (case aS => exact below_size (HB7.out.setCell HK0.out _)); (case aL => have := LM2.out; omega); intro v8 w8 ho hb hgr hat; obtain ⟨Ad8, cd8, ev8⟩ := Kd.R_slice ho; subst ev8; simp only [List.length_append, List.length_singleton] at ho hat; have HO8 := Aside0.mk ho; have HB8 := Aside0.mk hb; have HGW8 := Aside0.mk (blk_grown ((Below.heap_setCell w7 ⟨bk, 0, none⟩ (.slice Ad7 (n2.length + 1) cd7) bw (fun e1 => HNE.out e1.symm)).trans HGW7.out) hgr (Kd.R_ne (Kd.R_set HRW7.out HGK7.out (by simp [Kd.int, Kd.scalar]) 0 (.slice Ad7 (n2.length + 1) cd7)) ((Below.heap_setCell w7 ⟨bk, 0, none⟩ (.slice Ad7 (n2.length + 1) cd7) bw (fun e1 => HNE.out e1.symm)).trans HGW7.out) (by decide))); have HGK8 := Aside0.mk (blk_grown (blk_put HGK7.out 0 (.slice Ad7 (n2.length + 1) cd7) rfl) hgr (Kd.R_ne (Kd.R_set HRW7.out HGK7.out (by simp [Kd.int, Kd.scalar]) 0 (.slice Ad7 (n2.length + 1) cd7)) (blk_put HGK7.out 0 (.slice Ad7 (n2.length + 1) cd7) rfl) (by decide))); have HRK8 := Aside0.mk (two_other (vk := .slice Aw2 n3.length cw2) (Kd.R_set HO7.out HGK7.out (by simp [Kd.int, Kd.scalar]) 0 (.slice Ad7 (n2.length + 1) cd7)) hgr hat); have HK8 := Aside0.mk (Keep.grown (Keep.set HK7.out HGK7.out (by decide) 0 (.slice Ad7 (n2.length + 1) cd7)) (Kd.R_set HRW7.out HGK7.out (by simp [Kd.int, Kd.scalar]) 0 (.slice Ad7 (n2.length + 1) cd7)) (by decide) hgr); have hfz8 := blk_frozen HGW8.out 0; have hcell8 := blk_cell HGW8.out 0; clear ho hb hgr hat))
                              go_ret
                              refine ⟨rfl, HB8.out.setCell HW0.out _, ⟨_, _, (Below.heap_setCell w8 ⟨bw, 0, none⟩ _ bk HNE.out).trans HGK8.out, blk_put HGW8.out 0 _ rfl, ?_, ?_⟩, (((Keep.refl [25] w).of_below HBW.out).trans HK8.out).set HGW8.out (by decide) 0 _⟩
                              · have h1 := Kd.R_set HRK8.out HGW8.out (by simp [Kd.int, Kd.scalar]) 0 (.slice Ad8 (n3.length + 1) cd8)
                                exact h1
                              · have h1 := Kd.R_set HO8.out HGW8.out (by simp [Kd.int, Kd.scalar]) 0 (.slice Ad8 (n3.length + 1) cd8)
                                exact h1
                            · rw [if_neg (fun h_ => cD h_.2)] at hx
                              have cD' : (Int.tmod sy 2 == 0) = false := beq_eq_false_iff_ne.mpr cD
                              clear cC cD
                              simp only [Option.some.injEq, Prod.mk.injEq] at hx
                              obtain ⟨rfl, rfl, rfl⟩ := hx
                              obtain ⟨vk2, vw2, hgk2, hgw2, hrk2, hrw2⟩ := HVa.out
                              obtain ⟨Ak2, ck2, ek2⟩ := Kd.R_slice hrk2
                              subst ek2
                              obtain ⟨Aw2, cw2, ew2⟩ := Kd.R_slice hrw2
                              subst ew2
                              have HGK2 := Aside0.mk hgk2
                              have HGW2 := Aside0.mk hgw2
                              have HRK2 := Aside0.mk hrk2
                              have HRW2 := Aside0.mk hrw2
                              have ckf := blk_cell hgk2 0
                              clear ck0 cw0
                              clear hgk2 hgw2 hrk2 hrw2
                              go_wp2_with (first | ((with_reducible refine gate_builtin (b := .append) (xs := #[.tmp 120, .tmp 122]) rfl ?_); at_builtin; refine Kd.R_append (Kd.int .i64) (w0 := W0) W0.heap.size rfl (.tmp 120) (.tmp 122) 28 3 (.int .i64 0) 8 rfl Tryd.underlying28 hi3 rfl (by decide) (by omega) (.slice Ak2 m2.length ck2) m2 v [.int .i64 v] (fun q => some q ≠ (Value.slice Aw2 m3.length cw2).ownBlock) (fun _ => False) rfl rfl ?aP (fun _ hk => hk.elim) ?aF ?aO ?aB ?aS ?aL ?_; (case aP => exact rfl); (case aF => exact fun q hq e1 => Nat.lt_irrefl _ (Nat.lt_of_lt_of_le (own_lt_R (by first | exact HRW2.out | exact Kd.R_below HRW2.out (pw_below_drewN (Below.refl _ _) _)) q e1.symm) hq)); (case aO => exact (by first | exact HRK2.out | exact Kd.R_below HRK2.out (pw_below_drewN (Below.refl _ _) _))); (case aB => exact (by first | exact below_step HBa.out (Below.refl _ _) | exact below_step HBa.out (below_drew1 (Below.refl _ _)) | exact below_step HBa.out (pw_below_drewN (Below.refl _ _) _) | exact below_step HBa.out (below_drew1 (pw_below_drewN (Below.refl _ _) _)))); (case aS => exact below_size (by first | exact below_step HBa.out (Below.refl _ _) | exact below_step HBa.out (below_drew1 (Below.refl _ _)) | exact below_step HBa.out (pw_below_drewN (Below.refl _ _) _) | exact below_step HBa.out (below_drew1 (pw_below_drewN (Below.refl _ _) _)))); (case aL => have := LM1.out; omega); intro v7 w7 ho hb hgr hat; obtain ⟨Ad7, cd7, ev7⟩ := Kd.R_slice ho; subst ev7; simp only [List.length_append, List.length_singleton] at ho hat; have HO7 := Aside0.mk ho; have HB7 := Aside0.mk hb; have HGK7 := Aside0.mk (blk_grown (by first | exact HGK2.out | exact blk_drewN HGK2.out _) hgr (Kd.R_ne (by first | exact HRK2.out | exact Kd.R_below HRK2.out (pw_below_drewN (Below.refl _ _) _)) (by first | exact HGK2.out | exact blk_drewN HGK2.out _) (by decide))); have HGW7 := Aside0.mk (blk_grown (by first | exact HGW2.out | exact blk_drewN HGW2.out _) hgr (Kd.R_ne (by first | exact HRK2.out | exact Kd.R_below HRK2.out (pw_below_drewN (Below.refl _ _) _)) (by first | exact HGW2.out | exact blk_drewN HGW2.out _) (by decide))); have HRW7 := Aside0.mk (two_other (by first | exact HRW2.out | exact Kd.R_below HRW2.out (pw_below_drewN (Below.refl _ _) _)) hgr hat); have HK7 := Aside0.mk (Keep.grown (by first | exact HKa.out | exact HKa.out.of_below (below_drew1 (Below.refl _ _)) | exact HKa.out.of_below (pw_below_drewN (Below.refl _ _) _) | exact HKa.out.of_below (below_drew1 (pw_below_drewN (Below.refl _ _) _))) (by first | exact HRK2.out | exact Kd.R_below HRK2.out (pw_below_drewN (Below.refl _ _) _)) (by decide) hgr); have hfz7 := blk_frozen HGK7.out 0; have hcell7 := blk_cell HGK7.out 0; have hcw7 : (w7.setCell ⟨bk, 0, none⟩ (.slice Ad7 (m2.length + 1) cd7)).cell? ⟨bw, 0, none⟩ = some (.slice Aw2 m3.length cw2) := blk_cell ((Below.heap_setCell w7 ⟨bk, 0, none⟩ _ bw (fun e1 => HNE.out e1.symm)).trans HGW7.out) 0; clear ho hb hgr hat) | ((with_reducible refine gate_builtin (b := .append) (xs := #[.tmp 128, .tmp 130]) rfl ?_); at_builtin; refine Kd.R_append (Kd.int .i64) (w0 := W0) W0.heap.size rfl (.tmp 128) (.tmp 130) 28 3 (.int .i64 0) 8 rfl Tryd.underlying28 hi3 rfl (by decide) (by omega) (.slice Aw2 m3.length cw2) m3 s1 [.int .i64 s1] (fun q => some q ≠ (Value.slice Ad7 (m2.length + 1) cd7).ownBlock) (fun _ => False) rfl (by first | rfl | (rw [Go.World.size_setCell]; rfl)) ?aP (fun _ hk => hk.elim) ?aF ?aO ?aB ?aS ?aL ?_; (case aP => exact rfl); (case aF => exact fun q hq e1 => Nat.lt_irrefl _ (Nat.lt_of_lt_of_le (own_lt_R (Kd.R_set HO7.out HGK7.out (by simp [Kd.int, Kd.scalar]) 0 (.slice Ad7 (m2.length + 1) cd7)) q e1.symm) hq)); (case aO => exact Kd.R_set HRW7.out HGK7.out (by simp [Kd.int, Kd.scalar]) 0 _); (case aB => exact HB7.out.setCell HK0.out _); (case aS => exact below_size (HB7.out.setCell HK0.out _)); (case aL => have := LM2.out; omega); intro v8 w8 ho hb hgr hat; obtain ⟨Ad8, cd8, ev8⟩ := Kd.R_slice ho; subst ev8; simp only [List.length_append, List.length_singleton] at ho hat; have HO8 := Aside0.mk ho; have HB8 := Aside0.mk hb; have HGW8 := Aside0.mk (blk_grown ((Below.heap_setCell w7 ⟨bk, 0, none⟩ (.slice Ad7 (m2.length + 1) cd7) bw (fun e1 => HNE.out e1.symm)).trans HGW7.out) hgr (Kd.R_ne (Kd.R_set HRW7.out HGK7.out (by simp [Kd.int, Kd.scalar]) 0 (.slice Ad7 (m2.length + 1) cd7)) ((Below.heap_setCell w7 ⟨bk, 0, none⟩ (.slice Ad7 (m2.length + 1) cd7) bw (fun e1 => HNE.out e1.symm)).trans HGW7.out) (by decide))); have HGK8 := Aside0.mk (blk_grown (blk_put HGK7.out 0 (.slice Ad7 (m2.length + 1) cd7) rfl) hgr (Kd.R_ne (Kd.R_set HRW7.out HGK7.out (by simp [Kd.int, Kd.scalar]) 0 (.slice Ad7 (m2.length + 1) cd7)) (blk_put HGK7.out 0 (.slice Ad7 (m2.length + 1) cd7) rfl) (by decide))); have HRK8 := Aside0.mk (two_other (vk := .slice Aw2 m3.length cw2) (Kd.R_set HO7.out HGK7.out (by simp [Kd.int, Kd.scalar]) 0 (.slice Ad7 (m2.length + 1) cd7)) hgr hat); have HK8 := Aside0.mk (Keep.grown (Keep.set HK7.out HGK7.out (by decide) 0 (.slice Ad7 (m2.length + 1) cd7)) (Kd.R_set HRW7.out HGK7.out (by simp [Kd.int, Kd.scalar]) 0 (.slice Ad7 (m2.length + 1) cd7)) (by decide) hgr); have hfz8 := blk_frozen HGW8.out 0; have hcell8 := blk_cell HGW8.out 0; clear ho hb hgr hat))
                              go_ret
                              refine ⟨rfl, HB8.out.setCell HW0.out _, ⟨_, _, (Below.heap_setCell w8 ⟨bw, 0, none⟩ _ bk HNE.out).trans HGK8.out, blk_put HGW8.out 0 _ rfl, ?_, ?_⟩, (((Keep.refl [25] w).of_below HBW.out).trans HK8.out).set HGW8.out (by decide) 0 _⟩
                              · have h1 := Kd.R_set HRK8.out HGW8.out (by simp [Kd.int, Kd.scalar]) 0 (.slice Ad8 (m3.length + 1) cd8)
                                exact h1
                              · have h1 := Kd.R_set HO8.out HGW8.out (by simp [Kd.int, Kd.scalar]) 0 (.slice Ad8 (m3.length + 1) cd8)
                                exact h1
                          · rw [if_neg (fun h_ => cC h_.1)] at hx
                            have cC' : decide (y2 < cells) = false := decide_eq_false cC
                            clear cC
                            simp only [Option.some.injEq, Prod.mk.injEq] at hx
                            obtain ⟨rfl, rfl, rfl⟩ := hx
                            obtain ⟨vk2, vw2, hgk2, hgw2, hrk2, hrw2⟩ := HVa.out
                            obtain ⟨Ak2, ck2, ek2⟩ := Kd.R_slice hrk2
                            subst ek2
                            obtain ⟨Aw2, cw2, ew2⟩ := Kd.R_slice hrw2
                            subst ew2
                            have HGK2 := Aside0.mk hgk2
                            have HGW2 := Aside0.mk hgw2
                            have HRK2 := Aside0.mk hrk2
                            have HRW2 := Aside0.mk hrw2
                            have ckf := blk_cell hgk2 0
                            clear ck0 cw0
                            clear hgk2 hgw2 hrk2 hrw2
                            go_wp2_with (first | ((with_reducible refine gate_builtin (b := .append) (xs := #[.tmp 120, .tmp 122]) rfl ?_); at_builtin; refine Kd.R_append (Kd.int .i64) (w0 := W0) W0.heap.size rfl (.tmp 120) (.tmp 122) 28 3 (.int .i64 0) 8 rfl Tryd.underlying28 hi3 rfl (by decide) (by omega) (.slice Ak2 m2.length ck2) m2 v [.int .i64 v] (fun q => some q ≠ (Value.slice Aw2 m3.length cw2).ownBlock) (fun _ => False) rfl rfl ?aP (fun _ hk => hk.elim) ?aF ?aO ?aB ?aS ?aL ?_; (case aP => exact rfl); (case aF => exact fun q hq e1 => Nat.lt_irrefl _ (Nat.lt_of_lt_of_le (own_lt_R (by first | exact HRW2.out | exact Kd.R_below HRW2.out (pw_below_drewN (Below.refl _ _) _)) q e1.symm) hq)); (case aO => exact (by first | exact HRK2.out | exact Kd.R_below HRK2.out (pw_below_drewN (Below.refl _ _) _))); (case aB => exact (by first | exact below_step HBa.out (Below.refl _ _) | exact below_step HBa.out (below_drew1 (Below.refl _ _)) | exact below_step HBa.out (pw_below_drewN (Below.refl _ _) _) | exact below_step HBa.out (below_drew1 (pw_below_drewN (Below.refl _ _) _)))); (case aS => exact below_size (by first | exact below_step HBa.out (Below.refl _ _) | exact below_step HBa.out (below_drew1 (Below.refl _ _)) | exact below_step HBa.out (pw_below_drewN (Below.refl _ _) _) | exact below_step HBa.out (below_drew1 (pw_below_drewN (Below.refl _ _) _)))); (case aL => have := LM1.out; omega); intro v7 w7 ho hb hgr hat; obtain ⟨Ad7, cd7, ev7⟩ := Kd.R_slice ho; subst ev7; simp only [List.length_append, List.length_singleton] at ho hat; have HO7 := Aside0.mk ho; have HB7 := Aside0.mk hb; have HGK7 := Aside0.mk (blk_grown (by first | exact HGK2.out | exact blk_drewN HGK2.out _) hgr (Kd.R_ne (by first | exact HRK2.out | exact Kd.R_below HRK2.out (pw_below_drewN (Below.refl _ _) _)) (by first | exact HGK2.out | exact blk_drewN HGK2.out _) (by decide))); have HGW7 := Aside0.mk (blk_grown (by first | exact HGW2.out | exact blk_drewN HGW2.out _) hgr (Kd.R_ne (by first | exact HRK2.out | exact Kd.R_below HRK2.out (pw_below_drewN (Below.refl _ _) _)) (by first | exact HGW2.out | exact blk_drewN HGW2.out _) (by decide))); have HRW7 := Aside0.mk (two_other (by first | exact HRW2.out | exact Kd.R_below HRW2.out (pw_below_drewN (Below.refl _ _) _)) hgr hat); have HK7 := Aside0.mk (Keep.grown (by first | exact HKa.out | exact HKa.out.of_below (below_drew1 (Below.refl _ _)) | exact HKa.out.of_below (pw_below_drewN (Below.refl _ _) _) | exact HKa.out.of_below (below_drew1 (pw_below_drewN (Below.refl _ _) _))) (by first | exact HRK2.out | exact Kd.R_below HRK2.out (pw_below_drewN (Below.refl _ _) _)) (by decide) hgr); have hfz7 := blk_frozen HGK7.out 0; have hcell7 := blk_cell HGK7.out 0; have hcw7 : (w7.setCell ⟨bk, 0, none⟩ (.slice Ad7 (m2.length + 1) cd7)).cell? ⟨bw, 0, none⟩ = some (.slice Aw2 m3.length cw2) := blk_cell ((Below.heap_setCell w7 ⟨bk, 0, none⟩ _ bw (fun e1 => HNE.out e1.symm)).trans HGW7.out) 0; clear ho hb hgr hat) | ((with_reducible refine gate_builtin (b := .append) (xs := #[.tmp 128, .tmp 130]) rfl ?_); at_builtin; refine Kd.R_append (Kd.int .i64) (w0 := W0) W0.heap.size rfl (.tmp 128) (.tmp 130) 28 3 (.int .i64 0) 8 rfl Tryd.underlying28 hi3 rfl (by decide) (by omega) (.slice Aw2 m3.length cw2) m3 s1 [.int .i64 s1] (fun q => some q ≠ (Value.slice Ad7 (m2.length + 1) cd7).ownBlock) (fun _ => False) rfl (by first | rfl | (rw [Go.World.size_setCell]; rfl)) ?aP (fun _ hk => hk.elim) ?aF ?aO ?aB ?aS ?aL ?_; (case aP => exact rfl); (case aF => exact fun q hq e1 => Nat.lt_irrefl _ (Nat.lt_of_lt_of_le (own_lt_R (Kd.R_set HO7.out HGK7.out (by simp [Kd.int, Kd.scalar]) 0 (.slice Ad7 (m2.length + 1) cd7)) q e1.symm) hq)); (case aO => exact Kd.R_set HRW7.out HGK7.out (by simp [Kd.int, Kd.scalar]) 0 _); (case aB => exact HB7.out.setCell HK0.out _); (case aS => exact below_size (HB7.out.setCell HK0.out _)); (case aL => have := LM2.out; omega); intro v8 w8 ho hb hgr hat; obtain ⟨Ad8, cd8, ev8⟩ := Kd.R_slice ho; subst ev8; simp only [List.length_append, List.length_singleton] at ho hat; have HO8 := Aside0.mk ho; have HB8 := Aside0.mk hb; have HGW8 := Aside0.mk (blk_grown ((Below.heap_setCell w7 ⟨bk, 0, none⟩ (.slice Ad7 (m2.length + 1) cd7) bw (fun e1 => HNE.out e1.symm)).trans HGW7.out) hgr (Kd.R_ne (Kd.R_set HRW7.out HGK7.out (by simp [Kd.int, Kd.scalar]) 0 (.slice Ad7 (m2.length + 1) cd7)) ((Below.heap_setCell w7 ⟨bk, 0, none⟩ (.slice Ad7 (m2.length + 1) cd7) bw (fun e1 => HNE.out e1.symm)).trans HGW7.out) (by decide))); have HGK8 := Aside0.mk (blk_grown (blk_put HGK7.out 0 (.slice Ad7 (m2.length + 1) cd7) rfl) hgr (Kd.R_ne (Kd.R_set HRW7.out HGK7.out (by simp [Kd.int, Kd.scalar]) 0 (.slice Ad7 (m2.length + 1) cd7)) (blk_put HGK7.out 0 (.slice Ad7 (m2.length + 1) cd7) rfl) (by decide))); have HRK8 := Aside0.mk (two_other (vk := .slice Aw2 m3.length cw2) (Kd.R_set HO7.out HGK7.out (by simp [Kd.int, Kd.scalar]) 0 (.slice Ad7 (m2.length + 1) cd7)) hgr hat); have HK8 := Aside0.mk (Keep.grown (Keep.set HK7.out HGK7.out (by decide) 0 (.slice Ad7 (m2.length + 1) cd7)) (Kd.R_set HRW7.out HGK7.out (by simp [Kd.int, Kd.scalar]) 0 (.slice Ad7 (m2.length + 1) cd7)) (by decide) hgr); have hfz8 := blk_frozen HGW8.out 0; have hcell8 := blk_cell HGW8.out 0; clear ho hb hgr hat))
                            go_ret
                            refine ⟨rfl, HB8.out.setCell HW0.out _, ⟨_, _, (Below.heap_setCell w8 ⟨bw, 0, none⟩ _ bk HNE.out).trans HGK8.out, blk_put HGW8.out 0 _ rfl, ?_, ?_⟩, (((Keep.refl [25] w).of_below HBW.out).trans HK8.out).set HGW8.out (by decide) 0 _⟩
                            · have h1 := Kd.R_set HRK8.out HGW8.out (by simp [Kd.int, Kd.scalar]) 0 (.slice Ad8 (m3.length + 1) cd8)
                              exact h1
                            · have h1 := Kd.R_set HO8.out HGW8.out (by simp [Kd.int, Kd.scalar]) 0 (.slice Ad8 (m3.length + 1) cd8)
                              exact h1
                        · rw [if_neg (fun h_ => cB h_.2)] at hz
                          have cB' : (Int.tmod su 2 == 0) = false := beq_eq_false_iff_ne.mpr cB
                          clear cA cB
                          simp only [Option.some.injEq, Prod.mk.injEq] at hz
                          obtain ⟨rfl, rfl, rfl⟩ := hz
                          go_quiet (fail)
                          by_cases cC : y2 < cells
                          · have cC' : decide (y2 < cells) = true := decide_eq_true cC
                            by_cases cD : Int.tmod sy 2 = 0
                            · rw [if_pos ⟨cC, cD⟩] at hx
                              have cD' : (Int.tmod sy 2 == 0) = true := beq_iff_eq.mpr cD
                              clear cC cD
                              obtain ⟨⟨n1, n2, n3⟩, hf2, hx⟩ := Option.bind_eq_some_iff.mp hx
                              simp only [Option.some.injEq, Prod.mk.injEq] at hx
                              obtain ⟨hx1, rfl, rfl⟩ := hx
                              have HF2 := Aside0.mk hf2
                              clear hf2
                              obtain ⟨s2, hs2⟩ : ∃ c_ : Int, c_ = wrap64 (0 + n1) := ⟨_, rfl⟩
                              have hs2w : wrap64 (0 + n1) = s2 := hs2.symm
                              have hs2v : IntKind.i64.wrap (0 + n1) = s2 := by rw [i64_w]; exact hs2.symm
                              have HWFs2 : Aside0 ((Lit.int .i64 s2).wf = true) := ⟨by rw [hs2]; exact wf_wrapW _⟩
                              have hs2z : wrap64 n1 = s2 := by rw [hs2, Int.zero_add]
                              have hs2y : IntKind.i64.wrap n1 = s2 := by rw [i64_w]; exact hs2z
                              rw [← hs2] at hx1
                              subst hx1
                              clear hs2
                              go_wp2_with fail
                              refine start_ (n := 17) (S := fun w' => w'.cell? ⟨w.heap.size, 0, none⟩ = some (.int .i64 a0) ∧ w'.cell? ⟨w.heap.size, 1, none⟩ = some (.int .i64 a1) ∧ w'.cell? ⟨w.heap.size, 2, none⟩ = some (.int .i64 a2)) (ds := []) #[false, false, false, false, false, false, false, false, false, false, false, false, false, false, false, false, false] (by kernel_rfl) rfl rfl ⟨blk_cell HGz.out 0, blk_cell HGz.out 1, blk_cell HGz.out 2⟩ (fun hHeld => ?_); refine with_tabW spec_l14Ways.tab16 spec_l14Ways.bits16 (fun HT_ HW_ => ?_)
                              refine pure_ (i := 0) (N := some 101) (v := ?_) (a' := ?_) #[true, false, false, false, false, false, false, false, false, false, false, false, false, false, false, false, false] rfl rfl (any_of HT_.out (by kernel_rfl)) (fun _ _ _ h => h) (Or.inl ⟨by rfl, ?_⟩) ?_ ?_
                              rotate_left
                              · intro w'
                                go_simp
                                with_reducible rfl
                              rotate_left
                              · simp only [Act.put, List.setIfInBounds_toArray, List.set_cons_zero, List.set_cons_succ, i64_w, i32_w]
                                rfl
                              refine take_ (i := 1) (N := some 102) (v := ?_) (a' := ?_) #[true, true, false, false, false, false, false, false, false, false, false, false, false, false, false, false, false] rfl rfl (take_ofW HT_.out HW_.out (by kernel_rfl)) (fun _ _ _ h => h) (Or.inl ⟨by rfl, ?_⟩) hHeld ?_ ?_
                              rotate_left
                              · rintro w' ⟨s0, s1, s2⟩
                                go_simp
                                with_reducible rfl
                              rotate_left
                              · simp only [Act.put, List.setIfInBounds_toArray, List.set_cons_zero, List.set_cons_succ, i64_w, i32_w]
                                rfl
                              refine pure_ (i := 2) (N := some 103) (v := ?_) (a' := ?_) #[true, true, true, false, false, false, false, false, false, false, false, false, false, false, false, false, false] rfl rfl (any_of HT_.out (by kernel_rfl)) (fun _ _ _ h => h) (Or.inl ⟨by rfl, ?_⟩) ?_ ?_
                              rotate_left
                              · intro w'
                                go_simp
                                with_reducible rfl
                              rotate_left
                              · simp only [Act.put, List.setIfInBounds_toArray, List.set_cons_zero, List.set_cons_succ, i64_w, i32_w]
                                rfl
                              refine pure_ (i := 3) (N := some 104) (v := ?_) (a' := ?_) #[true, true, true, true, false, false, false, false, false, false, false, false, false, false, false, false, false] rfl rfl (any_of HT_.out (by kernel_rfl)) (fun _ _ _ h => h) (Or.inl ⟨by rfl, ?_⟩) ?_ ?_
                              rotate_left
                              · intro w'
                                go_simp
                                with_reducible rfl
                              rotate_left
                              · simp only [Act.put, List.setIfInBounds_toArray, List.set_cons_zero, List.set_cons_succ, i64_w, i32_w]
                                rfl
                              refine pure_ (i := 4) (N := some 105) (v := ?_) (a' := ?_) #[true, true, true, true, true, false, false, false, false, false, false, false, false, false, false, false, false] rfl rfl (any_of HT_.out (by kernel_rfl)) (fun _ _ _ h => h) (Or.inl ⟨by rfl, ?_⟩) ?_ ?_
                              rotate_left
                              · intro w'
                                go_simp
                                with_reducible rfl
                              rotate_left
                              · simp only [Act.put, List.setIfInBounds_toArray, List.set_cons_zero, List.set_cons_succ, i64_w, i32_w]
                                rfl
                              refine pure_ (i := 5) (N := some 106) (v := ?_) (a' := ?_) #[true, true, true, true, true, true, false, false, false, false, false, false, false, false, false, false, false] rfl rfl (any_of HT_.out (by kernel_rfl)) (fun _ _ _ h => h) (Or.inl ⟨by rfl, ?_⟩) ?_ ?_
                              rotate_left
                              · intro w'
                                go_simp
                                with_reducible rfl
                              rotate_left
                              · simp only [Act.put, List.setIfInBounds_toArray, List.set_cons_zero, List.set_cons_succ, i64_w, i32_w]
                                rfl
                              refine pure_ (i := 6) (N := some 107) (v := ?_) (a' := ?_) #[true, true, true, true, true, true, true, false, false, false, false, false, false, false, false, false, false] rfl rfl (any_of HT_.out (by kernel_rfl)) (fun _ _ _ h => h) (Or.inl ⟨by rfl, ?_⟩) ?_ ?_
                              rotate_left
                              · intro w'
                                go_simp
                                with_reducible rfl
                              rotate_left
                              · simp only [Act.put, List.setIfInBounds_toArray, List.set_cons_zero, List.set_cons_succ, i64_w, i32_w]
                                rfl
                              refine pure_ (i := 7) (N := some 108) (v := ?_) (a' := ?_) #[true, true, true, true, true, true, true, true, false, false, false, false, false, false, false, false, false] rfl rfl (any_of HT_.out (by kernel_rfl)) (fun _ _ _ h => h) (Or.inl ⟨by rfl, ?_⟩) ?_ ?_
                              rotate_left
                              · intro w'
                                go_simp
                                with_reducible rfl
                              rotate_left
                              · simp only [Act.put, List.setIfInBounds_toArray, List.set_cons_zero, List.set_cons_succ, i64_w, i32_w]
                                rfl
                              refine take_ (i := 8) (N := some 109) (v := ?_) (a' := ?_) #[true, true, true, true, true, true, true, true, true, false, false, false, false, false, false, false, false] rfl rfl (take_ofW HT_.out HW_.out (by kernel_rfl)) (fun _ _ _ h => h) (Or.inl ⟨by rfl, ?_⟩) hHeld ?_ ?_
                              rotate_left
                              · rintro w' ⟨s0, s1, s2⟩
                                go_simp
                                with_reducible rfl
                              rotate_left
                              · simp only [Act.put, List.setIfInBounds_toArray, List.set_cons_zero, List.set_cons_succ, i64_w, i32_w]
                                rfl
                              refine pure_ (i := 9) (N := some 110) (v := ?_) (a' := ?_) #[true, true, true, true, true, true, true, true, true, true, false, false, false, false, false, false, false] rfl rfl (any_of HT_.out (by kernel_rfl)) (fun _ _ _ h => h) (Or.inl ⟨by rfl, ?_⟩) ?_ ?_
                              rotate_left
                              · intro w'
                                go_simp
                                with_reducible rfl
                              rotate_left
                              · simp only [Act.put, List.setIfInBounds_toArray, List.set_cons_zero, List.set_cons_succ, i64_w, i32_w]
                                rfl
                              refine pure_ (i := 10) (N := some 111) (v := ?_) (a' := ?_) #[true, true, true, true, true, true, true, true, true, true, true, false, false, false, false, false, false] rfl rfl (any_of HT_.out (by kernel_rfl)) (fun _ _ _ h => h) (Or.inl ⟨by rfl, ?_⟩) ?_ ?_
                              rotate_left
                              · intro w'
                                go_simp
                                with_reducible rfl
                              rotate_left
                              · simp only [Act.put, List.setIfInBounds_toArray, List.set_cons_zero, List.set_cons_succ, i64_w, i32_w]
                                rfl
                              refine pure_ (i := 11) (N := some 112) (v := ?_) (a' := ?_) #[true, true, true, true, true, true, true, true, true, true, true, true, false, false, false, false, false] rfl rfl (any_of HT_.out (by kernel_rfl)) (fun _ _ _ h => h) (Or.inl ⟨by rfl, ?_⟩) ?_ ?_
                              rotate_left
                              · intro w'
                                go_simp
                                with_reducible rfl
                              rotate_left
                              · simp only [Act.put, List.setIfInBounds_toArray, List.set_cons_zero, List.set_cons_succ, i64_w, i32_w]
                                rfl
                              refine pure_ (i := 12) (N := some 113) (v := ?_) (a' := ?_) #[true, true, true, true, true, true, true, true, true, true, true, true, true, false, false, false, false] rfl rfl (any_of HT_.out (by kernel_rfl)) (fun _ _ _ h => h) (Or.inl ⟨by rfl, ?_⟩) ?_ ?_
                              rotate_left
                              · intro w'
                                go_simp
                                with_reducible rfl
                              rotate_left
                              · simp only [Act.put, List.setIfInBounds_toArray, List.set_cons_zero, List.set_cons_succ, i64_w, i32_w]
                                rfl
                              refine pure_ (i := 13) (N := some 114) (v := ?_) (a' := ?_) #[true, true, true, true, true, true, true, true, true, true, true, true, true, true, false, false, false] rfl rfl (any_of HT_.out (by kernel_rfl)) (fun _ _ _ h => h) (Or.inl ⟨by rfl, ?_⟩) ?_ ?_
                              rotate_left
                              · intro w'
                                go_simp
                                with_reducible rfl
                              rotate_left
                              · simp only [Act.put, List.setIfInBounds_toArray, List.set_cons_zero, List.set_cons_succ, i64_w, i32_w]
                                rfl
                              refine one_ (i := 14) (N := some 115) #[true, true, true, true, true, true, true, true, true, true, true, true, true, true, true, false, false] rfl rfl (one_of HT_.out (by kernel_rfl)) (by decide) (fun K hK => ?_)
                              refine call_ 24 #[.agg #[.int .i64 a0, .int .i64 a1, .int .i64 a2], .int .i64 (Go.bits .or .i64 (Go.bits .or .i64 v jt) jy), .pointer (some ⟨bk, 0, none⟩), .pointer (some ⟨bw, 0, none⟩)] (by rfl) rfl ?_ ?_
                              · first | (go_simp; done) | (go_simp; rfl)
                              refine (HIH.out _ ks ns n1 n2 n3 _ (by first | exact below_step HBz.out (Below.refl _ _) | exact below_step HBz.out (below_drew1 (Below.refl _ _)) | exact below_step HBz.out (pw_below_drewN (Below.refl _ _) _) | exact below_step HBz.out (below_drew1 (pw_below_drewN (Below.refl _ _) _))) (by first | exact HVz.out | exact HVz.out.below (below_drew1 (Below.refl _ _)) | exact HVz.out.below (pw_below_drewN (Below.refl _ _) _) | exact HVz.out.below (below_drew1 (pw_below_drewN (Below.refl _ _) _))) HF2.out).mono ?_
                              rintro e wcB ⟨rfl, hd1, hd2, hd3⟩
                              have HBb := Aside0.mk hd1
                              have HVb := Aside0.mk hd2
                              have HKb := Aside0.mk (Keep.trans (by first | exact HKp1.out | exact HKp1.out.of_below (below_drew1 (Below.refl _ _)) | exact HKp1.out.of_below (pw_below_drewN (Below.refl _ _) _) | exact HKp1.out.of_below (below_drew1 (pw_below_drewN (Below.refl _ _) _))) hd3)
                              have HXb := Aside0.mk ((HKb.out.2 _ 25 _ (by decide) HGB.out).trans HGB.out)
                              have cxb : wcB.cell? ⟨w.heap.size, 1, none⟩ = some (.int .i64 a1) := blk_cell HXb.out 1
                              have cyb : wcB.cell? ⟨w.heap.size, 0, none⟩ = some (.int .i64 a0) := blk_cell HXb.out 0
                              have czb : wcB.cell? ⟨w.heap.size, 2, none⟩ = some (.int .i64 a2) := blk_cell HXb.out 2
                              clear hd1 hd2 hd3
                              refine ⟨_, rfl, ?_⟩
                              refine hK.out _ _ ⟨cyb, cxb, czb⟩ (fun hHeld => ?_)
                              clear hK K
                              refine norm_ (a' := ?_) ?_ ?_
                              rotate_left
                              · show Act.put _ (some 115) _ = _
                                simp only [Act.put, List.setIfInBounds_toArray, List.set_cons_zero, List.set_cons_succ, i64_w, i32_w]
                                rfl
                              refine pure_ (i := 15) (N := some 116) (v := ?_) (a' := ?_) #[true, true, true, true, true, true, true, true, true, true, true, true, true, true, true, true, false] rfl rfl (any_of HT_.out (by kernel_rfl)) (fun _ _ _ h => h) (Or.inl ⟨by rfl, ?_⟩) ?_ ?_
                              rotate_left
                              · intro w'
                                go_simp
                                with_reducible rfl
                              rotate_left
                              · simp only [Act.put, List.setIfInBounds_toArray, List.set_cons_zero, List.set_cons_succ, i64_w, i32_w]
                                rfl
                              refine pure_ (i := 16) (N := some 12) (v := ?_) (a' := ?_) #[true, true, true, true, true, true, true, true, true, true, true, true, true, true, true, true, true] rfl rfl (any_of HT_.out (by kernel_rfl)) (fun _ _ _ h => h) (Or.inl ⟨by rfl, ?_⟩) ?_ ?_
                              rotate_left
                              · intro w'
                                go_simp
                                with_reducible rfl
                              rotate_left
                              · simp only [Act.put, List.setIfInBounds_toArray, List.set_cons_zero, List.set_cons_succ, i64_w, i32_w]
                                rfl
                              refine done_ (done_of HT_.out (by kernel_rfl)) ?_
                              obtain ⟨vk2, vw2, hgk2, hgw2, hrk2, hrw2⟩ := HVb.out
                              obtain ⟨Ak2, ck2, ek2⟩ := Kd.R_slice hrk2
                              subst ek2
                              obtain ⟨Aw2, cw2, ew2⟩ := Kd.R_slice hrw2
                              subst ew2
                              have HGK2 := Aside0.mk hgk2
                              have HGW2 := Aside0.mk hgw2
                              have HRK2 := Aside0.mk hrk2
                              have HRW2 := Aside0.mk hrw2
                              have ckf := blk_cell hgk2 0
                              clear ck0 cw0
                              clear hgk2 hgw2 hrk2 hrw2
                              go_wp2_with (first | ((with_reducible refine gate_builtin (b := .append) (xs := #[.tmp 120, .tmp 122]) rfl ?_); at_builtin; refine Kd.R_append (Kd.int .i64) (w0 := W0) W0.heap.size rfl (.tmp 120) (.tmp 122) 28 3 (.int .i64 0) 8 rfl Tryd.underlying28 hi3 rfl (by decide) (by omega) (.slice Ak2 n2.length ck2) n2 v [.int .i64 v] (fun q => some q ≠ (Value.slice Aw2 n3.length cw2).ownBlock) (fun _ => False) rfl rfl ?aP (fun _ hk => hk.elim) ?aF ?aO ?aB ?aS ?aL ?_; (case aP => exact rfl); (case aF => exact fun q hq e1 => Nat.lt_irrefl _ (Nat.lt_of_lt_of_le (own_lt_R (by first | exact HRW2.out | exact Kd.R_below HRW2.out (pw_below_drewN (Below.refl _ _) _)) q e1.symm) hq)); (case aO => exact (by first | exact HRK2.out | exact Kd.R_below HRK2.out (pw_below_drewN (Below.refl _ _) _))); (case aB => exact (by first | exact below_step HBb.out (Below.refl _ _) | exact below_step HBb.out (below_drew1 (Below.refl _ _)) | exact below_step HBb.out (pw_below_drewN (Below.refl _ _) _) | exact below_step HBb.out (below_drew1 (pw_below_drewN (Below.refl _ _) _)))); (case aS => exact below_size (by first | exact below_step HBb.out (Below.refl _ _) | exact below_step HBb.out (below_drew1 (Below.refl _ _)) | exact below_step HBb.out (pw_below_drewN (Below.refl _ _) _) | exact below_step HBb.out (below_drew1 (pw_below_drewN (Below.refl _ _) _)))); (case aL => have := LM1.out; omega); intro v7 w7 ho hb hgr hat; obtain ⟨Ad7, cd7, ev7⟩ := Kd.R_slice ho; subst ev7; simp only [List.length_append, List.length_singleton] at ho hat; have HO7 := Aside0.mk ho; have HB7 := Aside0.mk hb; have HGK7 := Aside0.mk (blk_grown (by first | exact HGK2.out | exact blk_drewN HGK2.out _) hgr (Kd.R_ne (by first | exact HRK2.out | exact Kd.R_below HRK2.out (pw_below_drewN (Below.refl _ _) _)) (by first | exact HGK2.out | exact blk_drewN HGK2.out _) (by decide))); have HGW7 := Aside0.mk (blk_grown (by first | exact HGW2.out | exact blk_drewN HGW2.out _) hgr (Kd.R_ne (by first | exact HRK2.out | exact Kd.R_below HRK2.out (pw_below_drewN (Below.refl _ _) _)) (by first | exact HGW2.out | exact blk_drewN HGW2.out _) (by decide))); have HRW7 := Aside0.mk (two_other (by first | exact HRW2.out | exact Kd.R_below HRW2.out (pw_below_drewN (Below.refl _ _) _)) hgr hat); have HK7 := Aside0.mk (Keep.grown (by first | exact HKb.out | exact HKb.out.of_below (below_drew1 (Below.refl _ _)) | exact HKb.out.of_below (pw_below_drewN (Below.refl _ _) _) | exact HKb.out.of_below (below_drew1 (pw_below_drewN (Below.refl _ _) _))) (by first | exact HRK2.out | exact Kd.R_below HRK2.out (pw_below_drewN (Below.refl _ _) _)) (by decide) hgr); have hfz7 := blk_frozen HGK7.out 0; have hcell7 := blk_cell HGK7.out 0; have hcw7 : (w7.setCell ⟨bk, 0, none⟩ (.slice Ad7 (n2.length + 1) cd7)).cell? ⟨bw, 0, none⟩ = some (.slice Aw2 n3.length cw2) := blk_cell ((Below.heap_setCell w7 ⟨bk, 0, none⟩ _ bw (fun e1 => HNE.out e1.symm)).trans HGW7.out) 0; clear ho hb hgr hat) | ((with_reducible refine gate_builtin (b := .append) (xs := #[.tmp 128, .tmp 130]) rfl ?_); at_builtin; refine Kd.R_append (Kd.int .i64) (w0 := W0) W0.heap.size rfl (.tmp 128) (.tmp 130) 28 3 (.int .i64 0) 8 rfl Tryd.underlying28 hi3 rfl (by decide) (by omega) (.slice Aw2 n3.length cw2) n3 s2 [.int .i64 s2] (fun q => some q ≠ (Value.slice Ad7 (n2.length + 1) cd7).ownBlock) (fun _ => False) rfl (by first | rfl | (rw [Go.World.size_setCell]; rfl)) ?aP (fun _ hk => hk.elim) ?aF ?aO ?aB ?aS ?aL ?_; (case aP => exact rfl); (case aF => exact fun q hq e1 => Nat.lt_irrefl _ (Nat.lt_of_lt_of_le (own_lt_R (Kd.R_set HO7.out HGK7.out (by simp [Kd.int, Kd.scalar]) 0 (.slice Ad7 (n2.length + 1) cd7)) q e1.symm) hq)); (case aO => exact Kd.R_set HRW7.out HGK7.out (by simp [Kd.int, Kd.scalar]) 0 _); (case aB => exact HB7.out.setCell HK0.out _); (case aS => exact below_size (HB7.out.setCell HK0.out _)); (case aL => have := LM2.out; omega); intro v8 w8 ho hb hgr hat; obtain ⟨Ad8, cd8, ev8⟩ := Kd.R_slice ho; subst ev8; simp only [List.length_append, List.length_singleton] at ho hat; have HO8 := Aside0.mk ho; have HB8 := Aside0.mk hb; have HGW8 := Aside0.mk (blk_grown ((Below.heap_setCell w7 ⟨bk, 0, none⟩ (.slice Ad7 (n2.length + 1) cd7) bw (fun e1 => HNE.out e1.symm)).trans HGW7.out) hgr (Kd.R_ne (Kd.R_set HRW7.out HGK7.out (by simp [Kd.int, Kd.scalar]) 0 (.slice Ad7 (n2.length + 1) cd7)) ((Below.heap_setCell w7 ⟨bk, 0, none⟩ (.slice Ad7 (n2.length + 1) cd7) bw (fun e1 => HNE.out e1.symm)).trans HGW7.out) (by decide))); have HGK8 := Aside0.mk (blk_grown (blk_put HGK7.out 0 (.slice Ad7 (n2.length + 1) cd7) rfl) hgr (Kd.R_ne (Kd.R_set HRW7.out HGK7.out (by simp [Kd.int, Kd.scalar]) 0 (.slice Ad7 (n2.length + 1) cd7)) (blk_put HGK7.out 0 (.slice Ad7 (n2.length + 1) cd7) rfl) (by decide))); have HRK8 := Aside0.mk (two_other (vk := .slice Aw2 n3.length cw2) (Kd.R_set HO7.out HGK7.out (by simp [Kd.int, Kd.scalar]) 0 (.slice Ad7 (n2.length + 1) cd7)) hgr hat); have HK8 := Aside0.mk (Keep.grown (Keep.set HK7.out HGK7.out (by decide) 0 (.slice Ad7 (n2.length + 1) cd7)) (Kd.R_set HRW7.out HGK7.out (by simp [Kd.int, Kd.scalar]) 0 (.slice Ad7 (n2.length + 1) cd7)) (by decide) hgr); have hfz8 := blk_frozen HGW8.out 0; have hcell8 := blk_cell HGW8.out 0; clear ho hb hgr hat))
                              go_ret
                              refine ⟨rfl, HB8.out.setCell HW0.out _, ⟨_, _, (Below.heap_setCell w8 ⟨bw, 0, none⟩ _ bk HNE.out).trans HGK8.out, blk_put HGW8.out 0 _ rfl, ?_, ?_⟩, (((Keep.refl [25] w).of_below HBW.out).trans HK8.out).set HGW8.out (by decide) 0 _⟩
                              · have h1 := Kd.R_set HRK8.out HGW8.out (by simp [Kd.int, Kd.scalar]) 0 (.slice Ad8 (n3.length + 1) cd8)
                                exact h1
                              · have h1 := Kd.R_set HO8.out HGW8.out (by simp [Kd.int, Kd.scalar]) 0 (.slice Ad8 (n3.length + 1) cd8)
                                exact h1
                            · rw [if_neg (fun h_ => cD h_.2)] at hx
                              have cD' : (Int.tmod sy 2 == 0) = false := beq_eq_false_iff_ne.mpr cD
                              clear cC cD
                              simp only [Option.some.injEq, Prod.mk.injEq] at hx
                              obtain ⟨rfl, rfl, rfl⟩ := hx
                              obtain ⟨vk2, vw2, hgk2, hgw2, hrk2, hrw2⟩ := HVz.out
                              obtain ⟨Ak2, ck2, ek2⟩ := Kd.R_slice hrk2
                              subst ek2
                              obtain ⟨Aw2, cw2, ew2⟩ := Kd.R_slice hrw2
                              subst ew2
                              have HGK2 := Aside0.mk hgk2
                              have HGW2 := Aside0.mk hgw2
                              have HRK2 := Aside0.mk hrk2
                              have HRW2 := Aside0.mk hrw2
                              have ckf := blk_cell hgk2 0
                              clear ck0 cw0
                              clear hgk2 hgw2 hrk2 hrw2
                              go_wp2_with (first | ((with_reducible refine gate_builtin (b := .append) (xs := #[.tmp 120, .tmp 122]) rfl ?_); at_builtin; refine Kd.R_append (Kd.int .i64) (w0 := W0) W0.heap.size rfl (.tmp 120) (.tmp 122) 28 3 (.int .i64 0) 8 rfl Tryd.underlying28 hi3 rfl (by decide) (by omega) (.slice Ak2 ks.length ck2) ks v [.int .i64 v] (fun q => some q ≠ (Value.slice Aw2 ns.length cw2).ownBlock) (fun _ => False) rfl rfl ?aP (fun _ hk => hk.elim) ?aF ?aO ?aB ?aS ?aL ?_; (case aP => exact rfl); (case aF => exact fun q hq e1 => Nat.lt_irrefl _ (Nat.lt_of_lt_of_le (own_lt_R (by first | exact HRW2.out | exact Kd.R_below HRW2.out (pw_below_drewN (Below.refl _ _) _)) q e1.symm) hq)); (case aO => exact (by first | exact HRK2.out | exact Kd.R_below HRK2.out (pw_below_drewN (Below.refl _ _) _))); (case aB => exact (by first | exact below_step HBz.out (Below.refl _ _) | exact below_step HBz.out (below_drew1 (Below.refl _ _)) | exact below_step HBz.out (pw_below_drewN (Below.refl _ _) _) | exact below_step HBz.out (below_drew1 (pw_below_drewN (Below.refl _ _) _)))); (case aS => exact below_size (by first | exact below_step HBz.out (Below.refl _ _) | exact below_step HBz.out (below_drew1 (Below.refl _ _)) | exact below_step HBz.out (pw_below_drewN (Below.refl _ _) _) | exact below_step HBz.out (below_drew1 (pw_below_drewN (Below.refl _ _) _)))); (case aL => have := LM1.out; omega); intro v7 w7 ho hb hgr hat; obtain ⟨Ad7, cd7, ev7⟩ := Kd.R_slice ho; subst ev7; simp only [List.length_append, List.length_singleton] at ho hat; have HO7 := Aside0.mk ho; have HB7 := Aside0.mk hb; have HGK7 := Aside0.mk (blk_grown (by first | exact HGK2.out | exact blk_drewN HGK2.out _) hgr (Kd.R_ne (by first | exact HRK2.out | exact Kd.R_below HRK2.out (pw_below_drewN (Below.refl _ _) _)) (by first | exact HGK2.out | exact blk_drewN HGK2.out _) (by decide))); have HGW7 := Aside0.mk (blk_grown (by first | exact HGW2.out | exact blk_drewN HGW2.out _) hgr (Kd.R_ne (by first | exact HRK2.out | exact Kd.R_below HRK2.out (pw_below_drewN (Below.refl _ _) _)) (by first | exact HGW2.out | exact blk_drewN HGW2.out _) (by decide))); have HRW7 := Aside0.mk (two_other (by first | exact HRW2.out | exact Kd.R_below HRW2.out (pw_below_drewN (Below.refl _ _) _)) hgr hat); have HK7 := Aside0.mk (Keep.grown (by first | exact HKp1.out | exact HKp1.out.of_below (below_drew1 (Below.refl _ _)) | exact HKp1.out.of_below (pw_below_drewN (Below.refl _ _) _) | exact HKp1.out.of_below (below_drew1 (pw_below_drewN (Below.refl _ _) _))) (by first | exact HRK2.out | exact Kd.R_below HRK2.out (pw_below_drewN (Below.refl _ _) _)) (by decide) hgr); have hfz7 := blk_frozen HGK7.out 0; have hcell7 := blk_cell HGK7.out 0; have hcw7 : (w7.setCell ⟨bk, 0, none⟩ (.slice Ad7 (ks.length + 1) cd7)).cell? ⟨bw, 0, none⟩ = some (.slice Aw2 ns.length cw2) := blk_cell ((Below.heap_setCell w7 ⟨bk, 0, none⟩ _ bw (fun e1 => HNE.out e1.symm)).trans HGW7.out) 0; clear ho hb hgr hat) | ((with_reducible refine gate_builtin (b := .append) (xs := #[.tmp 128, .tmp 130]) rfl ?_); at_builtin; refine Kd.R_append (Kd.int .i64) (w0 := W0) W0.heap.size rfl (.tmp 128) (.tmp 130) 28 3 (.int .i64 0) 8 rfl Tryd.underlying28 hi3 rfl (by decide) (by omega) (.slice Aw2 ns.length cw2) ns 0 [.int .i64 0] (fun q => some q ≠ (Value.slice Ad7 (ks.length + 1) cd7).ownBlock) (fun _ => False) rfl (by first | rfl | (rw [Go.World.size_setCell]; rfl)) ?aP (fun _ hk => hk.elim) ?aF ?aO ?aB ?aS ?aL ?_; (case aP => exact rfl); (case aF => exact fun q hq e1 => Nat.lt_irrefl _ (Nat.lt_of_lt_of_le (own_lt_R (Kd.R_set HO7.out HGK7.out (by simp [Kd.int, Kd.scalar]) 0 (.slice Ad7 (ks.length + 1) cd7)) q e1.symm) hq)); (case aO => exact Kd.R_set HRW7.out HGK7.out (by simp [Kd.int, Kd.scalar]) 0 _); (case aB => exact HB7.out.setCell HK0.out _); (case aS => exact below_size (HB7.out.setCell HK0.out _)); (case aL => have := LM2.out; omega); intro v8 w8 ho hb hgr hat; obtain ⟨Ad8, cd8, ev8⟩ := Kd.R_slice ho; subst ev8; simp only [List.length_append, List.length_singleton] at ho hat; have HO8 := Aside0.mk ho; have HB8 := Aside0.mk hb; have HGW8 := Aside0.mk (blk_grown ((Below.heap_setCell w7 ⟨bk, 0, none⟩ (.slice Ad7 (ks.length + 1) cd7) bw (fun e1 => HNE.out e1.symm)).trans HGW7.out) hgr (Kd.R_ne (Kd.R_set HRW7.out HGK7.out (by simp [Kd.int, Kd.scalar]) 0 (.slice Ad7 (ks.length + 1) cd7)) ((Below.heap_setCell w7 ⟨bk, 0, none⟩ (.slice Ad7 (ks.length + 1) cd7) bw (fun e1 => HNE.out e1.symm)).trans HGW7.out) (by decide))); have HGK8 := Aside0.mk (blk_grown (blk_put HGK7.out 0 (.slice Ad7 (ks.length + 1) cd7) rfl) hgr (Kd.R_ne (Kd.R_set HRW7.out HGK7.out (by simp [Kd.int, Kd.scalar]) 0 (.slice Ad7 (ks.length + 1) cd7)) (blk_put HGK7.out 0 (.slice Ad7 (ks.length + 1) cd7) rfl) (by decide))); have HRK8 := Aside0.mk (two_other (vk := .slice Aw2 ns.length cw2) (Kd.R_set HO7.out HGK7.out (by simp [Kd.int, Kd.scalar]) 0 (.slice Ad7 (ks.length + 1) cd7)) hgr hat); have HK8 := Aside0.mk (Keep.grown (Keep.set HK7.out HGK7.out (by decide) 0 (.slice Ad7 (ks.length + 1) cd7)) (Kd.R_set HRW7.out HGK7.out (by simp [Kd.int, Kd.scalar]) 0 (.slice Ad7 (ks.length + 1) cd7)) (by decide) hgr); have hfz8 := blk_frozen HGW8.out 0; have hcell8 := blk_cell HGW8.out 0; clear ho hb hgr hat))
                              go_ret
                              refine ⟨rfl, HB8.out.setCell HW0.out _, ⟨_, _, (Below.heap_setCell w8 ⟨bw, 0, none⟩ _ bk HNE.out).trans HGK8.out, blk_put HGW8.out 0 _ rfl, ?_, ?_⟩, (((Keep.refl [25] w).of_below HBW.out).trans HK8.out).set HGW8.out (by decide) 0 _⟩
                              · have h1 := Kd.R_set HRK8.out HGW8.out (by simp [Kd.int, Kd.scalar]) 0 (.slice Ad8 (ns.length + 1) cd8)
                                exact h1
                              · have h1 := Kd.R_set HO8.out HGW8.out (by simp [Kd.int, Kd.scalar]) 0 (.slice Ad8 (ns.length + 1) cd8)
                                exact h1
                          · rw [if_neg (fun h_ => cC h_.1)] at hx
                            have cC' : decide (y2 < cells) = false := decide_eq_false cC
                            clear cC
                            simp only [Option.some.injEq, Prod.mk.injEq] at hx
                            obtain ⟨rfl, rfl, rfl⟩ := hx
                            obtain ⟨vk2, vw2, hgk2, hgw2, hrk2, hrw2⟩ := HVz.out
                            obtain ⟨Ak2, ck2, ek2⟩ := Kd.R_slice hrk2
                            subst ek2
                            obtain ⟨Aw2, cw2, ew2⟩ := Kd.R_slice hrw2
                            subst ew2
                            have HGK2 := Aside0.mk hgk2
                            have HGW2 := Aside0.mk hgw2
                            have HRK2 := Aside0.mk hrk2
                            have HRW2 := Aside0.mk hrw2
                            have ckf := blk_cell hgk2 0
                            clear ck0 cw0
                            clear hgk2 hgw2 hrk2 hrw2
                            go_wp2_with (first | ((with_reducible refine gate_builtin (b := .append) (xs := #[.tmp 120, .tmp 122]) rfl ?_); at_builtin; refine Kd.R_append (Kd.int .i64) (w0 := W0) W0.heap.size rfl (.tmp 120) (.tmp 122) 28 3 (.int .i64 0) 8 rfl Tryd.underlying28 hi3 rfl (by decide) (by omega) (.slice Ak2 ks.length ck2) ks v [.int .i64 v] (fun q => some q ≠ (Value.slice Aw2 ns.length cw2).ownBlock) (fun _ => False) rfl rfl ?aP (fun _ hk => hk.elim) ?aF ?aO ?aB ?aS ?aL ?_; (case aP => exact rfl); (case aF => exact fun q hq e1 => Nat.lt_irrefl _ (Nat.lt_of_lt_of_le (own_lt_R (by first | exact HRW2.out | exact Kd.R_below HRW2.out (pw_below_drewN (Below.refl _ _) _)) q e1.symm) hq)); (case aO => exact (by first | exact HRK2.out | exact Kd.R_below HRK2.out (pw_below_drewN (Below.refl _ _) _))); (case aB => exact (by first | exact below_step HBz.out (Below.refl _ _) | exact below_step HBz.out (below_drew1 (Below.refl _ _)) | exact below_step HBz.out (pw_below_drewN (Below.refl _ _) _) | exact below_step HBz.out (below_drew1 (pw_below_drewN (Below.refl _ _) _)))); (case aS => exact below_size (by first | exact below_step HBz.out (Below.refl _ _) | exact below_step HBz.out (below_drew1 (Below.refl _ _)) | exact below_step HBz.out (pw_below_drewN (Below.refl _ _) _) | exact below_step HBz.out (below_drew1 (pw_below_drewN (Below.refl _ _) _)))); (case aL => have := LM1.out; omega); intro v7 w7 ho hb hgr hat; obtain ⟨Ad7, cd7, ev7⟩ := Kd.R_slice ho; subst ev7; simp only [List.length_append, List.length_singleton] at ho hat; have HO7 := Aside0.mk ho; have HB7 := Aside0.mk hb; have HGK7 := Aside0.mk (blk_grown (by first | exact HGK2.out | exact blk_drewN HGK2.out _) hgr (Kd.R_ne (by first | exact HRK2.out | exact Kd.R_below HRK2.out (pw_below_drewN (Below.refl _ _) _)) (by first | exact HGK2.out | exact blk_drewN HGK2.out _) (by decide))); have HGW7 := Aside0.mk (blk_grown (by first | exact HGW2.out | exact blk_drewN HGW2.out _) hgr (Kd.R_ne (by first | exact HRK2.out | exact Kd.R_below HRK2.out (pw_below_drewN (Below.refl _ _) _)) (by first | exact HGW2.out | exact blk_drewN HGW2.out _) (by decide))); have HRW7 := Aside0.mk (two_other (by first | exact HRW2.out | exact Kd.R_below HRW2.out (pw_below_drewN (Below.refl _ _) _)) hgr hat); have HK7 := Aside0.mk (Keep.grown (by first | exact HKp1.out | exact HKp1.out.of_below (below_drew1 (Below.refl _ _)) | exact HKp1.out.of_below (pw_below_drewN (Below.refl _ _) _) | exact HKp1.out.of_below (below_drew1 (pw_below_drewN (Below.refl _ _) _))) (by first | exact HRK2.out | exact Kd.R_below HRK2.out (pw_below_drewN (Below.refl _ _) _)) (by decide) hgr); have hfz7 := blk_frozen HGK7.out 0; have hcell7 := blk_cell HGK7.out 0; have hcw7 : (w7.setCell ⟨bk, 0, none⟩ (.slice Ad7 (ks.length + 1) cd7)).cell? ⟨bw, 0, none⟩ = some (.slice Aw2 ns.length cw2) := blk_cell ((Below.heap_setCell w7 ⟨bk, 0, none⟩ _ bw (fun e1 => HNE.out e1.symm)).trans HGW7.out) 0; clear ho hb hgr hat) | ((with_reducible refine gate_builtin (b := .append) (xs := #[.tmp 128, .tmp 130]) rfl ?_); at_builtin; refine Kd.R_append (Kd.int .i64) (w0 := W0) W0.heap.size rfl (.tmp 128) (.tmp 130) 28 3 (.int .i64 0) 8 rfl Tryd.underlying28 hi3 rfl (by decide) (by omega) (.slice Aw2 ns.length cw2) ns 0 [.int .i64 0] (fun q => some q ≠ (Value.slice Ad7 (ks.length + 1) cd7).ownBlock) (fun _ => False) rfl (by first | rfl | (rw [Go.World.size_setCell]; rfl)) ?aP (fun _ hk => hk.elim) ?aF ?aO ?aB ?aS ?aL ?_; (case aP => exact rfl); (case aF => exact fun q hq e1 => Nat.lt_irrefl _ (Nat.lt_of_lt_of_le (own_lt_R (Kd.R_set HO7.out HGK7.out (by simp [Kd.int, Kd.scalar]) 0 (.slice Ad7 (ks.length + 1) cd7)) q e1.symm) hq)); (case aO => exact Kd.R_set HRW7.out HGK7.out (by simp [Kd.int, Kd.scalar]) 0 _); (case aB => exact HB7.out.setCell HK0.out _); (case aS => exact below_size (HB7.out.setCell HK0.out _)); (case aL => have := LM2.out; omega); intro v8 w8 ho hb hgr hat; obtain ⟨Ad8, cd8, ev8⟩ := Kd.R_slice ho; subst ev8; simp only [List.length_append, List.length_singleton] at ho hat; have HO8 := Aside0.mk ho; have HB8 := Aside0.mk hb; have HGW8 := Aside0.mk (blk_grown ((Below.heap_setCell w7 ⟨bk, 0, none⟩ (.slice Ad7 (ks.length + 1) cd7) bw (fun e1 => HNE.out e1.symm)).trans HGW7.out) hgr (Kd.R_ne (Kd.R_set HRW7.out HGK7.out (by simp [Kd.int, Kd.scalar]) 0 (.slice Ad7 (ks.length + 1) cd7)) ((Below.heap_setCell w7 ⟨bk, 0, none⟩ (.slice Ad7 (ks.length + 1) cd7) bw (fun e1 => HNE.out e1.symm)).trans HGW7.out) (by decide))); have HGK8 := Aside0.mk (blk_grown (blk_put HGK7.out 0 (.slice Ad7 (ks.length + 1) cd7) rfl) hgr (Kd.R_ne (Kd.R_set HRW7.out HGK7.out (by simp [Kd.int, Kd.scalar]) 0 (.slice Ad7 (ks.length + 1) cd7)) (blk_put HGK7.out 0 (.slice Ad7 (ks.length + 1) cd7) rfl) (by decide))); have HRK8 := Aside0.mk (two_other (vk := .slice Aw2 ns.length cw2) (Kd.R_set HO7.out HGK7.out (by simp [Kd.int, Kd.scalar]) 0 (.slice Ad7 (ks.length + 1) cd7)) hgr hat); have HK8 := Aside0.mk (Keep.grown (Keep.set HK7.out HGK7.out (by decide) 0 (.slice Ad7 (ks.length + 1) cd7)) (Kd.R_set HRW7.out HGK7.out (by simp [Kd.int, Kd.scalar]) 0 (.slice Ad7 (ks.length + 1) cd7)) (by decide) hgr); have hfz8 := blk_frozen HGW8.out 0; have hcell8 := blk_cell HGW8.out 0; clear ho hb hgr hat))
                            go_ret
                            refine ⟨rfl, HB8.out.setCell HW0.out _, ⟨_, _, (Below.heap_setCell w8 ⟨bw, 0, none⟩ _ bk HNE.out).trans HGK8.out, blk_put HGW8.out 0 _ rfl, ?_, ?_⟩, (((Keep.refl [25] w).of_below HBW.out).trans HK8.out).set HGW8.out (by decide) 0 _⟩
                            · have h1 := Kd.R_set HRK8.out HGW8.out (by simp [Kd.int, Kd.scalar]) 0 (.slice Ad8 (ns.length + 1) cd8)
                              exact h1
                            · have h1 := Kd.R_set HO8.out HGW8.out (by simp [Kd.int, Kd.scalar]) 0 (.slice Ad8 (ns.length + 1) cd8)
                              exact h1
                      · rw [if_neg (fun h_ => cA h_.1)] at hz
                        have cA' : decide (Int.tmod i a1 < d) = false := decide_eq_false cA
                        clear cA
                        simp only [Option.some.injEq, Prod.mk.injEq] at hz
                        obtain ⟨rfl, rfl, rfl⟩ := hz
                        go_quiet (fail)
                        by_cases cC : y2 < cells
                        · have cC' : decide (y2 < cells) = true := decide_eq_true cC
                          by_cases cD : Int.tmod sy 2 = 0
                          · rw [if_pos ⟨cC, cD⟩] at hx
                            have cD' : (Int.tmod sy 2 == 0) = true := beq_iff_eq.mpr cD
                            clear cC cD
                            obtain ⟨⟨n1, n2, n3⟩, hf2, hx⟩ := Option.bind_eq_some_iff.mp hx
                            simp only [Option.some.injEq, Prod.mk.injEq] at hx
                            obtain ⟨hx1, rfl, rfl⟩ := hx
                            have HF2 := Aside0.mk hf2
                            clear hf2
                            obtain ⟨s2, hs2⟩ : ∃ c_ : Int, c_ = wrap64 (0 + n1) := ⟨_, rfl⟩
                            have hs2w : wrap64 (0 + n1) = s2 := hs2.symm
                            have hs2v : IntKind.i64.wrap (0 + n1) = s2 := by rw [i64_w]; exact hs2.symm
                            have HWFs2 : Aside0 ((Lit.int .i64 s2).wf = true) := ⟨by rw [hs2]; exact wf_wrapW _⟩
                            have hs2z : wrap64 n1 = s2 := by rw [hs2, Int.zero_add]
                            have hs2y : IntKind.i64.wrap n1 = s2 := by rw [i64_w]; exact hs2z
                            rw [← hs2] at hx1
                            subst hx1
                            clear hs2
                            go_wp2_with fail
                            refine start_ (n := 17) (S := fun w' => w'.cell? ⟨w.heap.size, 0, none⟩ = some (.int .i64 a0) ∧ w'.cell? ⟨w.heap.size, 1, none⟩ = some (.int .i64 a1) ∧ w'.cell? ⟨w.heap.size, 2, none⟩ = some (.int .i64 a2)) (ds := []) #[false, false, false, false, false, false, false, false, false, false, false, false, false, false, false, false, false] (by kernel_rfl) rfl rfl ⟨blk_cell HGz.out 0, blk_cell HGz.out 1, blk_cell HGz.out 2⟩ (fun hHeld => ?_); refine with_tabW spec_l14Ways.tab16 spec_l14Ways.bits16 (fun HT_ HW_ => ?_)
                            refine pure_ (i := 0) (N := some 101) (v := ?_) (a' := ?_) #[true, false, false, false, false, false, false, false, false, false, false, false, false, false, false, false, false] rfl rfl (any_of HT_.out (by kernel_rfl)) (fun _ _ _ h => h) (Or.inl ⟨by rfl, ?_⟩) ?_ ?_
                            rotate_left
                            · intro w'
                              go_simp
                              with_reducible rfl
                            rotate_left
                            · simp only [Act.put, List.setIfInBounds_toArray, List.set_cons_zero, List.set_cons_succ, i64_w, i32_w]
                              rfl
                            refine take_ (i := 1) (N := some 102) (v := ?_) (a' := ?_) #[true, true, false, false, false, false, false, false, false, false, false, false, false, false, false, false, false] rfl rfl (take_ofW HT_.out HW_.out (by kernel_rfl)) (fun _ _ _ h => h) (Or.inl ⟨by rfl, ?_⟩) hHeld ?_ ?_
                            rotate_left
                            · rintro w' ⟨s0, s1, s2⟩
                              go_simp
                              with_reducible rfl
                            rotate_left
                            · simp only [Act.put, List.setIfInBounds_toArray, List.set_cons_zero, List.set_cons_succ, i64_w, i32_w]
                              rfl
                            refine pure_ (i := 2) (N := some 103) (v := ?_) (a' := ?_) #[true, true, true, false, false, false, false, false, false, false, false, false, false, false, false, false, false] rfl rfl (any_of HT_.out (by kernel_rfl)) (fun _ _ _ h => h) (Or.inl ⟨by rfl, ?_⟩) ?_ ?_
                            rotate_left
                            · intro w'
                              go_simp
                              with_reducible rfl
                            rotate_left
                            · simp only [Act.put, List.setIfInBounds_toArray, List.set_cons_zero, List.set_cons_succ, i64_w, i32_w]
                              rfl
                            refine pure_ (i := 3) (N := some 104) (v := ?_) (a' := ?_) #[true, true, true, true, false, false, false, false, false, false, false, false, false, false, false, false, false] rfl rfl (any_of HT_.out (by kernel_rfl)) (fun _ _ _ h => h) (Or.inl ⟨by rfl, ?_⟩) ?_ ?_
                            rotate_left
                            · intro w'
                              go_simp
                              with_reducible rfl
                            rotate_left
                            · simp only [Act.put, List.setIfInBounds_toArray, List.set_cons_zero, List.set_cons_succ, i64_w, i32_w]
                              rfl
                            refine pure_ (i := 4) (N := some 105) (v := ?_) (a' := ?_) #[true, true, true, true, true, false, false, false, false, false, false, false, false, false, false, false, false] rfl rfl (any_of HT_.out (by kernel_rfl)) (fun _ _ _ h => h) (Or.inl ⟨by rfl, ?_⟩) ?_ ?_
                            rotate_left
                            · intro w'
                              go_simp
                              with_reducible rfl
                            rotate_left
                            · simp only [Act.put, List.setIfInBounds_toArray, List.set_cons_zero, List.set_cons_succ, i64_w, i32_w]
                              rfl
                            refine pure_ (i := 5) (N := some 106) (v := ?_) (a' := ?_) #[true, true, true, true, true, true, false, false, false, false, false, false, false, false, false, false, false] rfl rfl (any_of HT_.out (by kernel_rfl)) (fun _ _ _ h => h) (Or.inl ⟨by rfl, ?_⟩) ?_ ?_
                            rotate_left
                            · intro w'
                              go_simp
                              with_reducible rfl
                            rotate_left
                            · simp only [Act.put, List.setIfInBounds_toArray, List.set_cons_zero, List.set_cons_succ, i64_w, i32_w]
                              rfl
                            refine pure_ (i := 6) (N := some 107) (v := ?_) (a' := ?_) #[true, true, true, true, true, true, true, false, false, false, false, false, false, false, false, false, false] rfl rfl (any_of HT_.out (by kernel_rfl)) (fun _ _ _ h => h) (Or.inl ⟨by rfl, ?_⟩) ?_ ?_
                            rotate_left
                            · intro w'
                              go_simp
                              with_reducible rfl
                            rotate_left
                            · simp only [Act.put, List.setIfInBounds_toArray, List.set_cons_zero, List.set_cons_succ, i64_w, i32_w]
                              rfl
                            refine pure_ (i := 7) (N := some 108) (v := ?_) (a' := ?_) #[true, true, true, true, true, true, true, true, false, false, false, false, false, false, false, false, false] rfl rfl (any_of HT_.out (by kernel_rfl)) (fun _ _ _ h => h) (Or.inl ⟨by rfl, ?_⟩) ?_ ?_
                            rotate_left
                            · intro w'
                              go_simp
                              with_reducible rfl
                            rotate_left
                            · simp only [Act.put, List.setIfInBounds_toArray, List.set_cons_zero, List.set_cons_succ, i64_w, i32_w]
                              rfl
                            refine take_ (i := 8) (N := some 109) (v := ?_) (a' := ?_) #[true, true, true, true, true, true, true, true, true, false, false, false, false, false, false, false, false] rfl rfl (take_ofW HT_.out HW_.out (by kernel_rfl)) (fun _ _ _ h => h) (Or.inl ⟨by rfl, ?_⟩) hHeld ?_ ?_
                            rotate_left
                            · rintro w' ⟨s0, s1, s2⟩
                              go_simp
                              with_reducible rfl
                            rotate_left
                            · simp only [Act.put, List.setIfInBounds_toArray, List.set_cons_zero, List.set_cons_succ, i64_w, i32_w]
                              rfl
                            refine pure_ (i := 9) (N := some 110) (v := ?_) (a' := ?_) #[true, true, true, true, true, true, true, true, true, true, false, false, false, false, false, false, false] rfl rfl (any_of HT_.out (by kernel_rfl)) (fun _ _ _ h => h) (Or.inl ⟨by rfl, ?_⟩) ?_ ?_
                            rotate_left
                            · intro w'
                              go_simp
                              with_reducible rfl
                            rotate_left
                            · simp only [Act.put, List.setIfInBounds_toArray, List.set_cons_zero, List.set_cons_succ, i64_w, i32_w]
                              rfl
                            refine pure_ (i := 10) (N := some 111) (v := ?_) (a' := ?_) #[true, true, true, true, true, true, true, true, true, true, true, false, false, false, false, false, false] rfl rfl (any_of HT_.out (by kernel_rfl)) (fun _ _ _ h => h) (Or.inl ⟨by rfl, ?_⟩) ?_ ?_
                            rotate_left
                            · intro w'
                              go_simp
                              with_reducible rfl
                            rotate_left
                            · simp only [Act.put, List.setIfInBounds_toArray, List.set_cons_zero, List.set_cons_succ, i64_w, i32_w]
                              rfl
                            refine pure_ (i := 11) (N := some 112) (v := ?_) (a' := ?_) #[true, true, true, true, true, true, true, true, true, true, true, true, false, false, false, false, false] rfl rfl (any_of HT_.out (by kernel_rfl)) (fun _ _ _ h => h) (Or.inl ⟨by rfl, ?_⟩) ?_ ?_
                            rotate_left
                            · intro w'
                              go_simp
                              with_reducible rfl
                            rotate_left
                            · simp only [Act.put, List.setIfInBounds_toArray, List.set_cons_zero, List.set_cons_succ, i64_w, i32_w]
                              rfl
                            refine pure_ (i := 12) (N := some 113) (v := ?_) (a' := ?_) #[true, true, true, true, true, true, true, true, true, true, true, true, true, false, false, false, false] rfl rfl (any_of HT_.out (by kernel_rfl)) (fun _ _ _ h => h) (Or.inl ⟨by rfl, ?_⟩) ?_ ?_
                            rotate_left
                            · intro w'
                              go_simp
                              with_reducible rfl
                            rotate_left
                            · simp only [Act.put, List.setIfInBounds_toArray, List.set_cons_zero, List.set_cons_succ, i64_w, i32_w]
                              rfl
                            refine pure_ (i := 13) (N := some 114) (v := ?_) (a' := ?_) #[true, true, true, true, true, true, true, true, true, true, true, true, true, true, false, false, false] rfl rfl (any_of HT_.out (by kernel_rfl)) (fun _ _ _ h => h) (Or.inl ⟨by rfl, ?_⟩) ?_ ?_
                            rotate_left
                            · intro w'
                              go_simp
                              with_reducible rfl
                            rotate_left
                            · simp only [Act.put, List.setIfInBounds_toArray, List.set_cons_zero, List.set_cons_succ, i64_w, i32_w]
                              rfl
                            refine one_ (i := 14) (N := some 115) #[true, true, true, true, true, true, true, true, true, true, true, true, true, true, true, false, false] rfl rfl (one_of HT_.out (by kernel_rfl)) (by decide) (fun K hK => ?_)
                            refine call_ 24 #[.agg #[.int .i64 a0, .int .i64 a1, .int .i64 a2], .int .i64 (Go.bits .or .i64 (Go.bits .or .i64 v jt) jy), .pointer (some ⟨bk, 0, none⟩), .pointer (some ⟨bw, 0, none⟩)] (by rfl) rfl ?_ ?_
                            · first | (go_simp; done) | (go_simp; rfl)
                            refine (HIH.out _ ks ns n1 n2 n3 _ (by first | exact below_step HBz.out (Below.refl _ _) | exact below_step HBz.out (below_drew1 (Below.refl _ _)) | exact below_step HBz.out (pw_below_drewN (Below.refl _ _) _) | exact below_step HBz.out (below_drew1 (pw_below_drewN (Below.refl _ _) _))) (by first | exact HVz.out | exact HVz.out.below (below_drew1 (Below.refl _ _)) | exact HVz.out.below (pw_below_drewN (Below.refl _ _) _) | exact HVz.out.below (below_drew1 (pw_below_drewN (Below.refl _ _) _))) HF2.out).mono ?_
                            rintro e wcB ⟨rfl, hd1, hd2, hd3⟩
                            have HBb := Aside0.mk hd1
                            have HVb := Aside0.mk hd2
                            have HKb := Aside0.mk (Keep.trans (by first | exact HKp1.out | exact HKp1.out.of_below (below_drew1 (Below.refl _ _)) | exact HKp1.out.of_below (pw_below_drewN (Below.refl _ _) _) | exact HKp1.out.of_below (below_drew1 (pw_below_drewN (Below.refl _ _) _))) hd3)
                            have HXb := Aside0.mk ((HKb.out.2 _ 25 _ (by decide) HGB.out).trans HGB.out)
                            have cxb : wcB.cell? ⟨w.heap.size, 1, none⟩ = some (.int .i64 a1) := blk_cell HXb.out 1
                            have cyb : wcB.cell? ⟨w.heap.size, 0, none⟩ = some (.int .i64 a0) := blk_cell HXb.out 0
                            have czb : wcB.cell? ⟨w.heap.size, 2, none⟩ = some (.int .i64 a2) := blk_cell HXb.out 2
                            clear hd1 hd2 hd3
                            refine ⟨_, rfl, ?_⟩
                            refine hK.out _ _ ⟨cyb, cxb, czb⟩ (fun hHeld => ?_)
                            clear hK K
                            refine norm_ (a' := ?_) ?_ ?_
                            rotate_left
                            · show Act.put _ (some 115) _ = _
                              simp only [Act.put, List.setIfInBounds_toArray, List.set_cons_zero, List.set_cons_succ, i64_w, i32_w]
                              rfl
                            refine pure_ (i := 15) (N := some 116) (v := ?_) (a' := ?_) #[true, true, true, true, true, true, true, true, true, true, true, true, true, true, true, true, false] rfl rfl (any_of HT_.out (by kernel_rfl)) (fun _ _ _ h => h) (Or.inl ⟨by rfl, ?_⟩) ?_ ?_
                            rotate_left
                            · intro w'
                              go_simp
                              with_reducible rfl
                            rotate_left
                            · simp only [Act.put, List.setIfInBounds_toArray, List.set_cons_zero, List.set_cons_succ, i64_w, i32_w]
                              rfl
                            refine pure_ (i := 16) (N := some 12) (v := ?_) (a' := ?_) #[true, true, true, true, true, true, true, true, true, true, true, true, true, true, true, true, true] rfl rfl (any_of HT_.out (by kernel_rfl)) (fun _ _ _ h => h) (Or.inl ⟨by rfl, ?_⟩) ?_ ?_
                            rotate_left
                            · intro w'
                              go_simp
                              with_reducible rfl
                            rotate_left
                            · simp only [Act.put, List.setIfInBounds_toArray, List.set_cons_zero, List.set_cons_succ, i64_w, i32_w]
                              rfl
                            refine done_ (done_of HT_.out (by kernel_rfl)) ?_
                            obtain ⟨vk2, vw2, hgk2, hgw2, hrk2, hrw2⟩ := HVb.out
                            obtain ⟨Ak2, ck2, ek2⟩ := Kd.R_slice hrk2
                            subst ek2
                            obtain ⟨Aw2, cw2, ew2⟩ := Kd.R_slice hrw2
                            subst ew2
                            have HGK2 := Aside0.mk hgk2
                            have HGW2 := Aside0.mk hgw2
                            have HRK2 := Aside0.mk hrk2
                            have HRW2 := Aside0.mk hrw2
                            have ckf := blk_cell hgk2 0
                            clear ck0 cw0
                            clear hgk2 hgw2 hrk2 hrw2
                            go_wp2_with (first | ((with_reducible refine gate_builtin (b := .append) (xs := #[.tmp 120, .tmp 122]) rfl ?_); at_builtin; refine Kd.R_append (Kd.int .i64) (w0 := W0) W0.heap.size rfl (.tmp 120) (.tmp 122) 28 3 (.int .i64 0) 8 rfl Tryd.underlying28 hi3 rfl (by decide) (by omega) (.slice Ak2 n2.length ck2) n2 v [.int .i64 v] (fun q => some q ≠ (Value.slice Aw2 n3.length cw2).ownBlock) (fun _ => False) rfl rfl ?aP (fun _ hk => hk.elim) ?aF ?aO ?aB ?aS ?aL ?_; (case aP => exact rfl); (case aF => exact fun q hq e1 => Nat.lt_irrefl _ (Nat.lt_of_lt_of_le (own_lt_R (by first | exact HRW2.out | exact Kd.R_below HRW2.out (pw_below_drewN (Below.refl _ _) _)) q e1.symm) hq)); (case aO => exact (by first | exact HRK2.out | exact Kd.R_below HRK2.out (pw_below_drewN (Below.refl _ _) _))); (case aB => exact (by first | exact below_step HBb.out (Below.refl _ _) | exact below_step HBb.out (below_drew1 (Below.refl _ _)) | exact below_step HBb.out (pw_below_drewN (Below.refl _ _) _) | exact below_step HBb.out (below_drew1 (pw_below_drewN (Below.refl _ _) _)))); (case aS => exact below_size (by first | exact below_step HBb.out (Below.refl _ _) | exact below_step HBb.out (below_drew1 (Below.refl _ _)) | exact below_step HBb.out (pw_below_drewN (Below.refl _ _) _) | exact below_step HBb.out (below_drew1 (pw_below_drewN (Below.refl _ _) _)))); (case aL => have := LM1.out; omega); intro v7 w7 ho hb hgr hat; obtain ⟨Ad7, cd7, ev7⟩ := Kd.R_slice ho; subst ev7; simp only [List.length_append, List.length_singleton] at ho hat; have HO7 := Aside0.mk ho; have HB7 := Aside0.mk hb; have HGK7 := Aside0.mk (blk_grown (by first | exact HGK2.out | exact blk_drewN HGK2.out _) hgr (Kd.R_ne (by first | exact HRK2.out | exact Kd.R_below HRK2.out (pw_below_drewN (Below.refl _ _) _)) (by first | exact HGK2.out | exact blk_drewN HGK2.out _) (by decide))); have HGW7 := Aside0.mk (blk_grown (by first | exact HGW2.out | exact blk_drewN HGW2.out _) hgr (Kd.R_ne (by first | exact HRK2.out | exact Kd.R_below HRK2.out (pw_below_drewN (Below.refl _ _) _)) (by first | exact HGW2.out | exact blk_drewN HGW2.out _) (by decide))); have HRW7 := Aside0.mk (two_other (by first | exact HRW2.out | exact Kd.R_below HRW2.out (pw_below_drewN (Below.refl _ _) _)) hgr hat); have HK7 := Aside0.mk (Keep.grown (by first | exact HKb.out | exact HKb.out.of_below (below_drew1 (Below.refl _ _)) | exact HKb.out.of_below (pw_below_drewN (Below.refl _ _) _) | exact HKb.out.of_below (below_drew1 (pw_below_drewN (Below.refl _ _) _))) (by first | exact HRK2.out | exact Kd.R_below HRK2.out (pw_below_drewN (Below.refl _ _) _)) (by decide) hgr); have hfz7 := blk_frozen HGK7.out 0; have hcell7 := blk_cell HGK7.out 0; have hcw7 : (w7.setCell ⟨bk, 0, none⟩ (.slice Ad7 (n2.length + 1) cd7)).cell? ⟨bw, 0, none⟩ = some (.slice Aw2 n3.length cw2) := blk_cell ((Below.heap_setCell w7 ⟨bk, 0, none⟩ _ bw (fun e1 => HNE.out e1.symm)).trans HGW7.out) 0; clear ho hb hgr hat) | ((with_reducible refine gate_builtin (b := .append) (xs := #[.tmp 128, .tmp 130]) rfl ?_); at_builtin; refine Kd.R_append (Kd.int .i64) (w0 := W0) W0.heap.size rfl (.tmp 128) (.tmp 130) 28 3 (.int .i64 0) 8 rfl Tryd.underlying28 hi3 rfl (by decide) (by omega) (.slice Aw2 n3.length cw2) n3 s2 [.int .i64 s2] (fun q => some q ≠ (Value.slice Ad7 (n2.length + 1) cd7).ownBlock) (fun _ => False) rfl (by first | rfl | (rw [Go.World.size_setCell]; rfl)) ?aP (fun _ hk => hk.elim) ?aF ?aO ?aB ?aS ?aL ?_; (case aP => exact rfl); (case aF => exact fun q hq e1 => Nat.lt_irrefl _ (Nat.lt_of_lt_of_le (own_lt_R (Kd.R_set HO7.out HGK7.out (by simp [Kd.int, Kd.scalar]) 0 (.slice Ad7 (n2.length + 1) cd7)) q e1.symm) hq)); (case aO => exact Kd.R_set HRW7.out HGK7.out (by simp [Kd.int, Kd.scalar]) 0 _); (case aB => exact HB7.out.setCell HK0.out _); (case aS => exact below_size (HB7.out.setCell HK0.out _)); (case aL => have := LM2.out; omega); intro v8 w8 ho hb hgr hat; obtain ⟨Ad8, cd8, ev8⟩ := Kd.R_slice ho; subst ev8; simp only [List.length_append, List.length_singleton] at ho hat; have HO8 := Aside0.mk ho; have HB8 := Aside0.mk hb; have HGW8 := Aside0.mk (blk_grown ((Below.heap_setCell w7 ⟨bk, 0, none⟩ (.slice Ad7 (n2.length + 1) cd7) bw (fun e1 => HNE.out e1.symm)).trans HGW7.out) hgr (Kd.R_ne (Kd.R_set HRW7.out HGK7.out (by simp [Kd.int, Kd.scalar]) 0 (.slice Ad7 (n2.length + 1) cd7)) ((Below.heap_setCell w7 ⟨bk, 0, none⟩ (.slice Ad7 (n2.length + 1) cd7) bw (fun e1 => HNE.out e1.symm)).trans HGW7.out) (by decide))); have HGK8 := Aside0.mk (blk_grown (blk_put HGK7.out 0 (.slice Ad7 (n2.length + 1) cd7) rfl) hgr (Kd.R_ne (Kd.R_set HRW7.out HGK7.out (by simp [Kd.int, Kd.scalar]) 0 (.slice Ad7 (n2.length + 1) cd7)) (blk_put HGK7.out 0 (.slice Ad7 (n2.length + 1) cd7) rfl) (by decide))); have HRK8 := Aside0.mk (two_other (vk := .slice Aw2 n3.length cw2) (Kd.R_set HO7.out HGK7.out (by simp [Kd.int, Kd.scalar]) 0 (.slice Ad7 (n2.length + 1) cd7)) hgr hat); have HK8 := Aside0.mk (Keep.grown (Keep.set HK7.out HGK7.out (by decide) 0 (.slice Ad7 (n2.length + 1) cd7)) (Kd.R_set HRW7.out HGK7.out (by simp [Kd.int, Kd.scalar]) 0 (.slice Ad7 (n2.length + 1) cd7)) (by decide) hgr); have hfz8 := blk_frozen HGW8.out 0; have hcell8 := blk_cell HGW8.out 0; clear ho hb hgr hat))
                            go_ret
                            refine ⟨rfl, HB8.out.setCell HW0.out _, ⟨_, _, (Below.heap_setCell w8 ⟨bw, 0, none⟩ _ bk HNE.out).trans HGK8.out, blk_put HGW8.out 0 _ rfl, ?_, ?_⟩, (((Keep.refl [25] w).of_below HBW.out).trans HK8.out).set HGW8.out (by decide) 0 _⟩
                            · have h1 := Kd.R_set HRK8.out HGW8.out (by simp [Kd.int, Kd.scalar]) 0 (.slice Ad8 (n3.length + 1) cd8)
                              exact h1
                            · have h1 := Kd.R_set HO8.out HGW8.out (by simp [Kd.int, Kd.scalar]) 0 (.slice Ad8 (n3.length + 1) cd8)
                              exact h1
                          · rw [if_neg (fun h_ => cD h_.2)] at hx
                            have cD' : (Int.tmod sy 2 == 0) = false := beq_eq_false_iff_ne.mpr cD
                            clear cC cD
                            simp only [Option.some.injEq, Prod.mk.injEq] at hx
                            obtain ⟨rfl, rfl, rfl⟩ := hx
                            obtain ⟨vk2, vw2, hgk2, hgw2, hrk2, hrw2⟩ := HVz.out
                            obtain ⟨Ak2, ck2, ek2⟩ := Kd.R_slice hrk2
                            subst ek2
                            obtain ⟨Aw2, cw2, ew2⟩ := Kd.R_slice hrw2
                            subst ew2
                            have HGK2 := Aside0.mk hgk2
                            have HGW2 := Aside0.mk hgw2
                            have HRK2 := Aside0.mk hrk2
                            have HRW2 := Aside0.mk hrw2
                            have ckf := blk_cell hgk2 0
                            clear ck0 cw0
                            clear hgk2 hgw2 hrk2 hrw2
                            go_wp2_with (first | ((with_reducible refine gate_builtin (b := .append) (xs := #[.tmp 120, .tmp 122]) rfl ?_); at_builtin; refine Kd.R_append (Kd.int .i64) (w0 := W0) W0.heap.size rfl (.tmp 120) (.tmp 122) 28 3 (.int .i64 0) 8 rfl Tryd.underlying28 hi3 rfl (by decide) (by omega) (.slice Ak2 ks.length ck2) ks v [.int .i64 v] (fun q => some q ≠ (Value.slice Aw2 ns.length cw2).ownBlock) (fun _ => False) rfl rfl ?aP (fun _ hk => hk.elim) ?aF ?aO ?aB ?aS ?aL ?_; (case aP => exact rfl); (case aF => exact fun q hq e1 => Nat.lt_irrefl _ (Nat.lt_of_lt_of_le (own_lt_R (by first | exact HRW2.out | exact Kd.R_below HRW2.out (pw_below_drewN (Below.refl _ _) _)) q e1.symm) hq)); (case aO => exact (by first | exact HRK2.out | exact Kd.R_below HRK2.out (pw_below_drewN (Below.refl _ _) _))); (case aB => exact (by first | exact below_step HBz.out (Below.refl _ _) | exact below_step HBz.out (below_drew1 (Below.refl _ _)) | exact below_step HBz.out (pw_below_drewN (Below.refl _ _) _) | exact below_step HBz.out (below_drew1 (pw_below_drewN (Below.refl _ _) _)))); (case aS => exact below_size (by first | exact below_step HBz.out (Below.refl _ _) | exact below_step HBz.out (below_drew1 (Below.refl _ _)) | exact below_step HBz.out (pw_below_drewN (Below.refl _ _) _) | exact below_step HBz.out (below_drew1 (pw_below_drewN (Below.refl _ _) _)))); (case aL => have := LM1.out; omega); intro v7 w7 ho hb hgr hat; obtain ⟨Ad7, cd7, ev7⟩ := Kd.R_slice ho; subst ev7; simp only [List.length_append, List.length_singleton] at ho hat; have HO7 := Aside0.mk ho; have HB7 := Aside0.mk hb; have HGK7 := Aside0.mk (blk_grown (by first | exact HGK2.out | exact blk_drewN HGK2.out _) hgr (Kd.R_ne (by first | exact HRK2.out | exact Kd.R_below HRK2.out (pw_below_drewN (Below.refl _ _) _)) (by first | exact HGK2.out | exact blk_drewN HGK2.out _) (by decide))); have HGW7 := Aside0.mk (blk_grown (by first | exact HGW2.out | exact blk_drewN HGW2.out _) hgr (Kd.R_ne (by first | exact HRK2.out | exact Kd.R_below HRK2.out (pw_below_drewN (Below.refl _ _) _)) (by first | exact HGW2.out | exact blk_drewN HGW2.out _) (by decide))); have HRW7 := Aside0.mk (two_other (by first | exact HRW2.out | exact Kd.R_below HRW2.out (pw_below_drewN (Below.refl _ _) _)) hgr hat); have HK7 := Aside0.mk (Keep.grown (by first | exact HKp1.out | exact HKp1.out.of_below (below_drew1 (Below.refl _ _)) | exact HKp1.out.of_below (pw_below_drewN (Below.refl _ _) _) | exact HKp1.out.of_below (below_drew1 (pw_below_drewN (Below.refl _ _) _))) (by first | exact HRK2.out | exact Kd.R_below HRK2.out (pw_below_drewN (Below.refl _ _) _)) (by decide) hgr); have hfz7 := blk_frozen HGK7.out 0; have hcell7 := blk_cell HGK7.out 0; have hcw7 : (w7.setCell ⟨bk, 0, none⟩ (.slice Ad7 (ks.length + 1) cd7)).cell? ⟨bw, 0, none⟩ = some (.slice Aw2 ns.length cw2) := blk_cell ((Below.heap_setCell w7 ⟨bk, 0, none⟩ _ bw (fun e1 => HNE.out e1.symm)).trans HGW7.out) 0; clear ho hb hgr hat) | ((with_reducible refine gate_builtin (b := .append) (xs := #[.tmp 128, .tmp 130]) rfl ?_); at_builtin; refine Kd.R_append (Kd.int .i64) (w0 := W0) W0.heap.size rfl (.tmp 128) (.tmp 130) 28 3 (.int .i64 0) 8 rfl Tryd.underlying28 hi3 rfl (by decide) (by omega) (.slice Aw2 ns.length cw2) ns 0 [.int .i64 0] (fun q => some q ≠ (Value.slice Ad7 (ks.length + 1) cd7).ownBlock) (fun _ => False) rfl (by first | rfl | (rw [Go.World.size_setCell]; rfl)) ?aP (fun _ hk => hk.elim) ?aF ?aO ?aB ?aS ?aL ?_; (case aP => exact rfl); (case aF => exact fun q hq e1 => Nat.lt_irrefl _ (Nat.lt_of_lt_of_le (own_lt_R (Kd.R_set HO7.out HGK7.out (by simp [Kd.int, Kd.scalar]) 0 (.slice Ad7 (ks.length + 1) cd7)) q e1.symm) hq)); (case aO => exact Kd.R_set HRW7.out HGK7.out (by simp [Kd.int, Kd.scalar]) 0 _); (case aB => exact HB7.out.setCell HK0.out _); (case aS => exact below_size (HB7.out.setCell HK0.out _)); (case aL => have := LM2.out; omega); intro v8 w8 ho hb hgr hat; obtain ⟨Ad8, cd8, ev8⟩ := Kd.R_slice ho; subst ev8; simp only [List.length_append, List.length_singleton] at ho hat; have HO8 := Aside0.mk ho; have HB8 := Aside0.mk hb; have HGW8 := Aside0.mk (blk_grown ((Below.heap_setCell w7 ⟨bk, 0, none⟩ (.slice Ad7 (ks.length + 1) cd7) bw (fun e1 => HNE.out e1.symm)).trans HGW7.out) hgr (Kd.R_ne (Kd.R_set HRW7.out HGK7.out (by simp [Kd.int, Kd.scalar]) 0 (.slice Ad7 (ks.length + 1) cd7)) ((Below.heap_setCell w7 ⟨bk, 0, none⟩ (.slice Ad7 (ks.length + 1) cd7) bw (fun e1 => HNE.out e1.symm)).trans HGW7.out) (by decide))); have HGK8 := Aside0.mk (blk_grown (blk_put HGK7.out 0 (.slice Ad7 (ks.length + 1) cd7) rfl) hgr (Kd.R_ne (Kd.R_set HRW7.out HGK7.out (by simp [Kd.int, Kd.scalar]) 0 (.slice Ad7 (ks.length + 1) cd7)) (blk_put HGK7.out 0 (.slice Ad7 (ks.length + 1) cd7) rfl) (by decide))); have HRK8 := Aside0.mk (two_other (vk := .slice Aw2 ns.length cw2) (Kd.R_set HO7.out HGK7.out (by simp [Kd.int, Kd.scalar]) 0 (.slice Ad7 (ks.length + 1) cd7)) hgr hat); have HK8 := Aside0.mk (Keep.grown (Keep.set HK7.out HGK7.out (by decide) 0 (.slice Ad7 (ks.length + 1) cd7)) (Kd.R_set HRW7.out HGK7.out (by simp [Kd.int, Kd.scalar]) 0 (.slice Ad7 (ks.length + 1) cd7)) (by decide) hgr); have hfz8 := blk_frozen HGW8.out 0; have hcell8 := blk_cell HGW8.out 0; clear ho hb hgr hat))
                            go_ret
                            refine ⟨rfl, HB8.out.setCell HW0.out _, ⟨_, _, (Below.heap_setCell w8 ⟨bw, 0, none⟩ _ bk HNE.out).trans HGK8.out, blk_put HGW8.out 0 _ rfl, ?_, ?_⟩, (((Keep.refl [25] w).of_below HBW.out).trans HK8.out).set HGW8.out (by decide) 0 _⟩
                            · have h1 := Kd.R_set HRK8.out HGW8.out (by simp [Kd.int, Kd.scalar]) 0 (.slice Ad8 (ns.length + 1) cd8)
                              exact h1
                            · have h1 := Kd.R_set HO8.out HGW8.out (by simp [Kd.int, Kd.scalar]) 0 (.slice Ad8 (ns.length + 1) cd8)
                              exact h1
                        · rw [if_neg (fun h_ => cC h_.1)] at hx
                          have cC' : decide (y2 < cells) = false := decide_eq_false cC
                          clear cC
                          simp only [Option.some.injEq, Prod.mk.injEq] at hx
                          obtain ⟨rfl, rfl, rfl⟩ := hx
                          obtain ⟨vk2, vw2, hgk2, hgw2, hrk2, hrw2⟩ := HVz.out
                          obtain ⟨Ak2, ck2, ek2⟩ := Kd.R_slice hrk2
                          subst ek2
                          obtain ⟨Aw2, cw2, ew2⟩ := Kd.R_slice hrw2
                          subst ew2
                          have HGK2 := Aside0.mk hgk2
                          have HGW2 := Aside0.mk hgw2
                          have HRK2 := Aside0.mk hrk2
                          have HRW2 := Aside0.mk hrw2
                          have ckf := blk_cell hgk2 0
                          clear ck0 cw0
                          clear hgk2 hgw2 hrk2 hrw2
                          go_wp2_with (first | ((with_reducible refine gate_builtin (b := .append) (xs := #[.tmp 120, .tmp 122]) rfl ?_); at_builtin; refine Kd.R_append (Kd.int .i64) (w0 := W0) W0.heap.size rfl (.tmp 120) (.tmp 122) 28 3 (.int .i64 0) 8 rfl Tryd.underlying28 hi3 rfl (by decide) (by omega) (.slice Ak2 ks.length ck2) ks v [.int .i64 v] (fun q => some q ≠ (Value.slice Aw2 ns.length cw2).ownBlock) (fun _ => False) rfl rfl ?aP (fun _ hk => hk.elim) ?aF ?aO ?aB ?aS ?aL ?_; (case aP => exact rfl); (case aF => exact fun q hq e1 => Nat.lt_irrefl _ (Nat.lt_of_lt_of_le (own_lt_R (by first | exact HRW2.out | exact Kd.R_below HRW2.out (pw_below_drewN (Below.refl _ _) _)) q e1.symm) hq)); (case aO => exact (by first | exact HRK2.out | exact Kd.R_below HRK2.out (pw_below_drewN (Below.refl _ _) _))); (case aB => exact (by first | exact below_step HBz.out (Below.refl _ _) | exact below_step HBz.out (below_drew1 (Below.refl _ _)) | exact below_step HBz.out (pw_below_drewN (Below.refl _ _) _) | exact below_step HBz.out (below_drew1 (pw_below_drewN (Below.refl _ _) _)))); (case aS => exact below_size (by first | exact below_step HBz.out (Below.refl _ _) | exact below_step HBz.out (below_drew1 (Below.refl _ _)) | exact below_step HBz.out (pw_below_drewN (Below.refl _ _) _) | exact below_step HBz.out (below_drew1 (pw_below_drewN (Below.refl _ _) _)))); (case aL => have := LM1.out; omega); intro v7 w7 ho hb hgr hat; obtain ⟨Ad7, cd7, ev7⟩ := Kd.R_slice ho; subst ev7; simp only [List.length_append, List.length_singleton] at ho hat; have HO7 := Aside0.mk ho; have HB7 := Aside0.mk hb; have HGK7 := Aside0.mk (blk_grown (by first | exact HGK2.out | exact blk_drewN HGK2.out _) hgr (Kd.R_ne (by first | exact HRK2.out | exact Kd.R_below HRK2.out (pw_below_drewN (Below.refl _ _) _)) (by first | exact HGK2.out | exact blk_drewN HGK2.out _) (by decide))); have HGW7 := Aside0.mk (blk_grown (by first | exact HGW2.out | exact blk_drewN HGW2.out _) hgr (Kd.R_ne (by first | exact HRK2.out | exact Kd.R_below HRK2.out (pw_below_drewN (Below.refl _ _) _)) (by first | exact HGW2.out | exact blk_drewN HGW2.out _) (by decide))); have HRW7 := Aside0.mk (two_other (by first | exact HRW2.out | exact Kd.R_below HRW2.out (pw_below_drewN (Below.refl _ _) _)) hgr hat); have HK7 := Aside0.mk (Keep.grown (by first | exact HKp1.out | exact HKp1.out.of_below (below_drew1 (Below.refl _ _)) | exact HKp1.out.of_below (pw_below_drewN (Below.refl _ _) _) | exact HKp1.out.of_below (below_drew1 (pw_below_drewN (Below.refl _ _) _))) (by first | exact HRK2.out | exact Kd.R_below HRK2.out (pw_below_drewN (Below.refl _ _) _)) (by decide) hgr); have hfz7 := blk_frozen HGK7.out 0; have hcell7 := blk_cell HGK7.out 0; have hcw7 : (w7.setCell ⟨bk, 0, none⟩ (.slice Ad7 (ks.length + 1) cd7)).cell? ⟨bw, 0, none⟩ = some (.slice Aw2 ns.length cw2) := blk_cell ((Below.heap_setCell w7 ⟨bk, 0, none⟩ _ bw (fun e1 => HNE.out e1.symm)).trans HGW7.out) 0; clear ho hb hgr hat) | ((with_reducible refine gate_builtin (b := .append) (xs := #[.tmp 128, .tmp 130]) rfl ?_); at_builtin; refine Kd.R_append (Kd.int .i64) (w0 := W0) W0.heap.size rfl (.tmp 128) (.tmp 130) 28 3 (.int .i64 0) 8 rfl Tryd.underlying28 hi3 rfl (by decide) (by omega) (.slice Aw2 ns.length cw2) ns 0 [.int .i64 0] (fun q => some q ≠ (Value.slice Ad7 (ks.length + 1) cd7).ownBlock) (fun _ => False) rfl (by first | rfl | (rw [Go.World.size_setCell]; rfl)) ?aP (fun _ hk => hk.elim) ?aF ?aO ?aB ?aS ?aL ?_; (case aP => exact rfl); (case aF => exact fun q hq e1 => Nat.lt_irrefl _ (Nat.lt_of_lt_of_le (own_lt_R (Kd.R_set HO7.out HGK7.out (by simp [Kd.int, Kd.scalar]) 0 (.slice Ad7 (ks.length + 1) cd7)) q e1.symm) hq)); (case aO => exact Kd.R_set HRW7.out HGK7.out (by simp [Kd.int, Kd.scalar]) 0 _); (case aB => exact HB7.out.setCell HK0.out _); (case aS => exact below_size (HB7.out.setCell HK0.out _)); (case aL => have := LM2.out; omega); intro v8 w8 ho hb hgr hat; obtain ⟨Ad8, cd8, ev8⟩ := Kd.R_slice ho; subst ev8; simp only [List.length_append, List.length_singleton] at ho hat; have HO8 := Aside0.mk ho; have HB8 := Aside0.mk hb; have HGW8 := Aside0.mk (blk_grown ((Below.heap_setCell w7 ⟨bk, 0, none⟩ (.slice Ad7 (ks.length + 1) cd7) bw (fun e1 => HNE.out e1.symm)).trans HGW7.out) hgr (Kd.R_ne (Kd.R_set HRW7.out HGK7.out (by simp [Kd.int, Kd.scalar]) 0 (.slice Ad7 (ks.length + 1) cd7)) ((Below.heap_setCell w7 ⟨bk, 0, none⟩ (.slice Ad7 (ks.length + 1) cd7) bw (fun e1 => HNE.out e1.symm)).trans HGW7.out) (by decide))); have HGK8 := Aside0.mk (blk_grown (blk_put HGK7.out 0 (.slice Ad7 (ks.length + 1) cd7) rfl) hgr (Kd.R_ne (Kd.R_set HRW7.out HGK7.out (by simp [Kd.int, Kd.scalar]) 0 (.slice Ad7 (ks.length + 1) cd7)) (blk_put HGK7.out 0 (.slice Ad7 (ks.length + 1) cd7) rfl) (by decide))); have HRK8 := Aside0.mk (two_other (vk := .slice Aw2 ns.length cw2) (Kd.R_set HO7.out HGK7.out (by simp [Kd.int, Kd.scalar]) 0 (.slice Ad7 (ks.length + 1) cd7)) hgr hat); have HK8 := Aside0.mk (Keep.grown (Keep.set HK7.out HGK7.out (by decide) 0 (.slice Ad7 (ks.length + 1) cd7)) (Kd.R_set HRW7.out HGK7.out (by simp [Kd.int, Kd.scalar]) 0 (.slice Ad7 (ks.length + 1) cd7)) (by decide) hgr); have hfz8 := blk_frozen HGW8.out 0; have hcell8 := blk_cell HGW8.out 0; clear ho hb hgr hat))
                          go_ret
                          refine ⟨rfl, HB8.out.setCell HW0.out _, ⟨_, _, (Below.heap_setCell w8 ⟨bw, 0, none⟩ _ bk HNE.out).trans HGK8.out, blk_put HGW8.out 0 _ rfl, ?_, ?_⟩, (((Keep.refl [25] w).of_below HBW.out).trans HK8.out).set HGW8.out (by decide) 0 _⟩
                          · have h1 := Kd.R_set HRK8.out HGW8.out (by simp [Kd.int, Kd.scalar]) 0 (.slice Ad8 (ns.length + 1) cd8)
                            exact h1
                          · have h1 := Kd.R_set HO8.out HGW8.out (by simp [Kd.int, Kd.scalar]) 0 (.slice Ad8 (ns.length + 1) cd8)
                            exact h1
          · rw [if_neg c6] at H
            exact absurd H (by simp)
        · rw [if_neg c5] at H
          have c5b : decide (i < cells) = false := decide_eq_false c5
          clear c5
          have et : i = t := Option.some.inj H
          subst et
          clear H
          have H := HH.out
          by_cases c8 : i = cells
          · rw [if_pos c8] at H
            have c8b : (i == cells) = true := beq_iff_eq.mpr c8
            clear c8
            simp only [Option.some.injEq, Prod.mk.injEq] at H
            obtain ⟨rfl, rfl, rfl⟩ := H
            go_wp2_with fail
            all_goals go_ret
            all_goals exact ⟨rfl, below_step (below_step HB.out HBW.out) HW.out, (HV.out.below HBW.out).below HW.out, ((Keep.refl _ _).of_below HBW.out).of_below HW.out⟩
          · rw [if_neg c8] at H
            have c8b : (i == cells) = false := beq_eq_false_iff_ne.mpr c8
            clear c8
            obtain ⟨o, ho, H⟩ := Option.bind_eq_some_iff.mp H
            have HO := Aside0.mk ho
            have HH2 := Aside0.mk H
            clear ho H
            have HBr := Aside0.mk (below_step (below_step HB.out HBW.out) HW.out)
            have HVr := Aside0.mk ((HV.out.below HBW.out).below HW.out)
            have HGr := Aside0.mk ((HW.out.block _ (lt_of_some HGB.out)).trans HGB.out)
            obtain ⟨vk, vw, hgk, hgw, hrk, hrw⟩ := HVr.out
            obtain ⟨Ak, ck, ek⟩ := Kd.R_slice hrk
            subst ek
            obtain ⟨Aw, cw, ew⟩ := Kd.R_slice hrw
            subst ew
            have HGK := Aside0.mk hgk
            have HGW := Aside0.mk hgw
            have HRK := Aside0.mk hrk
            have HRW := Aside0.mk hrw
            have ck0 : wr.cell? ⟨bk, 0, none⟩ = some (.slice Ak ks.length ck) := blk_cell hgk 0
            clear hgk hgw hrk hrw
            have HZ0 := Aside0.mk (Below.refl wr.heap.size wr)
            go_wp2_with fail
            go_loopg [11] k (fun kq v11 w' => ∃ (j : Int), v11 = .int .i64 j ∧ Aside0 (spec_l14Ways.l1 kq ks ns v j = some o) ∧ Aside0 (kq ≤ k) ∧ Aside0 (Below wr.heap.size wr w'))
            case atStart => exact ⟨0, rfl, HO, ⟨Nat.le_refl _⟩, HZ0⟩
            case round =>
              clear HO HZ0 ck0
              obtain ⟨j, rfl, HA, HK2, HZ⟩ := hrel
              have ck0 : wr.cell? ⟨bk, 0, none⟩ = some (.slice Ak ks.length ck) := blk_cell ((HZ.out.block _ (lt_of_some HGK.out)).trans HGK.out) 0
              have cw0 : wr.cell? ⟨bw, 0, none⟩ = some (.slice Aw ns.length cw) := blk_cell ((HZ.out.block _ (lt_of_some HGW.out)).trans HGW.out) 0
              cases gk with
              | zero => exact absurd HA.out (by simp [spec_l14Ways.l1])
              | succ k2 =>
                have H := HA.out
                clear HA
                rw [spec_l14Ways.l1] at H
                by_cases d1 : j < (ks.length : Int)
                · rw [if_pos d1] at H
                  have d1b : decide (j < (ks.length : Int)) = true := decide_eq_true d1
                  by_cases d2 : 0 ≤ j
                  · rw [if_pos d2] at H
                    have d2b : decide (0 ≤ j) = true := decide_eq_true d2
                    obtain ⟨adk, eadk, hxk⟩ := Kd.at_int (Kd.C_below (Kd.R_reads' HRK.out).2.2 HZ.out) j d2 d1
                    subst eadk
                    by_cases d3 : rd ks j = v
                    · rw [if_pos d3] at H
                      have d3b : (rd ks j == v) = true := beq_iff_eq.mpr d3
                      by_cases d4 : j < (ns.length : Int)
                      · rw [if_pos d4] at H
                        have d4b : decide (j < (ns.length : Int)) = true := decide_eq_true d4
                        obtain ⟨adw, eadw, hxw⟩ := Kd.at_int (Kd.C_below (Kd.R_reads' HRW.out).2.2 HZ.out) j d2 d4
                        subst eadw
                        have eo : some (rd ns j) = o := Option.some.inj H
                        subst eo
                        clear H d3
                        have H := HH2.out
                        simp only [Option.some.injEq, Prod.mk.injEq] at H
                        obtain ⟨rfl, rfl, rfl⟩ := H
                        replace d1 := eq_true d1
                        replace d2 := eq_true d2
                        replace d4 := eq_true d4
                        go_wp2_with fail
                        go_ret
                        exact ⟨rfl, below_step HBr.out HZ.out, HVr.out.below HZ.out, (((Keep.refl _ _).of_below HBW.out).of_below HW.out).of_below HZ.out⟩
                      · rw [if_neg d4] at H
                        exact absurd H (by simp)
                    · rw [if_neg d3] at H
                      have d3b : (rd ks j == v) = false := beq_eq_false_iff_ne.mpr d3
                      clear d3
                      have H' := Aside0.mk H
                      clear H
                      replace d1 := eq_true d1
                      replace d2 := eq_true d2
                      go_wp2_with fail
                      go_roundg k2
                      case measure => have := HK2.out; omega
                      case rel => exact ⟨wrap64 (j + 1), rfl, H', ⟨by have := HK2.out; omega⟩, HZ⟩
                  · rw [if_neg d2] at H
                    exact absurd H (by simp)
                · rw [if_neg d1] at H
                  have d1b : decide (j < (ks.length : Int)) = false := decide_eq_false d1
                  clear d1
                  have eo : none = o := Option.some.inj H
                  subst eo
                  clear H
                  have h := HH2.out
                  clear HH2
                  simp only [] at h
                  have HBz := Aside0.mk (below_step HBr.out HZ.out)
                  have HVz := Aside0.mk (HVr.out.below HZ.out)
                  have HGz := Aside0.mk ((HZ.out.block _ (lt_of_some HGr.out)).trans HGr.out)
                  have HKz := Aside0.mk (((Keep.refl [25] w).of_below HBW.out).of_below (below_step HW.out HZ.out))
                  have hi3 : (Tryd.prog.info? 3).map (fun i => (i.zero, i.size, i.bytes)) = some (some (.int .i64 0), 1, 8) := by kernel_rfl
                  have HKp1 := Aside0.mk (((Keep.refl [25] W1).of_below HW.out).of_below HZ.out)
                  have cx1 : wr.cell? ⟨w.heap.size, 1, none⟩ = some (.int .i64 a1) := blk_cell HGz.out 1
                  have cx0 : wr.cell? ⟨w.heap.size, 0, none⟩ = some (.int .i64 a0) := blk_cell HGz.out 0
                  have cx2 : wr.cell? ⟨w.heap.size, 2, none⟩ = some (.int .i64 a2) := blk_cell HGz.out 2
                  by_cases e2 : a1 = 0
                  · rw [if_pos e2] at h; exact absurd h (by simp)
                  rw [if_neg e2] at h
                  have e2b : (a1 == 0) = false := beq_eq_false_iff_ne.mpr e2
                  have e2c : (a1 = 0) = False := eq_false e2
                  clear e2
                  obtain ⟨u, hu⟩ : ∃ c_ : Int, c_ = wrap64 (i + 1) := ⟨_, rfl⟩
                  rw [← hu] at h
                  have huw : wrap64 (i + 1) = u := hu.symm
                  have huv : IntKind.i64.wrap (i + 1) = u := by rw [i64_w]; exact hu.symm
                  clear hu
                  obtain ⟨y2, hy2⟩ : ∃ c_ : Int, c_ = wrap64 (i + a1) := ⟨_, rfl⟩
                  rw [← hy2] at h
                  have hy2w : wrap64 (i + a1) = y2 := hy2.symm
                  have hy2v : IntKind.i64.wrap (i + a1) = y2 := by rw [i64_w]; exact hy2.symm
                  clear hy2
                  obtain ⟨d, hd⟩ : ∃ c_ : Int, c_ = wrap64 (a1 - 1) := ⟨_, rfl⟩
                  rw [← hd] at h
                  have hdw : wrap64 (a1 - 1) = d := hd.symm
                  have hdv : IntKind.i64.wrap (a1 - 1) = d := by rw [i64_w]; exact hd.symm
                  clear hd
                  by_cases e3 : 0 ≤ i
                  rotate_left
                  · rw [if_neg e3] at h; exact absurd h (by simp)
                  rw [if_pos e3] at h
                  by_cases e4 : 0 ≤ u
                  rotate_left
                  · rw [if_neg e4] at h; exact absurd h (by simp)
                  rw [if_pos e4] at h
                  by_cases e5 : 0 ≤ y2
                  rotate_left
                  · rw [if_neg e5] at h; exact absurd h (by simp)
                  rw [if_pos e5] at h
                  have e3b : decide (0 ≤ i) = true := decide_eq_true e3
                  have e4b : decide (0 ≤ u) = true := decide_eq_true e4
                  have e5b : decide (0 ≤ y2) = true := decide_eq_true e5
                  replace e3 := eq_true e3
                  replace e4 := eq_true e4
                  replace e5 := eq_true e5
                  obtain ⟨jt, hjt⟩ : ∃ j_ : Int, (shl .i64 1 i) = j_ := ⟨_, rfl⟩
                  rw [hjt] at h
                  have hjta : (IntKind.i64.wrap (1 * 2 ^ min i.toNat 64)) = jt := hjt
                  have hjtb : (IntKind.i64.wrap (2 ^ min i.toNat 64)) = jt := by have h_ := hjta; rw [Int.one_mul] at h_; exact h_
                  have hjtc : (wrap64 (1 * 2 ^ min i.toNat 64)) = jt := (i64_w _).symm.trans hjta
                  have hjtd : (wrap64 (2 ^ min i.toNat 64)) = jt := (i64_w _).symm.trans hjtb
                  clear hjt
                  obtain ⟨ju, hju⟩ : ∃ j_ : Int, (shl .i64 1 u) = j_ := ⟨_, rfl⟩
                  rw [hju] at h
                  have hjua : (IntKind.i64.wrap (1 * 2 ^ min u.toNat 64)) = ju := hju
                  have hjub : (IntKind.i64.wrap (2 ^ min u.toNat 64)) = ju := by have h_ := hjua; rw [Int.one_mul] at h_; exact h_
                  have hjuc : (wrap64 (1 * 2 ^ min u.toNat 64)) = ju := (i64_w _).symm.trans hjua
                  have hjud : (wrap64 (2 ^ min u.toNat 64)) = ju := (i64_w _).symm.trans hjub
                  clear hju
                  obtain ⟨jy, hjy⟩ : ∃ j_ : Int, (shl .i64 1 y2) = j_ := ⟨_, rfl⟩
                  rw [hjy] at h
                  have hjya : (IntKind.i64.wrap (1 * 2 ^ min y2.toNat 64)) = jy := hjy
                  have hjyb : (IntKind.i64.wrap (2 ^ min y2.toNat 64)) = jy := by have h_ := hjya; rw [Int.one_mul] at h_; exact h_
                  have hjyc : (wrap64 (1 * 2 ^ min y2.toNat 64)) = jy := (i64_w _).symm.trans hjya
                  have hjyd : (wrap64 (2 ^ min y2.toNat 64)) = jy := (i64_w _).symm.trans hjyb
                  clear hjy
                  obtain ⟨su, hsu⟩ : ∃ j_ : Int, (shr .i64 v u) = j_ := ⟨_, rfl⟩
                  rw [hsu] at h
                  have hsua : (v / 2 ^ min u.toNat 64) = su := hsu
                  clear hsu
                  obtain ⟨sy, hsy⟩ : ∃ j_ : Int, (shr .i64 v y2) = j_ := ⟨_, rfl⟩
                  rw [hsy] at h
                  have hsya : (v / 2 ^ min y2.toNat 64) = sy := hsy
                  clear hsy
                  obtain ⟨z, hz, h⟩ := Option.bind_eq_some_iff.mp h
                  obtain ⟨x, hx, h⟩ := Option.bind_eq_some_iff.mp h
                  obtain ⟨z1, z2, z3⟩ := z
                  obtain ⟨x1, x2, x3⟩ := x
                  by_cases cL : x2.length < 4398046511104
                  rotate_left
                  · rw [if_neg cL] at h; exact absurd h (by simp)
                  rw [if_pos cL] at h
                  by_cases cM : x3.length < 4398046511104
                  rotate_left
                  · rw [if_neg cM] at h; exact absurd h (by simp)
                  rw [if_pos cM] at h
                  simp only [Option.some.injEq, Prod.mk.injEq] at h
                  obtain ⟨rfl, rfl, rfl⟩ := h
                  have LM1 := Aside0.mk cL
                  have LM2 := Aside0.mk cM
                  clear cL cM
                  go_upto_region 13 with (fail)
                  by_cases cA : Int.tmod i a1 < d
                  · have cA' : decide (Int.tmod i a1 < d) = true := decide_eq_true cA
                    by_cases cB : Int.tmod su 2 = 0
                    · rw [if_pos ⟨cA, cB⟩] at hz
                      have cB' : (Int.tmod su 2 == 0) = true := beq_iff_eq.mpr cB
                      clear cA cB
                      obtain ⟨⟨m1, m2, m3⟩, hf1, hz⟩ := Option.bind_eq_some_iff.mp hz
                      simp only [Option.some.injEq, Prod.mk.injEq] at hz
                      obtain ⟨hz1, rfl, rfl⟩ := hz
                      have HF1 := Aside0.mk hf1
                      clear hf1
                      obtain ⟨s1, hs1⟩ : ∃ c_ : Int, c_ = wrap64 (0 + m1) := ⟨_, rfl⟩
                      have hs1w : wrap64 (0 + m1) = s1 := hs1.symm
                      have hs1v : IntKind.i64.wrap (0 + m1) = s1 := by rw [i64_w]; exact hs1.symm
                      have HWFs1 : Aside0 ((Lit.int .i64 s1).wf = true) := ⟨by rw [hs1]; exact wf_wrapW _⟩
                      have hs1z : wrap64 m1 = s1 := by rw [hs1, Int.zero_add]
                      have hs1y : IntKind.i64.wrap m1 = s1 := by rw [i64_w]; exact hs1z
                      rw [← hs1] at hz1
                      subst hz1
                      clear hs1
                      go_quiet (fail)
                      go_wp2_with fail
                      refine start_ (n := 15) (S := fun w' => w'.cell? ⟨w.heap.size, 0, none⟩ = some (.int .i64 a0) ∧ w'.cell? ⟨w.heap.size, 1, none⟩ = some (.int .i64 a1) ∧ w'.cell? ⟨w.heap.size, 2, none⟩ = some (.int .i64 a2)) (ds := []) #[false, false, false, false, false, false, false, false, false, false, false, false, false, false, false] (by kernel_rfl) rfl rfl ⟨blk_cell HGz.out 0, blk_cell HGz.out 1, blk_cell HGz.out 2⟩ (fun hHeld => ?_); refine with_tabW spec_l14Ways.tab14 spec_l14Ways.bits14 (fun HT_ HW_ => ?_)
                      refine pure_ (i := 0) (N := some 71) (v := ?_) (a' := ?_) #[true, false, false, false, false, false, false, false, false, false, false, false, false, false, false] rfl rfl (any_of HT_.out (by kernel_rfl)) (fun _ _ _ h => h) (Or.inl ⟨by rfl, ?_⟩) ?_ ?_
                      rotate_left
                      · intro w'
                        go_simp
                        with_reducible rfl
                      rotate_left
                      · simp only [Act.put, List.setIfInBounds_toArray, List.set_cons_zero, List.set_cons_succ, i64_w, i32_w]
                        rfl
                      refine take_ (i := 1) (N := some 72) (v := ?_) (a' := ?_) #[true, true, false, false, false, false, false, false, false, false, false, false, false, false, false] rfl rfl (take_ofW HT_.out HW_.out (by kernel_rfl)) (fun _ _ _ h => h) (Or.inl ⟨by rfl, ?_⟩) hHeld ?_ ?_
                      rotate_left
                      · rintro w' ⟨s0, s1, s2⟩
                        go_simp
                        with_reducible rfl
                      rotate_left
                      · simp only [Act.put, List.setIfInBounds_toArray, List.set_cons_zero, List.set_cons_succ, i64_w, i32_w]
                        rfl
                      refine pure_ (i := 2) (N := some 73) (v := ?_) (a' := ?_) #[true, true, true, false, false, false, false, false, false, false, false, false, false, false, false] rfl rfl (any_of HT_.out (by kernel_rfl)) (fun _ _ _ h => h) (Or.inl ⟨by rfl, ?_⟩) ?_ ?_
                      rotate_left
                      · intro w'
                        go_simp
                        with_reducible rfl
                      rotate_left
                      · simp only [Act.put, List.setIfInBounds_toArray, List.set_cons_zero, List.set_cons_succ, i64_w, i32_w]
                        rfl
                      refine pure_ (i := 3) (N := some 74) (v := ?_) (a' := ?_) #[true, true, true, true, false, false, false, false, false, false, false, false, false, false, false] rfl rfl (any_of HT_.out (by kernel_rfl)) (fun _ _ _ h => h) (Or.inl ⟨by rfl, ?_⟩) ?_ ?_
                      rotate_left
                      · intro w'
                        go_simp
                        with_reducible rfl
                      rotate_left
                      · simp only [Act.put, List.setIfInBounds_toArray, List.set_cons_zero, List.set_cons_succ, i64_w, i32_w]
                        rfl
                      refine pure_ (i := 4) (N := some 75) (v := ?_) (a' := ?_) #[true, true, true, true, true, false, false, false, false, false, false, false, false, false, false] rfl rfl (any_of HT_.out (by kernel_rfl)) (fun _ _ _ h => h) (Or.inl ⟨by rfl, ?_⟩) ?_ ?_
                      rotate_left
                      · intro w'
                        go_simp
                        with_reducible rfl
                      rotate_left
                      · simp only [Act.put, List.setIfInBounds_toArray, List.set_cons_zero, List.set_cons_succ, i64_w, i32_w]
                        rfl
                      refine pure_ (i := 5) (N := some 76) (v := ?_) (a' := ?_) #[true, true, true, true, true, true, false, false, false, false, false, false, false, false, false] rfl rfl (any_of HT_.out (by kernel_rfl)) (fun _ _ _ h => h) (Or.inl ⟨by rfl, ?_⟩) ?_ ?_
                      rotate_left
                      · intro w'
                        go_simp
                        with_reducible rfl
                      rotate_left
                      · simp only [Act.put, List.setIfInBounds_toArray, List.set_cons_zero, List.set_cons_succ, i64_w, i32_w]
                        rfl
                      refine pure_ (i := 6) (N := some 77) (v := ?_) (a' := ?_) #[true, true, true, true, true, true, true, false, false, false, false, false, false, false, false] rfl rfl (any_of HT_.out (by kernel_rfl)) (fun _ _ _ h => h) (Or.inl ⟨by rfl, ?_⟩) ?_ ?_
                      rotate_left
                      · intro w'
                        go_simp
                        with_reducible rfl
                      rotate_left
                      · simp only [Act.put, List.setIfInBounds_toArray, List.set_cons_zero, List.set_cons_succ, i64_w, i32_w]
                        rfl
                      refine pure_ (i := 7) (N := some 78) (v := ?_) (a' := ?_) #[true, true, true, true, true, true, true, true, false, false, false, false, false, false, false] rfl rfl (any_of HT_.out (by kernel_rfl)) (fun _ _ _ h => h) (Or.inl ⟨by rfl, ?_⟩) ?_ ?_
                      rotate_left
                      · intro w'
                        go_simp
                        with_reducible rfl
                      rotate_left
                      · simp only [Act.put, List.setIfInBounds_toArray, List.set_cons_zero, List.set_cons_succ, i64_w, i32_w]
                        rfl
                      refine pure_ (i := 8) (N := some 79) (v := ?_) (a' := ?_) #[true, true, true, true, true, true, true, true, true, false, false, false, false, false, false] rfl rfl (any_of HT_.out (by kernel_rfl)) (fun _ _ _ h => h) (Or.inl ⟨by rfl, ?_⟩) ?_ ?_
                      rotate_left
                      · intro w'
                        go_simp
                        with_reducible rfl
                      rotate_left
                      · simp only [Act.put, List.setIfInBounds_toArray, List.set_cons_zero, List.set_cons_succ, i64_w, i32_w]
                        rfl
                      refine pure_ (i := 9) (N := some 80) (v := ?_) (a' := ?_) #[true, true, true, true, true, true, true, true, true, true, false, false, false, false, false] rfl rfl (any_of HT_.out (by kernel_rfl)) (fun _ _ _ h => h) (Or.inl ⟨by rfl, ?_⟩) ?_ ?_
                      rotate_left
                      · intro w'
                        go_simp
                        with_reducible rfl
                      rotate_left
                      · simp only [Act.put, List.setIfInBounds_toArray, List.set_cons_zero, List.set_cons_succ, i64_w, i32_w]
                        rfl
                      refine pure_ (i := 10) (N := some 81) (v := ?_) (a' := ?_) #[true, true, true, true, true, true, true, true, true, true, true, false, false, false, false] rfl rfl (any_of HT_.out (by kernel_rfl)) (fun _ _ _ h => h) (Or.inl ⟨by rfl, ?_⟩) ?_ ?_
                      rotate_left
                      · intro w'
                        go_simp
                        with_reducible rfl
                      rotate_left
                      · simp only [Act.put, List.setIfInBounds_toArray, List.set_cons_zero, List.set_cons_succ, i64_w, i32_w]
                        rfl
                      refine pure_ (i := 11) (N := some 82) (v := ?_) (a' := ?_) #[true, true, true, true, true, true, true, true, true, true, true, true, false, false, false] rfl rfl (any_of HT_.out (by kernel_rfl)) (fun _ _ _ h => h) (Or.inl ⟨by rfl, ?_⟩) ?_ ?_
                      rotate_left
                      · intro w'
                        go_simp
                        with_reducible rfl
                      rotate_left
                      · simp only [Act.put, List.setIfInBounds_toArray, List.set_cons_zero, List.set_cons_succ, i64_w, i32_w]
                        rfl
                      refine one_ (i := 12) (N := some 83) #[true, true, true, true, true, true, true, true, true, true, true, true, true, false, false] rfl rfl (one_of HT_.out (by kernel_rfl)) (by decide) (fun K hK => ?_)
                      refine call_ 24 #[.agg #[.int .i64 a0, .int .i64 a1, .int .i64 a2], .int .i64 (Go.bits .or .i64 (Go.bits .or .i64 v jt) ju), .pointer (some ⟨bk, 0, none⟩), .pointer (some ⟨bw, 0, none⟩)] (by rfl) rfl ?_ ?_
                      · first | (go_simp; done) | (go_simp; rfl)
                      refine (HIH.out _ ks ns m1 m2 m3 _ (by first | exact below_step HBz.out (Below.refl _ _) | exact below_step HBz.out (below_drew1 (Below.refl _ _)) | exact below_step HBz.out (pw_below_drewN (Below.refl _ _) _) | exact below_step HBz.out (below_drew1 (pw_below_drewN (Below.refl _ _) _))) (by first | exact HVz.out | exact HVz.out.below (below_drew1 (Below.refl _ _)) | exact HVz.out.below (pw_below_drewN (Below.refl _ _) _) | exact HVz.out.below (below_drew1 (pw_below_drewN (Below.refl _ _) _))) HF1.out).mono ?_
                      rintro e wcA ⟨rfl, hd1, hd2, hd3⟩
                      have HBa := Aside0.mk hd1
                      have HVa := Aside0.mk hd2
                      have HKa := Aside0.mk (Keep.trans (by first | exact HKp1.out | exact HKp1.out.of_below (below_drew1 (Below.refl _ _)) | exact HKp1.out.of_below (pw_below_drewN (Below.refl _ _) _) | exact HKp1.out.of_below (below_drew1 (pw_below_drewN (Below.refl _ _) _))) hd3)
                      have HXa := Aside0.mk ((HKa.out.2 _ 25 _ (by decide) HGB.out).trans HGB.out)
                      have cxa : wcA.cell? ⟨w.heap.size, 1, none⟩ = some (.int .i64 a1) := blk_cell HXa.out 1
                      have cya : wcA.cell? ⟨w.heap.size, 0, none⟩ = some (.int .i64 a0) := blk_cell HXa.out 0
                      have cza : wcA.cell? ⟨w.heap.size, 2, none⟩ = some (.int .i64 a2) := blk_cell HXa.out 2
                      clear hd1 hd2 hd3
                      refine ⟨_, rfl, ?_⟩
                      refine hK.out _ _ ⟨cya, cxa, cza⟩ (fun hHeld => ?_)
                      clear hK K
                      refine norm_ (a' := ?_) ?_ ?_
                      rotate_left
                      · show Act.put _ (some 83) _ = _
                        simp only [Act.put, List.setIfInBounds_toArray, List.set_cons_zero, List.set_cons_succ, i64_w, i32_w]
                        rfl
                      refine pure_ (i := 13) (N := some 84) (v := ?_) (a' := ?_) #[true, true, true, true, true, true, true, true, true, true, true, true, true, true, false] rfl rfl (any_of HT_.out (by kernel_rfl)) (fun _ _ _ h => h) (Or.inl ⟨by rfl, ?_⟩) ?_ ?_
                      rotate_left
                      · intro w'
                        go_simp
                        with_reducible rfl
                      rotate_left
                      · simp only [Act.put, List.setIfInBounds_toArray, List.set_cons_zero, List.set_cons_succ, i64_w, i32_w]
                        rfl
                      refine pure_ (i := 14) (N := some 12) (v := ?_) (a' := ?_) #[true, true, true, true, true, true, true, true, true, true, true, true, true, true, true] rfl rfl (any_of HT_.out (by kernel_rfl)) (fun _ _ _ h => h) (Or.inl ⟨by rfl, ?_⟩) ?_ ?_
                      rotate_left
                      · intro w'
                        go_simp
                        with_reducible rfl
                      rotate_left
                      · simp only [Act.put, List.setIfInBounds_toArray, List.set_cons_zero, List.set_cons_succ, i64_w, i32_w]
                        rfl
                      refine done_ (done_of HT_.out (by kernel_rfl)) ?_
                      by_cases cC : y2 < cells
                      · have cC' : decide (y2 < cells) = true := decide_eq_true cC
                        by_cases cD : Int.tmod sy 2 = 0
                        · rw [if_pos ⟨cC, cD⟩] at hx
                          have cD' : (Int.tmod sy 2 == 0) = true := beq_iff_eq.mpr cD
                          clear cC cD
                          obtain ⟨⟨n1, n2, n3⟩, hf2, hx⟩ := Option.bind_eq_some_iff.mp hx
                          simp only [Option.some.injEq, Prod.mk.injEq] at hx
                          obtain ⟨hx1, rfl, rfl⟩ := hx
                          have HF2 := Aside0.mk hf2
                          clear hf2
                          obtain ⟨s2, hs2⟩ : ∃ c_ : Int, c_ = wrap64 (s1 + n1) := ⟨_, rfl⟩
                          have hs2w : wrap64 (s1 + n1) = s2 := hs2.symm
                          have hs2v : IntKind.i64.wrap (s1 + n1) = s2 := by rw [i64_w]; exact hs2.symm
                          have HWFs2 : Aside0 ((Lit.int .i64 s2).wf = true) := ⟨by rw [hs2]; exact wf_wrapW _⟩
                          rw [← hs2] at hx1
                          subst hx1
                          clear hs2
                          go_wp2_with fail
                          refine start_ (n := 17) (S := fun w' => w'.cell? ⟨w.heap.size, 0, none⟩ = some (.int .i64 a0) ∧ w'.cell? ⟨w.heap.size, 1, none⟩ = some (.int .i64 a1) ∧ w'.cell? ⟨w.heap.size, 2, none⟩ = some (.int .i64 a2)) (ds := []) #[false, false, false, false, false, false, false, false, false, false, false, false, false, false, false, false, false] (by kernel_rfl) rfl rfl ⟨blk_cell HXa.out 0, blk_cell HXa.out 1, blk_cell HXa.out 2⟩ (fun hHeld => ?_); refine with_tabW spec_l14Ways.tab16 spec_l14Ways.bits16 (fun HT_ HW_ => ?_)
                          refine pure_ (i := 0) (N := some 101) (v := ?_) (a' := ?_) #[true, false, false, false, false, false, false, false, false, false, false, false, false, false, false, false, false] rfl rfl (any_of HT_.out (by kernel_rfl)) (fun _ _ _ h => h) (Or.inl ⟨by rfl, ?_⟩) ?_ ?_
                          rotate_left
                          · intro w'
                            go_simp
                            with_reducible rfl
                          rotate_left
                          · simp only [Act.put, List.setIfInBounds_toArray, List.set_cons_zero, List.set_cons_succ, i64_w, i32_w]
                            rfl
                          refine take_ (i := 1) (N := some 102) (v := ?_) (a' := ?_) #[true, true, false, false, false, false, false, false, false, false, false, false, false, false, false, false, false] rfl rfl (take_ofW HT_.out HW_.out (by kernel_rfl)) (fun _ _ _ h => h) (Or.inl ⟨by rfl, ?_⟩) hHeld ?_ ?_
                          rotate_left
                          · rintro w' ⟨s0, s1, s2⟩
                            go_simp
                            with_reducible rfl
                          rotate_left
                          · simp only [Act.put, List.setIfInBounds_toArray, List.set_cons_zero, List.set_cons_succ, i64_w, i32_w]
                            rfl
                          refine pure_ (i := 2) (N := some 103) (v := ?_) (a' := ?_) #[true, true, true, false, false, false, false, false, false, false, false, false, false, false, false, false, false] rfl rfl (any_of HT_.out (by kernel_rfl)) (fun _ _ _ h => h) (Or.inl ⟨by rfl, ?_⟩) ?_ ?_
                          rotate_left
                          · intro w'
                            go_simp
                            with_reducible rfl
                          rotate_left
                          · simp only [Act.put, List.setIfInBounds_toArray, List.set_cons_zero, List.set_cons_succ, i64_w, i32_w]
                            rfl
                          refine pure_ (i := 3) (N := some 104) (v := ?_) (a' := ?_) #[true, true, true, true, false, false, false, false, false, false, false, false, false, false, false, false, false] rfl rfl (any_of HT_.out (by kernel_rfl)) (fun _ _ _ h => h) (Or.inl ⟨by rfl, ?_⟩) ?_ ?_
                          rotate_left
                          · intro w'
                            go_simp
                            with_reducible rfl
                          rotate_left
                          · simp only [Act.put, List.setIfInBounds_toArray, List.set_cons_zero, List.set_cons_succ, i64_w, i32_w]
                            rfl
                          refine pure_ (i := 4) (N := some 105) (v := ?_) (a' := ?_) #[true, true, true, true, true, false, false, false, false, false, false, false, false, false, false, false, false] rfl rfl (any_of HT_.out (by kernel_rfl)) (fun _ _ _ h => h) (Or.inl ⟨by rfl, ?_⟩) ?_ ?_
                          rotate_left
                          · intro w'
                            go_simp
                            with_reducible rfl
                          rotate_left
                          · simp only [Act.put, List.setIfInBounds_toArray, List.set_cons_zero, List.set_cons_succ, i64_w, i32_w]
                            rfl
                          refine pure_ (i := 5) (N := some 106) (v := ?_) (a' := ?_) #[true, true, true, true, true, true, false, false, false, false, false, false, false, false, false, false, false] rfl rfl (any_of HT_.out (by kernel_rfl)) (fun _ _ _ h => h) (Or.inl ⟨by rfl, ?_⟩) ?_ ?_
                          rotate_left
                          · intro w'
                            go_simp
                            with_reducible rfl
                          rotate_left
                          · simp only [Act.put, List.setIfInBounds_toArray, List.set_cons_zero, List.set_cons_succ, i64_w, i32_w]
                            rfl
                          refine pure_ (i := 6) (N := some 107) (v := ?_) (a' := ?_) #[true, true, true, true, true, true, true, false, false, false, false, false, false, false, false, false, false] rfl rfl (any_of HT_.out (by kernel_rfl)) (fun _ _ _ h => h) (Or.inl ⟨by rfl, ?_⟩) ?_ ?_
                          rotate_left
                          · intro w'
                            go_simp
                            with_reducible rfl
                          rotate_left
                          · simp only [Act.put, List.setIfInBounds_toArray, List.set_cons_zero, List.set_cons_succ, i64_w, i32_w]
                            rfl
                          refine pure_ (i := 7) (N := some 108) (v := ?_) (a' := ?_) #[true, true, true, true, true, true, true, true, false, false, false, false, false, false, false, false, false] rfl rfl (any_of HT_.out (by kernel_rfl)) (fun _ _ _ h => h) (Or.inl ⟨by rfl, ?_⟩) ?_ ?_
                          rotate_left
                          · intro w'
                            go_simp
                            with_reducible rfl
                          rotate_left
                          · simp only [Act.put, List.setIfInBounds_toArray, List.set_cons_zero, List.set_cons_succ, i64_w, i32_w]
                            rfl
                          refine take_ (i := 8) (N := some 109) (v := ?_) (a' := ?_) #[true, true, true, true, true, true, true, true, true, false, false, false, false, false, false, false, false] rfl rfl (take_ofW HT_.out HW_.out (by kernel_rfl)) (fun _ _ _ h => h) (Or.inl ⟨by rfl, ?_⟩) hHeld ?_ ?_
                          rotate_left
                          · rintro w' ⟨s0, s1, s2⟩
                            go_simp
                            with_reducible rfl
                          rotate_left
                          · simp only [Act.put, List.setIfInBounds_toArray, List.set_cons_zero, List.set_cons_succ, i64_w, i32_w]
                            rfl
                          refine pure_ (i := 9) (N := some 110) (v := ?_) (a' := ?_) #[true, true, true, true, true, true, true, true, true, true, false, false, false, false, false, false, false] rfl rfl (any_of HT_.out (by kernel_rfl)) (fun _ _ _ h => h) (Or.inl ⟨by rfl, ?_⟩) ?_ ?_
                          rotate_left
                          · intro w'
                            go_simp
                            with_reducible rfl
                          rotate_left
                          · simp only [Act.put, List.setIfInBounds_toArray, List.set_cons_zero, List.set_cons_succ, i64_w, i32_w]
                            rfl
                          refine pure_ (i := 10) (N := some 111) (v := ?_) (a' := ?_) #[true, true, true, true, true, true, true, true, true, true, true, false, false, false, false, false, false] rfl rfl (any_of HT_.out (by kernel_rfl)) (fun _ _ _ h => h) (Or.inl ⟨by rfl, ?_⟩) ?_ ?_
                          rotate_left
                          · intro w'
                            go_simp
                            with_reducible rfl
                          rotate_left
                          · simp only [Act.put, List.setIfInBounds_toArray, List.set_cons_zero, List.set_cons_succ, i64_w, i32_w]
                            rfl
                          refine pure_ (i := 11) (N := some 112) (v := ?_) (a' := ?_) #[true, true, true, true, true, true, true, true, true, true, true, true, false, false, false, false, false] rfl rfl (any_of HT_.out (by kernel_rfl)) (fun _ _ _ h => h) (Or.inl ⟨by rfl, ?_⟩) ?_ ?_
                          rotate_left
                          · intro w'
                            go_simp
                            with_reducible rfl
                          rotate_left
                          · simp only [Act.put, List.setIfInBounds_toArray, List.set_cons_zero, List.set_cons_succ, i64_w, i32_w]
                            rfl
                          refine pure_ (i := 12) (N := some 113) (v := ?_) (a' := ?_) #[true, true, true, true, true, true, true, true, true, true, true, true, true, false, false, false, false] rfl rfl (any_of HT_.out (by kernel_rfl)) (fun _ _ _ h => h) (Or.inl ⟨by rfl, ?_⟩) ?_ ?_
                          rotate_left
                          · intro w'
                            go_simp
                            with_reducible rfl
                          rotate_left
                          · simp only [Act.put, List.setIfInBounds_toArray, List.set_cons_zero, List.set_cons_succ, i64_w, i32_w]
                            rfl
                          refine pure_ (i := 13) (N := some 114) (v := ?_) (a' := ?_) #[true, true, true, true, true, true, true, true, true, true, true, true, true, true, false, false, false] rfl rfl (any_of HT_.out (by kernel_rfl)) (fun _ _ _ h => h) (Or.inl ⟨by rfl, ?_⟩) ?_ ?_
                          rotate_left
                          · intro w'
                            go_simp
                            with_reducible rfl
                          rotate_left
                          · simp only [Act.put, List.setIfInBounds_toArray, List.set_cons_zero, List.set_cons_succ, i64_w, i32_w]
                            rfl
                          refine one_ (i := 14) (N := some 115) #[true, true, true, true, true, true, true, true, true, true, true, true, true, true, true, false, false] rfl rfl (one_of HT_.out (by kernel_rfl)) (by decide) (fun K hK => ?_)
                          refine call_ 24 #[.agg #[.int .i64 a0, .int .i64 a1, .int .i64 a2], .int .i64 (Go.bits .or .i64 (Go.bits .or .i64 v jt) jy), .pointer (some ⟨bk, 0, none⟩), .pointer (some ⟨bw, 0, none⟩)] (by rfl) rfl ?_ ?_
                          · first | (go_simp; done) | (go_simp; rfl)
                          refine (HIH.out _ m2 m3 n1 n2 n3 _ (by first | exact below_step HBa.out (Below.refl _ _) | exact below_step HBa.out (below_drew1 (Below.refl _ _)) | exact below_step HBa.out (pw_below_drewN (Below.refl _ _) _) | exact below_step HBa.out (below_drew1 (pw_below_drewN (Below.refl _ _) _))) (by first | exact HVa.out | exact HVa.out.below (below_drew1 (Below.refl _ _)) | exact HVa.out.below (pw_below_drewN (Below.refl _ _) _) | exact HVa.out.below (below_drew1 (pw_below_drewN (Below.refl _ _) _))) HF2.out).mono ?_
                          rintro e wcB ⟨rfl, hd1, hd2, hd3⟩
                          have HBb := Aside0.mk hd1
                          have HVb := Aside0.mk hd2
                          have HKb := Aside0.mk (Keep.trans (by first | exact HKa.out | exact HKa.out.of_below (below_drew1 (Below.refl _ _)) | exact HKa.out.of_below (pw_below_drewN (Below.refl _ _) _) | exact HKa.out.of_below (below_drew1 (pw_below_drewN (Below.refl _ _) _))) hd3)
                          have HXb := Aside0.mk ((HKb.out.2 _ 25 _ (by decide) HGB.out).trans HGB.out)
                          have cxb : wcB.cell? ⟨w.heap.size, 1, none⟩ = some (.int .i64 a1) := blk_cell HXb.out 1
                          have cyb : wcB.cell? ⟨w.heap.size, 0, none⟩ = some (.int .i64 a0) := blk_cell HXb.out 0
                          have czb : wcB.cell? ⟨w.heap.size, 2, none⟩ = some (.int .i64 a2) := blk_cell HXb.out 2
                          clear hd1 hd2 hd3
                          refine ⟨_, rfl, ?_⟩
                          refine hK.out _ _ ⟨cyb, cxb, czb⟩ (fun hHeld => ?_)
                          clear hK K
                          refine norm_ (a' := ?_) ?_ ?_
                          rotate_left
                          · show Act.put _ (some 115) _ = _
                            simp only [Act.put, List.setIfInBounds_toArray, List.set_cons_zero, List.set_cons_succ, i64_w, i32_w]
                            rfl
                          refine pure_ (i := 15) (N := some 116) (v := ?_) (a' := ?_) #[true, true, true, true, true, true, true, true, true, true, true, true, true, true, true, true, false] rfl rfl (any_of HT_.out (by kernel_rfl)) (fun _ _ _ h => h) (Or.inl ⟨by rfl, ?_⟩) ?_ ?_
                          rotate_left
                          · intro w'
                            go_simp
                            with_reducible rfl
                          rotate_left
                          · simp only [Act.put, List.setIfInBounds_toArray, List.set_cons_zero, List.set_cons_succ, i64_w, i32_w]
                            rfl
                          refine pure_ (i := 16) (N := some 12) (v := ?_) (a' := ?_) #[true, true, true, true, true, true, true, true, true, true, true, true, true, true, true, true, true] rfl rfl (any_of HT_.out (by kernel_rfl)) (fun _ _ _ h => h) (Or.inl ⟨by rfl, ?_⟩) ?_ ?_
                          rotate_left
                          · intro w'
                            go_simp
                            with_reducible rfl
                          rotate_left
                          · simp only [Act.put, List.setIfInBounds_toArray, List.set_cons_zero, List.set_cons_succ, i64_w, i32_w]
                            rfl
                          refine done_ (done_of HT_.out (by kernel_rfl)) ?_
                          obtain ⟨vk2, vw2, hgk2, hgw2, hrk2, hrw2⟩ := HVb.out
                          obtain ⟨Ak2, ck2, ek2⟩ := Kd.R_slice hrk2
                          subst ek2
                          obtain ⟨Aw2, cw2, ew2⟩ := Kd.R_slice hrw2
                          subst ew2
                          have HGK2 := Aside0.mk hgk2
                          have HGW2 := Aside0.mk hgw2
                          have HRK2 := Aside0.mk hrk2
                          have HRW2 := Aside0.mk hrw2
                          have ckf := blk_cell hgk2 0
                          clear ck0 cw0
                          clear hgk2 hgw2 hrk2 hrw2
                          go_wp2_with (first | ((with_reducible refine gate_builtin (b := .append) (xs := #[.tmp 120, .tmp 122]) rfl ?_); at_builtin; refine Kd.R_append (Kd.int .i64) (w0 := W0) W0.heap.size rfl (.tmp 120) (.tmp 122) 28 3 (.int .i64 0) 8 rfl Tryd.underlying28 hi3 rfl (by decide) (by omega) (.slice Ak2 n2.length ck2) n2 v [.int .i64 v] (fun q => some q ≠ (Value.slice Aw2 n3.length cw2).ownBlock) (fun _ => False) rfl rfl ?aP (fun _ hk => hk.elim) ?aF ?aO ?aB ?aS ?aL ?_; (case aP => exact rfl); (case aF => exact fun q hq e1 => Nat.lt_irrefl _ (Nat.lt_of_lt_of_le (own_lt_R (by first | exact HRW2.out | exact Kd.R_below HRW2.out (pw_below_drewN (Below.refl _ _) _)) q e1.symm) hq)); (case aO => exact (by first | exact HRK2.out | exact Kd.R_below HRK2.out (pw_below_drewN (Below.refl _ _) _))); (case aB => exact (by first | exact below_step HBb.out (Below.refl _ _) | exact below_step HBb.out (below_drew1 (Below.refl _ _)) | exact below_step HBb.out (pw_below_drewN (Below.refl _ _) _) | exact below_step HBb.out (below_drew1 (pw_below_drewN (Below.refl _ _) _)))); (case aS => exact below_size (by first | exact below_step HBb.out (Below.refl _ _) | exact below_step HBb.out (below_drew1 (Below.refl _ _)) | exact below_step HBb.out (pw_below_drewN (Below.refl _ _) _) | exact below_step HBb.out (below_drew1 (pw_below_drewN (Below.refl _ _) _)))); (case aL => have := LM1.out; omega); intro v7 w7 ho hb hgr hat; obtain ⟨Ad7, cd7, ev7⟩ := Kd.R_slice ho; subst ev7; simp only [List.length_append, List.length_singleton] at ho hat; have HO7 := Aside0.mk ho; have HB7 := Aside0.mk hb; have HGK7 := Aside0.mk (blk_grown (by first | exact HGK2.out | exact blk_drewN HGK2.out _) hgr (Kd.R_ne (by first | exact HRK2.out | exact Kd.R_below HRK2.out (pw_below_drewN (Below.refl _ _) _)) (by first | exact HGK2.out | exact blk_drewN HGK2.out _) (by decide))); have HGW7 := Aside0.mk (blk_grown (by first | exact HGW2.out | exact blk_drewN HGW2.out _) hgr (Kd.R_ne (by first | exact HRK2.out | exact Kd.R_below HRK2.out (pw_below_drewN (Below.refl _ _) _)) (by first | exact HGW2.out | exact blk_drewN HGW2.out _) (by decide))); have HRW7 := Aside0.mk (two_other (by first | exact HRW2.out | exact Kd.R_below HRW2.out (pw_below_drewN (Below.refl _ _) _)) hgr hat); have HK7 := Aside0.mk (Keep.grown (by first | exact HKb.out | exact HKb.out.of_below (below_drew1 (Below.refl _ _)) | exact HKb.out.of_below (pw_below_drewN (Below.refl _ _) _) | exact HKb.out.of_below (below_drew1 (pw_below_drewN (Below.refl _ _) _))) (by first | exact HRK2.out | exact Kd.R_below HRK2.out (pw_below_drewN (Below.refl _ _) _)) (by decide) hgr); have hfz7 := blk_frozen HGK7.out 0; have hcell7 := blk_cell HGK7.out 0; have hcw7 : (w7.setCell ⟨bk, 0, none⟩ (.slice Ad7 (n2.length + 1) cd7)).cell? ⟨bw, 0, none⟩ = some (.slice Aw2 n3.length cw2) := blk_cell ((Below.heap_setCell w7 ⟨bk, 0, none⟩ _ bw (fun e1 => HNE.out e1.symm)).trans HGW7.out) 0; clear ho hb hgr hat) | ((with_reducible refine gate_builtin (b := .append) (xs := #[.tmp 128, .tmp 130]) rfl ?_); at_builtin; refine Kd.R_append (Kd.int .i64) (w0 := W0) W0.heap.size rfl (.tmp 128) (.tmp 130) 28 3 (.int .i64 0) 8 rfl Tryd.underlying28 hi3 rfl (by decide) (by omega) (.slice Aw2 n3.length cw2) n3 s2 [.int .i64 s2] (fun q => some q ≠ (Value.slice Ad7 (n2.length + 1) cd7).ownBlock) (fun _ => False) rfl (by first | rfl | (rw [Go.World.size_setCell]; rfl)) ?aP (fun _ hk => hk.elim) ?aF ?aO ?aB ?aS ?aL ?_; (case aP => exact rfl); (case aF => exact fun q hq e1 => Nat.lt_irrefl _ (Nat.lt_of_lt_of_le (own_lt_R (Kd.R_set HO7.out HGK7.out (by simp [Kd.int, Kd.scalar]) 0 (.slice Ad7 (n2.length + 1) cd7)) q e1.symm) hq)); (case aO => exact Kd.R_set HRW7.out HGK7.out (by simp [Kd.int, Kd.scalar]) 0 _); (case aB => exact HB7.out.setCell HK0.out _); (case aS => exact below_size (HB7.out.setCell HK0.out _)); (case aL => have := LM2.out; omega); intro v8 w8 ho hb hgr hat; obtain ⟨Ad8, cd8, ev8⟩ := Kd.R_slice ho; subst ev8; simp only [List.length_append, List.length_singleton] at ho hat; have HO8 := Aside0.mk ho; have HB8 := Aside0.mk hb; have HGW8 := Aside0.mk (blk_grown ((Below.heap_setCell w7 ⟨bk, 0, none⟩ (.slice Ad7 (n2.length + 1) cd7) bw (fun e1 => HNE.out e1.symm)).trans HGW7.out) hgr (Kd.R_ne (Kd.R_set HRW7.out HGK7.out (by simp [Kd.int, Kd.scalar]) 0 (.slice Ad7 (n2.length + 1) cd7)) ((Below.heap_setCell w7 ⟨bk, 0, none⟩ (.slice Ad7 (n2.length + 1) cd7) bw (fun e1 => HNE.out e1.symm)).trans HGW7.out) (by decide))); have HGK8 := Aside0.mk (blk_grown (blk_put HGK7.out 0 (.slice Ad7 (n2.length + 1) cd7) rfl) hgr (Kd.R_ne (Kd.R_set HRW7.out HGK7.out (by simp [Kd.int, Kd.scalar]) 0 (.slice Ad7 (n2.length + 1) cd7)) (blk_put HGK7.out 0 (.slice Ad7 (n2.length + 1) cd7) rfl) (by decide))); have HRK8 := Aside0.mk (two_other (vk := .slice Aw2 n3.length cw2) (Kd.R_set HO7.out HGK7.out (by simp [Kd.int, Kd.scalar]) 0 (.slice Ad7 (n2.length + 1) cd7)) hgr hat); have HK8 := Aside0.mk (Keep.grown (Keep.set HK7.out HGK7.out (by decide) 0 (.slice Ad7 (n2.length + 1) cd7)) (Kd.R_set HRW7.out HGK7.out (by simp [Kd.int, Kd.scalar]) 0 (.slice Ad7 (n2.length + 1) cd7)) (by decide) hgr); have hfz8 := blk_frozen HGW8.out 0; have hcell8 := blk_cell HGW8.out 0; clear ho hb hgr hat))
                          go_ret
                          refine ⟨rfl, HB8.out.setCell HW0.out _, ⟨_, _, (Below.heap_setCell w8 ⟨bw, 0, none⟩ _ bk HNE.out).trans HGK8.out, blk_put HGW8.out 0 _ rfl, ?_, ?_⟩, (((Keep.refl [25] w).of_below HBW.out).trans HK8.out).set HGW8.out (by decide) 0 _⟩
                          · have h1 := Kd.R_set HRK8.out HGW8.out (by simp [Kd.int, Kd.scalar]) 0 (.slice Ad8 (n3.length + 1) cd8)
                            exact h1
                          · have h1 := Kd.R_set HO8.out HGW8.out (by simp [Kd.int, Kd.scalar]) 0 (.slice Ad8 (n3.length + 1) cd8)
                            exact h1
                        · rw [if_neg (fun h_ => cD h_.2)] at hx
                          have cD' : (Int.tmod sy 2 == 0) = false := beq_eq_false_iff_ne.mpr cD
                          clear cC cD
                          simp only [Option.some.injEq, Prod.mk.injEq] at hx
                          obtain ⟨rfl, rfl, rfl⟩ := hx
                          obtain ⟨vk2, vw2, hgk2, hgw2, hrk2, hrw2⟩ := HVa.out
                          obtain ⟨Ak2, ck2, ek2⟩ := Kd.R_slice hrk2
                          subst ek2
                          obtain ⟨Aw2, cw2, ew2⟩ := Kd.R_slice hrw2
                          subst ew2
                          have HGK2 := Aside0.mk hgk2
                          have HGW2 := Aside0.mk hgw2
                          have HRK2 := Aside0.mk hrk2
                          have HRW2 := Aside0.mk hrw2
                          have ckf := blk_cell hgk2 0
                          clear ck0 cw0
                          clear hgk2 hgw2 hrk2 hrw2
                          go_wp2_with (first | ((with_reducible refine gate_builtin (b := .append) (xs := #[.tmp 120, .tmp 122]) rfl ?_); at_builtin; refine Kd.R_append (Kd.int .i64) (w0 := W0) W0.heap.size rfl (.tmp 120) (.tmp 122) 28 3 (.int .i64 0) 8 rfl Tryd.underlying28 hi3 rfl (by decide) (by omega) (.slice Ak2 m2.length ck2) m2 v [.int .i64 v] (fun q => some q ≠ (Value.slice Aw2 m3.length cw2).ownBlock) (fun _ => False) rfl rfl ?aP (fun _ hk => hk.elim) ?aF ?aO ?aB ?aS ?aL ?_; (case aP => exact rfl); (case aF => exact fun q hq e1 => Nat.lt_irrefl _ (Nat.lt_of_lt_of_le (own_lt_R (by first | exact HRW2.out | exact Kd.R_below HRW2.out (pw_below_drewN (Below.refl _ _) _)) q e1.symm) hq)); (case aO => exact (by first | exact HRK2.out | exact Kd.R_below HRK2.out (pw_below_drewN (Below.refl _ _) _))); (case aB => exact (by first | exact below_step HBa.out (Below.refl _ _) | exact below_step HBa.out (below_drew1 (Below.refl _ _)) | exact below_step HBa.out (pw_below_drewN (Below.refl _ _) _) | exact below_step HBa.out (below_drew1 (pw_below_drewN (Below.refl _ _) _)))); (case aS => exact below_size (by first | exact below_step HBa.out (Below.refl _ _) | exact below_step HBa.out (below_drew1 (Below.refl _ _)) | exact below_step HBa.out (pw_below_drewN (Below.refl _ _) _) | exact below_step HBa.out (below_drew1 (pw_below_drewN (Below.refl _ _) _)))); (case aL => have := LM1.out; omega); intro v7 w7 ho hb hgr hat; obtain ⟨Ad7, cd7, ev7⟩ := Kd.R_slice ho; subst ev7; simp only [List.length_append, List.length_singleton] at ho hat; have HO7 := Aside0.mk ho; have HB7 := Aside0.mk hb; have HGK7 := Aside0.mk (blk_grown (by first | exact HGK2.out | exact blk_drewN HGK2.out _) hgr (Kd.R_ne (by first | exact HRK2.out | exact Kd.R_below HRK2.out (pw_below_drewN (Below.refl _ _) _)) (by first | exact HGK2.out | exact blk_drewN HGK2.out _) (by decide))); have HGW7 := Aside0.mk (blk_grown (by first | exact HGW2.out | exact blk_drewN HGW2.out _) hgr (Kd.R_ne (by first | exact HRK2.out | exact Kd.R_below HRK2.out (pw_below_drewN (Below.refl _ _) _)) (by first | exact HGW2.out | exact blk_drewN HGW2.out _) (by decide))); have HRW7 := Aside0.mk (two_other (by first | exact HRW2.out | exact Kd.R_below HRW2.out (pw_below_drewN (Below.refl _ _) _)) hgr hat); have HK7 := Aside0.mk (Keep.grown (by first | exact HKa.out | exact HKa.out.of_below (below_drew1 (Below.refl _ _)) | exact HKa.out.of_below (pw_below_drewN (Below.refl _ _) _) | exact HKa.out.of_below (below_drew1 (pw_below_drewN (Below.refl _ _) _))) (by first | exact HRK2.out | exact Kd.R_below HRK2.out (pw_below_drewN (Below.refl _ _) _)) (by decide) hgr); have hfz7 := blk_frozen HGK7.out 0; have hcell7 := blk_cell HGK7.out 0; have hcw7 : (w7.setCell ⟨bk, 0, none⟩ (.slice Ad7 (m2.length + 1) cd7)).cell? ⟨bw, 0, none⟩ = some (.slice Aw2 m3.length cw2) := blk_cell ((Below.heap_setCell w7 ⟨bk, 0, none⟩ _ bw (fun e1 => HNE.out e1.symm)).trans HGW7.out) 0; clear ho hb hgr hat) | ((with_reducible refine gate_builtin (b := .append) (xs := #[.tmp 128, .tmp 130]) rfl ?_); at_builtin; refine Kd.R_append (Kd.int .i64) (w0 := W0) W0.heap.size rfl (.tmp 128) (.tmp 130) 28 3 (.int .i64 0) 8 rfl Tryd.underlying28 hi3 rfl (by decide) (by omega) (.slice Aw2 m3.length cw2) m3 s1 [.int .i64 s1] (fun q => some q ≠ (Value.slice Ad7 (m2.length + 1) cd7).ownBlock) (fun _ => False) rfl (by first | rfl | (rw [Go.World.size_setCell]; rfl)) ?aP (fun _ hk => hk.elim) ?aF ?aO ?aB ?aS ?aL ?_; (case aP => exact rfl); (case aF => exact fun q hq e1 => Nat.lt_irrefl _ (Nat.lt_of_lt_of_le (own_lt_R (Kd.R_set HO7.out HGK7.out (by simp [Kd.int, Kd.scalar]) 0 (.slice Ad7 (m2.length + 1) cd7)) q e1.symm) hq)); (case aO => exact Kd.R_set HRW7.out HGK7.out (by simp [Kd.int, Kd.scalar]) 0 _); (case aB => exact HB7.out.setCell HK0.out _); (case aS => exact below_size (HB7.out.setCell HK0.out _)); (case aL => have := LM2.out; omega); intro v8 w8 ho hb hgr hat; obtain ⟨Ad8, cd8, ev8⟩ := Kd.R_slice ho; subst ev8; simp only [List.length_append, List.length_singleton] at ho hat; have HO8 := Aside0.mk ho; have HB8 := Aside0.mk hb; have HGW8 := Aside0.mk (blk_grown ((Below.heap_setCell w7 ⟨bk, 0, none⟩ (.slice Ad7 (m2.length + 1) cd7) bw (fun e1 => HNE.out e1.symm)).trans HGW7.out) hgr (Kd.R_ne (Kd.R_set HRW7.out HGK7.out (by simp [Kd.int, Kd.scalar]) 0 (.slice Ad7 (m2.length + 1) cd7)) ((Below.heap_setCell w7 ⟨bk, 0, none⟩ (.slice Ad7 (m2.length + 1) cd7) bw (fun e1 => HNE.out e1.symm)).trans HGW7.out) (by decide))); have HGK8 := Aside0.mk (blk_grown (blk_put HGK7.out 0 (.slice Ad7 (m2.length + 1) cd7) rfl) hgr (Kd.R_ne (Kd.R_set HRW7.out HGK7.out (by simp [Kd.int, Kd.scalar]) 0 (.slice Ad7 (m2.length + 1) cd7)) (blk_put HGK7.out 0 (.slice Ad7 (m2.length + 1) cd7) rfl) (by decide))); have HRK8 := Aside0.mk (two_other (vk := .slice Aw2 m3.length cw2) (Kd.R_set HO7.out HGK7.out (by simp [Kd.int, Kd.scalar]) 0 (.slice Ad7 (m2.length + 1) cd7)) hgr hat); have HK8 := Aside0.mk (Keep.grown (Keep.set HK7.out HGK7.out (by decide) 0 (.slice Ad7 (m2.length + 1) cd7)) (Kd.R_set HRW7.out HGK7.out (by simp [Kd.int, Kd.scalar]) 0 (.slice Ad7 (m2.length + 1) cd7)) (by decide) hgr); have hfz8 := blk_frozen HGW8.out 0; have hcell8 := blk_cell HGW8.out 0; clear ho hb hgr hat))
                          go_ret
                          refine ⟨rfl, HB8.out.setCell HW0.out _, ⟨_, _, (Below.heap_setCell w8 ⟨bw, 0, none⟩ _ bk HNE.out).trans HGK8.out, blk_put HGW8.out 0 _ rfl, ?_, ?_⟩, (((Keep.refl [25] w).of_below HBW.out).trans HK8.out).set HGW8.out (by decide) 0 _⟩
                          · have h1 := Kd.R_set HRK8.out HGW8.out (by simp [Kd.int, Kd.scalar]) 0 (.slice Ad8 (m3.length + 1) cd8)
                            exact h1
                          · have h1 := Kd.R_set HO8.out HGW8.out (by simp [Kd.int, Kd.scalar]) 0 (.slice Ad8 (m3.length + 1) cd8)
                            exact h1
                      · rw [if_neg (fun h_ => cC h_.1)] at hx
                        have cC' : decide (y2 < cells) = false := decide_eq_false cC
                        clear cC
                        simp only [Option.some.injEq, Prod.mk.injEq] at hx
                        obtain ⟨rfl, rfl, rfl⟩ := hx
                        obtain ⟨vk2, vw2, hgk2, hgw2, hrk2, hrw2⟩ := HVa.out
                        obtain ⟨Ak2, ck2, ek2⟩ := Kd.R_slice hrk2
                        subst ek2
                        obtain ⟨Aw2, cw2, ew2⟩ := Kd.R_slice hrw2
                        subst ew2
                        have HGK2 := Aside0.mk hgk2
                        have HGW2 := Aside0.mk hgw2
                        have HRK2 := Aside0.mk hrk2
                        have HRW2 := Aside0.mk hrw2
                        have ckf := blk_cell hgk2 0
                        clear ck0 cw0
                        clear hgk2 hgw2 hrk2 hrw2
                        go_wp2_with (first | ((with_reducible refine gate_builtin (b := .append) (xs := #[.tmp 120, .tmp 122]) rfl ?_); at_builtin; refine Kd.R_append (Kd.int .i64) (w0 := W0) W0.heap.size rfl (.tmp 120) (.tmp 122) 28 3 (.int .i64 0) 8 rfl Tryd.underlying28 hi3 rfl (by decide) (by omega) (.slice Ak2 m2.length ck2) m2 v [.int .i64 v] (fun q => some q ≠ (Value.slice Aw2 m3.length cw2).ownBlock) (fun _ => False) rfl rfl ?aP (fun _ hk => hk.elim) ?aF ?aO ?aB ?aS ?aL ?_; (case aP => exact rfl); (case aF => exact fun q hq e1 => Nat.lt_irrefl _ (Nat.lt_of_lt_of_le (own_lt_R (by first | exact HRW2.out | exact Kd.R_below HRW2.out (pw_below_drewN (Below.refl _ _) _)) q e1.symm) hq)); (case aO => exact (by first | exact HRK2.out | exact Kd.R_below HRK2.out (pw_below_drewN (Below.refl _ _) _))); (case aB => exact (by first | exact below_step HBa.out (Below.refl _ _) | exact below_step HBa.out (below_drew1 (Below.refl _ _)) | exact below_step HBa.out (pw_below_drewN (Below.refl _ _) _) | exact below_step HBa.out (below_drew1 (pw_below_drewN (Below.refl _ _) _)))); (case aS => exact below_size (by first | exact below_step HBa.out (Below.refl _ _) | exact below_step HBa.out (below_drew1 (Below.refl _ _)) | exact below_step HBa.out (pw_below_drewN (Below.refl _ _) _) | exact below_step HBa.out (below_drew1 (pw_below_drewN (Below.refl _ _) _)))); (case aL => have := LM1.out; omega); intro v7 w7 ho hb hgr hat; obtain ⟨Ad7, cd7, ev7⟩ := Kd.R_slice ho; subst ev7; simp only [List.length_append, List.length_singleton] at ho hat; have HO7 := Aside0.mk ho; have HB7 := Aside0.mk hb; have HGK7 := Aside0.mk (blk_grown (by first | exact HGK2.out | exact blk_drewN HGK2.out _) hgr (Kd.R_ne (by first | exact HRK2.out | exact Kd.R_below HRK2.out (pw_below_drewN (Below.refl _ _) _)) (by first | exact HGK2.out | exact blk_drewN HGK2.out _) (by decide))); have HGW7 := Aside0.mk (blk_grown (by first | exact HGW2.out | exact blk_drewN HGW2.out _) hgr (Kd.R_ne (by first | exact HRK2.out | exact Kd.R_below HRK2.out (pw_below_drewN (Below.refl _ _) _)) (by first | exact HGW2.out | exact blk_drewN HGW2.out _) (by decide))); have HRW7 := Aside0.mk (two_other (by first | exact HRW2.out | exact Kd.R_below HRW2.out (pw_below_drewN (Below.refl _ _) _)) hgr hat); have HK7 := Aside0.mk (Keep.grown (by first | exact HKa.out | exact HKa.out.of_below (below_drew1 (Below.refl _ _)) | exact HKa.out.of_below (pw_below_drewN (Below.refl _ _) _) | exact HKa.out.of_below (below_drew1 (pw_below_drewN (Below.refl _ _) _))) (by first | exact HRK2.out | exact Kd.R_below HRK2.out (pw_below_drewN (Below.refl _ _) _)) (by decide) hgr); have hfz7 := blk_frozen HGK7.out 0; have hcell7 := blk_cell HGK7.out 0; have hcw7 : (w7.setCell ⟨bk, 0, none⟩ (.slice Ad7 (m2.length + 1) cd7)).cell? ⟨bw, 0, none⟩ = some (.slice Aw2 m3.length cw2) := blk_cell ((Below.heap_setCell w7 ⟨bk, 0, none⟩ _ bw (fun e1 => HNE.out e1.symm)).trans HGW7.out) 0; clear ho hb hgr hat) | ((with_reducible refine gate_builtin (b := .append) (xs := #[.tmp 128, .tmp 130]) rfl ?_); at_builtin; refine Kd.R_append (Kd.int .i64) (w0 := W0) W0.heap.size rfl (.tmp 128) (.tmp 130) 28 3 (.int .i64 0) 8 rfl Tryd.underlying28 hi3 rfl (by decide) (by omega) (.slice Aw2 m3.length cw2) m3 s1 [.int .i64 s1] (fun q => some q ≠ (Value.slice Ad7 (m2.length + 1) cd7).ownBlock) (fun _ => False) rfl (by first | rfl | (rw [Go.World.size_setCell]; rfl)) ?aP (fun _ hk => hk.elim) ?aF ?aO ?aB ?aS ?aL ?_; (case aP => exact rfl); (case aF => exact fun q hq e1 => Nat.lt_irrefl _ (Nat.lt_of_lt_of_le (own_lt_R (Kd.R_set HO7.out HGK7.out (by simp [Kd.int, Kd.scalar]) 0 (.slice Ad7 (m2.length + 1) cd7)) q e1.symm) hq)); (case aO => exact Kd.R_set HRW7.out HGK7.out (by simp [Kd.int, Kd.scalar]) 0 _); (case aB => exact HB7.out.setCell HK0.out _); (case aS => exact below_size (HB7.out.setCell HK0.out _)); (case aL => have := LM2.out; omega); intro v8 w8 ho hb hgr hat; obtain ⟨Ad8, cd8, ev8⟩ := Kd.R_slice ho; subst ev8; simp only [List.length_append, List.length_singleton] at ho hat; have HO8 := Aside0.mk ho; have HB8 := Aside0.mk hb; have HGW8 := Aside0.mk (blk_grown ((Below.heap_setCell w7 ⟨bk, 0, none⟩ (.slice Ad7 (m2.length + 1) cd7) bw (fun e1 => HNE.out e1.symm)).trans HGW7.out) hgr (Kd.R_ne (Kd.R_set HRW7.out HGK7.out (by simp [Kd.int, Kd.scalar]) 0 (.slice Ad7 (m2.length + 1) cd7)) ((Below.heap_setCell w7 ⟨bk, 0, none⟩ (.slice Ad7 (m2.length + 1) cd7) bw (fun e1 => HNE.out e1.symm)).trans HGW7.out) (by decide))); have HGK8 := Aside0.mk (blk_grown (blk_put HGK7.out 0 (.slice Ad7 (m2.length + 1) cd7) rfl) hgr (Kd.R_ne (Kd.R_set HRW7.out HGK7.out (by simp [Kd.int, Kd.scalar]) 0 (.slice Ad7 (m2.length + 1) cd7)) (blk_put HGK7.out 0 (.slice Ad7 (m2.length + 1) cd7) rfl) (by decide))); have HRK8 := Aside0.mk (two_other (vk := .slice Aw2 m3.length cw2) (Kd.R_set HO7.out HGK7.out (by simp [Kd.int, Kd.scalar]) 0 (.slice Ad7 (m2.length + 1) cd7)) hgr hat); have HK8 := Aside0.mk (Keep.grown (Keep.set HK7.out HGK7.out (by decide) 0 (.slice Ad7 (m2.length + 1) cd7)) (Kd.R_set HRW7.out HGK7.out (by simp [Kd.int, Kd.scalar]) 0 (.slice Ad7 (m2.length + 1) cd7)) (by decide) hgr); have hfz8 := blk_frozen HGW8.out 0; have hcell8 := blk_cell HGW8.out 0; clear ho hb hgr hat))
                        go_ret
                        refine ⟨rfl, HB8.out.setCell HW0.out _, ⟨_, _, (Below.heap_setCell w8 ⟨bw, 0, none⟩ _ bk HNE.out).trans HGK8.out, blk_put HGW8.out 0 _ rfl, ?_, ?_⟩, (((Keep.refl [25] w).of_below HBW.out).trans HK8.out).set HGW8.out (by decide) 0 _⟩
                        · have h1 := Kd.R_set HRK8.out HGW8.out (by simp [Kd.int, Kd.scalar]) 0 (.slice Ad8 (m3.length + 1) cd8)
                          exact h1
                        · have h1 := Kd.R_set HO8.out HGW8.out (by simp [Kd.int, Kd.scalar]) 0 (.slice Ad8 (m3.length + 1) cd8)
                          exact h1
                    · rw [if_neg (fun h_ => cB h_.2)] at hz
                      have cB' : (Int.tmod su 2 == 0) = false := beq_eq_false_iff_ne.mpr cB
                      clear cA cB
                      simp only [Option.some.injEq, Prod.mk.injEq] at hz
                      obtain ⟨rfl, rfl, rfl⟩ := hz
                      go_quiet (fail)
                      by_cases cC : y2 < cells
                      · have cC' : decide (y2 < cells) = true := decide_eq_true cC
                        by_cases cD : Int.tmod sy 2 = 0
                        · rw [if_pos ⟨cC, cD⟩] at hx
                          have cD' : (Int.tmod sy 2 == 0) = true := beq_iff_eq.mpr cD
                          clear cC cD
                          obtain ⟨⟨n1, n2, n3⟩, hf2, hx⟩ := Option.bind_eq_some_iff.mp hx
                          simp only [Option.some.injEq, Prod.mk.injEq] at hx
                          obtain ⟨hx1, rfl, rfl⟩ := hx
                          have HF2 := Aside0.mk hf2
                          clear hf2
                          obtain ⟨s2, hs2⟩ : ∃ c_ : Int, c_ = wrap64 (0 + n1) := ⟨_, rfl⟩
                          have hs2w : wrap64 (0 + n1) = s2 := hs2.symm
                          have hs2v : IntKind.i64.wrap (0 + n1) = s2 := by rw [i64_w]; exact hs2.symm
                          have HWFs2 : Aside0 ((Lit.int .i64 s2).wf = true) := ⟨by rw [hs2]; exact wf_wrapW _⟩
                          have hs2z : wrap64 n1 = s2 := by rw [hs2, Int.zero_add]
                          have hs2y : IntKind.i64.wrap n1 = s2 := by rw [i64_w]; exact hs2z
                          rw [← hs2] at hx1
                          subst hx1
                          clear hs2
                          go_wp2_with fail
                          refine start_ (n := 17) (S := fun w' => w'.cell? ⟨w.heap.size, 0, none⟩ = some (.int .i64 a0) ∧ w'.cell? ⟨w.heap.size, 1, none⟩ = some (.int .i64 a1) ∧ w'.cell? ⟨w.heap.size, 2, none⟩ = some (.int .i64 a2)) (ds := []) #[false, false, false, false, false, false, false, false, false, false, false, false, false, false, false, false, false] (by kernel_rfl) rfl rfl ⟨blk_cell HGz.out 0, blk_cell HGz.out 1, blk_cell HGz.out 2⟩ (fun hHeld => ?_); refine with_tabW spec_l14Ways.tab16 spec_l14Ways.bits16 (fun HT_ HW_ => ?_)
                          refine pure_ (i := 0) (N := some 101) (v := ?_) (a' := ?_) #[true, false, false, false, false, false, false, false, false, false, false, false, false, false, false, false, false] rfl rfl (any_of HT_.out (by kernel_rfl)) (fun _ _ _ h => h) (Or.inl ⟨by rfl, ?_⟩) ?_ ?_
                          rotate_left
                          · intro w'
                            go_simp
                            with_reducible rfl
                          rotate_left
                          · simp only [Act.put, List.setIfInBounds_toArray, List.set_cons_zero, List.set_cons_succ, i64_w, i32_w]
                            rfl
                          refine take_ (i := 1) (N := some 102) (v := ?_) (a' := ?_) #[true, true, false, false, false, false, false, false, false, false, false, false, false, false, false, false, false] rfl rfl (take_ofW HT_.out HW_.out (by kernel_rfl)) (fun _ _ _ h => h) (Or.inl ⟨by rfl, ?_⟩) hHeld ?_ ?_
                          rotate_left
                          · rintro w' ⟨s0, s1, s2⟩
                            go_simp
                            with_reducible rfl
                          rotate_left
                          · simp only [Act.put, List.setIfInBounds_toArray, List.set_cons_zero, List.set_cons_succ, i64_w, i32_w]
                            rfl
                          refine pure_ (i := 2) (N := some 103) (v := ?_) (a' := ?_) #[true, true, true, false, false, false, false, false, false, false, false, false, false, false, false, false, false] rfl rfl (any_of HT_.out (by kernel_rfl)) (fun _ _ _ h => h) (Or.inl ⟨by rfl, ?_⟩) ?_ ?_
                          rotate_left
                          · intro w'
                            go_simp
                            with_reducible rfl
                          rotate_left
                          · simp only [Act.put, List.setIfInBounds_toArray, List.set_cons_zero, List.set_cons_succ, i64_w, i32_w]
                            rfl
                          refine pure_ (i := 3) (N := some 104) (v := ?_) (a' := ?_) #[true, true, true, true, false, false, false, false, false, false, false, false, false, false, false, false, false] rfl rfl (any_of HT_.out (by kernel_rfl)) (fun _ _ _ h => h) (Or.inl ⟨by rfl, ?_⟩) ?_ ?_
                          rotate_left
                          · intro w'
                            go_simp
                            with_reducible rfl
                          rotate_left
                          · simp only [Act.put, List.setIfInBounds_toArray, List.set_cons_zero, List.set_cons_succ, i64_w, i32_w]
                            rfl
                          refine pure_ (i := 4) (N := some 105) (v := ?_) (a' := ?_) #[true, true, true, true, true, false, false, false, false, false, false, false, false, false, false, false, false] rfl rfl (any_of HT_.out (by kernel_rfl)) (fun _ _ _ h => h) (Or.inl ⟨by rfl, ?_⟩) ?_ ?_
                          rotate_left
                          · intro w'
                            go_simp
                            with_reducible rfl
                          rotate_left
                          · simp only [Act.put, List.setIfInBounds_toArray, List.set_cons_zero, List.set_cons_succ, i64_w, i32_w]
                            rfl
                          refine pure_ (i := 5) (N := some 106) (v := ?_) (a' := ?_) #[true, true, true, true, true, true, false, false, false, false, false, false, false, false, false, false, false] rfl rfl (any_of HT_.out (by kernel_rfl)) (fun _ _ _ h => h) (Or.inl ⟨by rfl, ?_⟩) ?_ ?_
                          rotate_left
                          · intro w'
                            go_simp
                            with_reducible rfl
                          rotate_left
                          · simp only [Act.put, List.setIfInBounds_toArray, List.set_cons_zero, List.set_cons_succ, i64_w, i32_w]
                            rfl
                          refine pure_ (i := 6) (N := some 107) (v := ?_) (a' := ?_) #[true, true, true, true, true, true, true, false, false, false, false, false, false, false, false, false, false] rfl rfl (any_of HT_.out (by kernel_rfl)) (fun _ _ _ h => h) (Or.inl ⟨by rfl, ?_⟩) ?_ ?_
                          rotate_left
                          · intro w'
                            go_simp
                            with_reducible rfl
                          rotate_left
                          · simp only [Act.put, List.setIfInBounds_toArray, List.set_cons_zero, List.set_cons_succ, i64_w, i32_w]
                            rfl
                          refine pure_ (i := 7) (N := some 108) (v := ?_) (a' := ?_) #[true, true, true, true, true, true, true, true, false, false, false, false, false, false, false, false, false] rfl rfl (any_of HT_.out (by kernel_rfl)) (fun _ _ _ h => h) (Or.inl ⟨by rfl, ?_⟩) ?_ ?_
                          rotate_left
                          · intro w'
                            go_simp
                            with_reducible rfl
                          rotate_left
                          · simp only [Act.put, List.setIfInBounds_toArray, List.set_cons_zero, List.set_cons_succ, i64_w, i32_w]
                            rfl
                          refine take_ (i := 8) (N := some 109) (v := ?_) (a' := ?_) #[true, true, true, true, true, true, true, true, true, false, false, false, false, false, false, false, false] rfl rfl (take_ofW HT_.out HW_.out (by kernel_rfl)) (fun _ _ _ h => h) (Or.inl ⟨by rfl, ?_⟩) hHeld ?_ ?_
                          rotate_left
                          · rintro w' ⟨s0, s1, s2⟩
                            go_simp
                            with_reducible rfl
                          rotate_left
                          · simp only [Act.put, List.setIfInBounds_toArray, List.set_cons_zero, List.set_cons_succ, i64_w, i32_w]
                            rfl
                          refine pure_ (i := 9) (N := some 110) (v := ?_) (a' := ?_) #[true, true, true, true, true, true, true, true, true, true, false, false, false, false, false, false, false] rfl rfl (any_of HT_.out (by kernel_rfl)) (fun _ _ _ h => h) (Or.inl ⟨by rfl, ?_⟩) ?_ ?_
                          rotate_left
                          · intro w'
                            go_simp
                            with_reducible rfl
                          rotate_left
                          · simp only [Act.put, List.setIfInBounds_toArray, List.set_cons_zero, List.set_cons_succ, i64_w, i32_w]
                            rfl
                          refine pure_ (i := 10) (N := some 111) (v := ?_) (a' := ?_) #[true, true, true, true, true, true, true, true, true, true, true, false, false, false, false, false, false] rfl rfl (any_of HT_.out (by kernel_rfl)) (fun _ _ _ h => h) (Or.inl ⟨by rfl, ?_⟩) ?_ ?_
                          rotate_left
                          · intro w'
                            go_simp
                            with_reducible rfl
                          rotate_left
                          · simp only [Act.put, List.setIfInBounds_toArray, List.set_cons_zero, List.set_cons_succ, i64_w, i32_w]
                            rfl
                          refine pure_ (i := 11) (N := some 112) (v := ?_) (a' := ?_) #[true, true, true, true, true, true, true, true, true, true, true, true, false, false, false, false, false] rfl rfl (any_of HT_.out (by kernel_rfl)) (fun _ _ _ h => h) (Or.inl ⟨by rfl, ?_⟩) ?_ ?_
                          rotate_left
                          · intro w'
                            go_simp
                            with_reducible rfl
                          rotate_left
                          · simp only [Act.put, List.setIfInBounds_toArray, List.set_cons_zero, List.set_cons_succ, i64_w, i32_w]
                            rfl
                          refine pure_ (i := 12) (N := some 113) (v := ?_) (a' := ?_) #[true, true, true, true, true, true, true, true, true, true, true, true, true, false, false, false, false] rfl rfl (any_of HT_.out (by kernel_rfl)) (fun _ _ _ h => h) (Or.inl ⟨by rfl, ?_⟩) ?_ ?_
                          rotate_left
                          · intro w'
                            go_simp
                            with_reducible rfl
                          rotate_left
                          · simp only [Act.put, List.setIfInBounds_toArray, List.set_cons_zero, List.set_cons_succ, i64_w, i32_w]
                            rfl
                          refine pure_ (i := 13) (N := some 114) (v := ?_) (a' := ?_) #[true, true, true, true, true, true, true, true, true, true, true, true, true, true, false, false, false] rfl rfl (any_of HT_.out (by kernel_rfl)) (fun _ _ _ h => h) (Or.inl ⟨by rfl, ?_⟩) ?_ ?_
                          rotate_left
                          · intro w'
                            go_simp
                            with_reducible rfl
                          rotate_left
                          · simp only [Act.put, List.setIfInBounds_toArray, List.set_cons_zero, List.set_cons_succ, i64_w, i32_w]
                            rfl
                          refine one_ (i := 14) (N := some 115) #[true, true, true, true, true, true, true, true, true, true, true, true, true, true, true, false, false] rfl rfl (one_of HT_.out (by kernel_rfl)) (by decide) (fun K hK => ?_)
                          refine call_ 24 #[.agg #[.int .i64 a0, .int .i64 a1, .int .i64 a2], .int .i64 (Go.bits .or .i64 (Go.bits .or .i64 v jt) jy), .pointer (some ⟨bk, 0, none⟩), .pointer (some ⟨bw, 0, none⟩)] (by rfl) rfl ?_ ?_
                          · first | (go_simp; done) | (go_simp; rfl)
                          refine (HIH.out _ ks ns n1 n2 n3 _ (by first | exact below_step HBz.out (Below.refl _ _) | exact below_step HBz.out (below_drew1 (Below.refl _ _)) | exact below_step HBz.out (pw_below_drewN (Below.refl _ _) _) | exact below_step HBz.out (below_drew1 (pw_below_drewN (Below.refl _ _) _))) (by first | exact HVz.out | exact HVz.out.below (below_drew1 (Below.refl _ _)) | exact HVz.out.below (pw_below_drewN (Below.refl _ _) _) | exact HVz.out.below (below_drew1 (pw_below_drewN (Below.refl _ _) _))) HF2.out).mono ?_
                          rintro e wcB ⟨rfl, hd1, hd2, hd3⟩
                          have HBb := Aside0.mk hd1
                          have HVb := Aside0.mk hd2
                          have HKb := Aside0.mk (Keep.trans (by first | exact HKp1.out | exact HKp1.out.of_below (below_drew1 (Below.refl _ _)) | exact HKp1.out.of_below (pw_below_drewN (Below.refl _ _) _) | exact HKp1.out.of_below (below_drew1 (pw_below_drewN (Below.refl _ _) _))) hd3)
                          have HXb := Aside0.mk ((HKb.out.2 _ 25 _ (by decide) HGB.out).trans HGB.out)
                          have cxb : wcB.cell? ⟨w.heap.size, 1, none⟩ = some (.int .i64 a1) := blk_cell HXb.out 1
                          have cyb : wcB.cell? ⟨w.heap.size, 0, none⟩ = some (.int .i64 a0) := blk_cell HXb.out 0
                          have czb : wcB.cell? ⟨w.heap.size, 2, none⟩ = some (.int .i64 a2) := blk_cell HXb.out 2
                          clear hd1 hd2 hd3
                          refine ⟨_, rfl, ?_⟩
                          refine hK.out _ _ ⟨cyb, cxb, czb⟩ (fun hHeld => ?_)
                          clear hK K
                          refine norm_ (a' := ?_) ?_ ?_
                          rotate_left
                          · show Act.put _ (some 115) _ = _
                            simp only [Act.put, List.setIfInBounds_toArray, List.set_cons_zero, List.set_cons_succ, i64_w, i32_w]
                            rfl
                          refine pure_ (i := 15) (N := some 116) (v := ?_) (a' := ?_) #[true, true, true, true, true, true, true, true, true, true, true, true, true, true, true, true, false] rfl rfl (any_of HT_.out (by kernel_rfl)) (fun _ _ _ h => h) (Or.inl ⟨by rfl, ?_⟩) ?_ ?_
                          rotate_left
                          · intro w'
                            go_simp
                            with_reducible rfl
                          rotate_left
                          · simp only [Act.put, List.setIfInBounds_toArray, List.set_cons_zero, List.set_cons_succ, i64_w, i32_w]
                            rfl
                          refine pure_ (i := 16) (N := some 12) (v := ?_) (a' := ?_) #[true, true, true, true, true, true, true, true, true, true, true, true, true, true, true, true, true] rfl rfl (any_of HT_.out (by kernel_rfl)) (fun _ _ _ h => h) (Or.inl ⟨by rfl, ?_⟩) ?_ ?_
                          rotate_left
                          · intro w'
                            go_simp
                            with_reducible rfl
                          rotate_left
                          · simp only [Act.put, List.setIfInBounds_toArray, List.set_cons_zero, List.set_cons_succ, i64_w, i32_w]
                            rfl
                          refine done_ (done_of HT_.out (by kernel_rfl)) ?_
                          obtain ⟨vk2, vw2, hgk2, hgw2, hrk2, hrw2⟩ := HVb.out
                          obtain ⟨Ak2, ck2, ek2⟩ := Kd.R_slice hrk2
                          subst ek2
                          obtain ⟨Aw2, cw2, ew2⟩ := Kd.R_slice hrw2
                          subst ew2
                          have HGK2 := Aside0.mk hgk2
                          have HGW2 := Aside0.mk hgw2
                          have HRK2 := Aside0.mk hrk2
                          have HRW2 := Aside0.mk hrw2
                          have ckf := blk_cell hgk2 0
                          clear ck0 cw0
                          clear hgk2 hgw2 hrk2 hrw2
                          go_wp2_with (first | ((with_reducible refine gate_builtin (b := .append) (xs := #[.tmp 120, .tmp 122]) rfl ?_); at_builtin; refine Kd.R_append (Kd.int .i64) (w0 := W0) W0.heap.size rfl (.tmp 120) (.tmp 122) 28 3 (.int .i64 0) 8 rfl Tryd.underlying28 hi3 rfl (by decide) (by omega) (.slice Ak2 n2.length ck2) n2 v [.int .i64 v] (fun q => some q ≠ (Value.slice Aw2 n3.length cw2).ownBlock) (fun _ => False) rfl rfl ?aP (fun _ hk => hk.elim) ?aF ?aO ?aB ?aS ?aL ?_; (case aP => exact rfl); (case aF => exact fun q hq e1 => Nat.lt_irrefl _ (Nat.lt_of_lt_of_le (own_lt_R (by first | exact HRW2.out | exact Kd.R_below HRW2.out (pw_below_drewN (Below.refl _ _) _)) q e1.symm) hq)); (case aO => exact (by first | exact HRK2.out | exact Kd.R_below HRK2.out (pw_below_drewN (Below.refl _ _) _))); (case aB => exact (by first | exact below_step HBb.out (Below.refl _ _) | exact below_step HBb.out (below_drew1 (Below.refl _ _)) | exact below_step HBb.out (pw_below_drewN (Below.refl _ _) _) | exact below_step HBb.out (below_drew1 (pw_below_drewN (Below.refl _ _) _)))); (case aS => exact below_size (by first | exact below_step HBb.out (Below.refl _ _) | exact below_step HBb.out (below_drew1 (Below.refl _ _)) | exact below_step HBb.out (pw_below_drewN (Below.refl _ _) _) | exact below_step HBb.out (below_drew1 (pw_below_drewN (Below.refl _ _) _)))); (case aL => have := LM1.out; omega); intro v7 w7 ho hb hgr hat; obtain ⟨Ad7, cd7, ev7⟩ := Kd.R_slice ho; subst ev7; simp only [List.length_append, List.length_singleton] at ho hat; have HO7 := Aside0.mk ho; have HB7 := Aside0.mk hb; have HGK7 := Aside0.mk (blk_grown (by first | exact HGK2.out | exact blk_drewN HGK2.out _) hgr (Kd.R_ne (by first | exact HRK2.out | exact Kd.R_below HRK2.out (pw_below_drewN (Below.refl _ _) _)) (by first | exact HGK2.out | exact blk_drewN HGK2.out _) (by decide))); have HGW7 := Aside0.mk (blk_grown (by first | exact HGW2.out | exact blk_drewN HGW2.out _) hgr (Kd.R_ne (by first | exact HRK2.out | exact Kd.R_below HRK2.out (pw_below_drewN (Below.refl _ _) _)) (by first | exact HGW2.out | exact blk_drewN HGW2.out _) (by decide))); have HRW7 := Aside0.mk (two_other (by first | exact HRW2.out | exact Kd.R_below HRW2.out (pw_below_drewN (Below.refl _ _) _)) hgr hat); have HK7 := Aside0.mk (Keep.grown (by first | exact HKb.out | exact HKb.out.of_below (below_drew1 (Below.refl _ _)) | exact HKb.out.of_below (pw_below_drewN (Below.refl _ _) _) | exact HKb.out.of_below (below_drew1 (pw_below_drewN (Below.refl _ _) _))) (by first | exact HRK2.out | exact Kd.R_below HRK2.out (pw_below_drewN (Below.refl _ _) _)) (by decide) hgr); have hfz7 := blk_frozen HGK7.out 0; have hcell7 := blk_cell HGK7.out 0; have hcw7 : (w7.setCell ⟨bk, 0, none⟩ (.slice Ad7 (n2.length + 1) cd7)).cell? ⟨bw, 0, none⟩ = some (.slice Aw2 n3.length cw2) := blk_cell ((Below.heap_setCell w7 ⟨bk, 0, none⟩ _ bw (fun e1 => HNE.out e1.symm)).trans HGW7.out) 0; clear ho hb hgr hat) | ((with_reducible refine gate_builtin (b := .append) (xs := #[.tmp 128, .tmp 130]) rfl ?_); at_builtin; refine Kd.R_append (Kd.int .i64) (w0 := W0) W0.heap.size rfl (.tmp 128) (.tmp 130) 28 3 (.int .i64 0) 8 rfl Tryd.underlying28 hi3 rfl (by decide) (by omega) (.slice Aw2 n3.length cw2) n3 s2 [.int .i64 s2] (fun q => some q ≠ (Value.slice Ad7 (n2.length + 1) cd7).ownBlock) (fun _ => False) rfl (by first | rfl | (rw [Go.World.size_setCell]; rfl)) ?aP (fun _ hk => hk.elim) ?aF ?aO ?aB ?aS ?aL ?_; (case aP => exact rfl); (case aF => exact fun q hq e1 => Nat.lt_irrefl _ (Nat.lt_of_lt_of_le (own_lt_R (Kd.R_set HO7.out HGK7.out (by simp [Kd.int, Kd.scalar]) 0 (.slice Ad7 (n2.length + 1) cd7)) q e1.symm) hq)); (case aO => exact Kd.R_set HRW7.out HGK7.out (by simp [Kd.int, Kd.scalar]) 0 _); (case aB => exact HB7.out.setCell HK0.out _); (case aS => exact below_size (HB7.out.setCell HK0.out _)); (case aL => have := LM2.out; omega); intro v8 w8 ho hb hgr hat; obtain ⟨Ad8, cd8, ev8⟩ := Kd.R_slice ho; subst ev8; simp only [List.length_append, List.length_singleton] at ho hat; have HO8 := Aside0.mk ho; have HB8 := Aside0.mk hb; have HGW8 := Aside0.mk (blk_grown ((Below.heap_setCell w7 ⟨bk, 0, none⟩ (.slice Ad7 (n2.length + 1) cd7) bw (fun e1 => HNE.out e1.symm)).trans HGW7.out) hgr (Kd.R_ne (Kd.R_set HRW7.out HGK7.out (by simp [Kd.int, Kd.scalar]) 0 (.slice Ad7 (n2.length + 1) cd7)) ((Below.heap_setCell w7 ⟨bk, 0, none⟩ (.slice Ad7 (n2.length + 1) cd7) bw (fun e1 => HNE.out e1.symm)).trans HGW7.out) (by decide))); have HGK8 := Aside0.mk (blk_grown (blk_put HGK7.out 0 (.slice Ad7 (n2.length + 1) cd7) rfl) hgr (Kd.R_ne (Kd.R_set HRW7.out HGK7.out (by simp [Kd.int, Kd.scalar]) 0 (.slice Ad7 (n2.length + 1) cd7)) (blk_put HGK7.out 0 (.slice Ad7 (n2.length + 1) cd7) rfl) (by decide))); have HRK8 := Aside0.mk (two_other (vk := .slice Aw2 n3.length cw2) (Kd.R_set HO7.out HGK7.out (by simp [Kd.int, Kd.scalar]) 0 (.slice Ad7 (n2.length + 1) cd7)) hgr hat); have HK8 := Aside0.mk (Keep.grown (Keep.set HK7.out HGK7.out (by decide) 0 (.slice Ad7 (n2.length + 1) cd7)) (Kd.R_set HRW7.out HGK7.out (by simp [Kd.int, Kd.scalar]) 0 (.slice Ad7 (n2.length + 1) cd7)) (by decide) hgr); have hfz8 := blk_frozen HGW8.out 0; have hcell8 := blk_cell HGW8.out 0; clear ho hb hgr hat))
                          go_ret
                          refine ⟨rfl, HB8.out.setCell HW0.out _, ⟨_, _, (Below.heap_setCell w8 ⟨bw, 0, none⟩ _ bk HNE.out).trans HGK8.out, blk_put HGW8.out 0 _ rfl, ?_, ?_⟩, (((Keep.refl [25] w).of_below HBW.out).trans HK8.out).set HGW8.out (by decide) 0 _⟩
                          · have h1 := Kd.R_set HRK8.out HGW8.out (by simp [Kd.int, Kd.scalar]) 0 (.slice Ad8 (n3.length + 1) cd8)
                            exact h1
                          · have h1 := Kd.R_set HO8.out HGW8.out (by simp [Kd.int, Kd.scalar]) 0 (.slice Ad8 (n3.length + 1) cd8)
                            exact h1
                        · rw [if_neg (fun h_ => cD h_.2)] at hx
                          have cD' : (Int.tmod sy 2 == 0) = false := beq_eq_false_iff_ne.mpr cD
                          clear cC cD
                          simp only [Option.some.injEq, Prod.mk.injEq] at hx
                          obtain ⟨rfl, rfl, rfl⟩ := hx
                          obtain ⟨vk2, vw2, hgk2, hgw2, hrk2, hrw2⟩ := HVz.out
                          obtain ⟨Ak2, ck2, ek2⟩ := Kd.R_slice hrk2
                          subst ek2
                          obtain ⟨Aw2, cw2, ew2⟩ := Kd.R_slice hrw2
                          subst ew2
                          have HGK2 := Aside0.mk hgk2
                          have HGW2 := Aside0.mk hgw2
                          have HRK2 := Aside0.mk hrk2
                          have HRW2 := Aside0.mk hrw2
                          have ckf := blk_cell hgk2 0
                          clear ck0 cw0
                          clear hgk2 hgw2 hrk2 hrw2
                          go_wp2_with (first | ((with_reducible refine gate_builtin (b := .append) (xs := #[.tmp 120, .tmp 122]) rfl ?_); at_builtin; refine Kd.R_append (Kd.int .i64) (w0 := W0) W0.heap.size rfl (.tmp 120) (.tmp 122) 28 3 (.int .i64 0) 8 rfl Tryd.underlying28 hi3 rfl (by decide) (by omega) (.slice Ak2 ks.length ck2) ks v [.int .i64 v] (fun q => some q ≠ (Value.slice Aw2 ns.length cw2).ownBlock) (fun _ => False) rfl rfl ?aP (fun _ hk => hk.elim) ?aF ?aO ?aB ?aS ?aL ?_; (case aP => exact rfl); (case aF => exact fun q hq e1 => Nat.lt_irrefl _ (Nat.lt_of_lt_of_le (own_lt_R (by first | exact HRW2.out | exact Kd.R_below HRW2.out (pw_below_drewN (Below.refl _ _) _)) q e1.symm) hq)); (case aO => exact (by first | exact HRK2.out | exact Kd.R_below HRK2.out (pw_below_drewN (Below.refl _ _) _))); (case aB => exact (by first | exact below_step HBz.out (Below.refl _ _) | exact below_step HBz.out (below_drew1 (Below.refl _ _)) | exact below_step HBz.out (pw_below_drewN (Below.refl _ _) _) | exact below_step HBz.out (below_drew1 (pw_below_drewN (Below.refl _ _) _)))); (case aS => exact below_size (by first | exact below_step HBz.out (Below.refl _ _) | exact below_step HBz.out (below_drew1 (Below.refl _ _)) | exact below_step HBz.out (pw_below_drewN (Below.refl _ _) _) | exact below_step HBz.out (below_drew1 (pw_below_drewN (Below.refl _ _) _)))); (case aL => have := LM1.out; omega); intro v7 w7 ho hb hgr hat; obtain ⟨Ad7, cd7, ev7⟩ := Kd.R_slice ho; subst ev7; simp only [List.length_append, List.length_singleton] at ho hat; have HO7 := Aside0.mk ho; have HB7 := Aside0.mk hb; have HGK7 := Aside0.mk (blk_grown (by first | exact HGK2.out | exact blk_drewN HGK2.out _) hgr (Kd.R_ne (by first | exact HRK2.out | exact Kd.R_below HRK2.out (pw_below_drewN (Below.refl _ _) _)) (by first | exact HGK2.out | exact blk_drewN HGK2.out _) (by decide))); have HGW7 := Aside0.mk (blk_grown (by first | exact HGW2.out | exact blk_drewN HGW2.out _) hgr (Kd.R_ne (by first | exact HRK2.out | exact Kd.R_below HRK2.out (pw_below_drewN (Below.refl _ _) _)) (by first | exact HGW2.out | exact blk_drewN HGW2.out _) (by decide))); have HRW7 := Aside0.mk (two_other (by first | exact HRW2.out | exact Kd.R_below HRW2.out (pw_below_drewN (Below.refl _ _) _)) hgr hat); have HK7 := Aside0.mk (Keep.grown (by first | exact HKp1.out | exact HKp1.out.of_below (below_drew1 (Below.refl _ _)) | exact HKp1.out.of_below (pw_below_drewN (Below.refl _ _) _) | exact HKp1.out.of_below (below_drew1 (pw_below_drewN (Below.refl _ _) _))) (by first | exact HRK2.out | exact Kd.R_below HRK2.out (pw_below_drewN (Below.refl _ _) _)) (by decide) hgr); have hfz7 := blk_frozen HGK7.out 0; have hcell7 := blk_cell HGK7.out 0; have hcw7 : (w7.setCell ⟨bk, 0, none⟩ (.slice Ad7 (ks.length + 1) cd7)).cell? ⟨bw, 0, none⟩ = some (.slice Aw2 ns.length cw2) := blk_cell ((Below.heap_setCell w7 ⟨bk, 0, none⟩ _ bw (fun e1 => HNE.out e1.symm)).trans HGW7.out) 0; clear ho hb hgr hat) | ((with_reducible refine gate_builtin (b := .append) (xs := #[.tmp 128, .tmp 130]) rfl ?_); at_builtin; refine Kd.R_append (Kd.int .i64) (w0 := W0) W0.heap.size rfl (.tmp 128) (.tmp 130) 28 3 (.int .i64 0) 8 rfl Tryd.underlying28 hi3 rfl (by decide) (by omega) (.slice Aw2 ns.length cw2) ns 0 [.int .i64 0] (fun q => some q ≠ (Value.slice Ad7 (ks.length + 1) cd7).ownBlock) (fun _ => False) rfl (by first | rfl | (rw [Go.World.size_setCell]; rfl)) ?aP (fun _ hk => hk.elim) ?aF ?aO ?aB ?aS ?aL ?_; (case aP => exact rfl); (case aF => exact fun q hq e1 => Nat.lt_irrefl _ (Nat.lt_of_lt_of_le (own_lt_R (Kd.R_set HO7.out HGK7.out (by simp [Kd.int, Kd.scalar]) 0 (.slice Ad7 (ks.length + 1) cd7)) q e1.symm) hq)); (case aO => exact Kd.R_set HRW7.out HGK7.out (by simp [Kd.int, Kd.scalar]) 0 _); (case aB => exact HB7.out.setCell HK0.out _); (case aS => exact below_size (HB7.out.setCell HK0.out _)); (case aL => have := LM2.out; omega); intro v8 w8 ho hb hgr hat; obtain ⟨Ad8, cd8, ev8⟩ := Kd.R_slice ho; subst ev8; simp only [List.length_append, List.length_singleton] at ho hat; have HO8 := Aside0.mk ho; have HB8 := Aside0.mk hb; have HGW8 := Aside0.mk (blk_grown ((Below.heap_setCell w7 ⟨bk, 0, none⟩ (.slice Ad7 (ks.length + 1) cd7) bw (fun e1 => HNE.out e1.symm)).trans HGW7.out) hgr (Kd.R_ne (Kd.R_set HRW7.out HGK7.out (by simp [Kd.int, Kd.scalar]) 0 (.slice Ad7 (ks.length + 1) cd7)) ((Below.heap_setCell w7 ⟨bk, 0, none⟩ (.slice Ad7 (ks.length + 1) cd7) bw (fun e1 => HNE.out e1.symm)).trans HGW7.out) (by decide))); have HGK8 := Aside0.mk (blk_grown (blk_put HGK7.out 0 (.slice Ad7 (ks.length + 1) cd7) rfl) hgr (Kd.R_ne (Kd.R_set HRW7.out HGK7.out (by simp [Kd.int, Kd.scalar]) 0 (.slice Ad7 (ks.length + 1) cd7)) (blk_put HGK7.out 0 (.slice Ad7 (ks.length + 1) cd7) rfl) (by decide))); have HRK8 := Aside0.mk (two_other (vk := .slice Aw2 ns.length cw2) (Kd.R_set HO7.out HGK7.out (by simp [Kd.int, Kd.scalar]) 0 (.slice Ad7 (ks.length + 1) cd7)) hgr hat); have HK8 := Aside0.mk (Keep.grown (Keep.set HK7.out HGK7.out (by decide) 0 (.slice Ad7 (ks.length + 1) cd7)) (Kd.R_set HRW7.out HGK7.out (by simp [Kd.int, Kd.scalar]) 0 (.slice Ad7 (ks.length + 1) cd7)) (by decide) hgr); have hfz8 := blk_frozen HGW8.out 0; have hcell8 := blk_cell HGW8.out 0; clear ho hb hgr hat))
                          go_ret
                          refine ⟨rfl, HB8.out.setCell HW0.out _, ⟨_, _, (Below.heap_setCell w8 ⟨bw, 0, none⟩ _ bk HNE.out).trans HGK8.out, blk_put HGW8.out 0 _ rfl, ?_, ?_⟩, (((Keep.refl [25] w).of_below HBW.out).trans HK8.out).set HGW8.out (by decide) 0 _⟩
                          · have h1 := Kd.R_set HRK8.out HGW8.out (by simp [Kd.int, Kd.scalar]) 0 (.slice Ad8 (ns.length + 1) cd8)
                            exact h1
                          · have h1 := Kd.R_set HO8.out HGW8.out (by simp [Kd.int, Kd.scalar]) 0 (.slice Ad8 (ns.length + 1) cd8)
                            exact h1
                      · rw [if_neg (fun h_ => cC h_.1)] at hx
                        have cC' : decide (y2 < cells) = false := decide_eq_false cC
                        clear cC
                        simp only [Option.some.injEq, Prod.mk.injEq] at hx
                        obtain ⟨rfl, rfl, rfl⟩ := hx
                        obtain ⟨vk2, vw2, hgk2, hgw2, hrk2, hrw2⟩ := HVz.out
                        obtain ⟨Ak2, ck2, ek2⟩ := Kd.R_slice hrk2
                        subst ek2
                        obtain ⟨Aw2, cw2, ew2⟩ := Kd.R_slice hrw2
                        subst ew2
                        have HGK2 := Aside0.mk hgk2
                        have HGW2 := Aside0.mk hgw2
                        have HRK2 := Aside0.mk hrk2
                        have HRW2 := Aside0.mk hrw2
                        have ckf := blk_cell hgk2 0
                        clear ck0 cw0
                        clear hgk2 hgw2 hrk2 hrw2
                        go_wp2_with (first | ((with_reducible refine gate_builtin (b := .append) (xs := #[.tmp 120, .tmp 122]) rfl ?_); at_builtin; refine Kd.R_append (Kd.int .i64) (w0 := W0) W0.heap.size rfl (.tmp 120) (.tmp 122) 28 3 (.int .i64 0) 8 rfl Tryd.underlying28 hi3 rfl (by decide) (by omega) (.slice Ak2 ks.length ck2) ks v [.int .i64 v] (fun q => some q ≠ (Value.slice Aw2 ns.length cw2).ownBlock) (fun _ => False) rfl rfl ?aP (fun _ hk => hk.elim) ?aF ?aO ?aB ?aS ?aL ?_; (case aP => exact rfl); (case aF => exact fun q hq e1 => Nat.lt_irrefl _ (Nat.lt_of_lt_of_le (own_lt_R (by first | exact HRW2.out | exact Kd.R_below HRW2.out (pw_below_drewN (Below.refl _ _) _)) q e1.symm) hq)); (case aO => exact (by first | exact HRK2.out | exact Kd.R_below HRK2.out (pw_below_drewN (Below.refl _ _) _))); (case aB => exact (by first | exact below_step HBz.out (Below.refl _ _) | exact below_step HBz.out (below_drew1 (Below.refl _ _)) | exact below_step HBz.out (pw_below_drewN (Below.refl _ _) _) | exact below_step HBz.out (below_drew1 (pw_below_drewN (Below.refl _ _) _)))); (case aS => exact below_size (by first | exact below_step HBz.out (Below.refl _ _) | exact below_step HBz.out (below_drew1 (Below.refl _ _)) | exact below_step HBz.out (pw_below_drewN (Below.refl _ _) _) | exact below_step HBz.out (below_drew1 (pw_below_drewN (Below.refl _ _) _)))); (case aL => have := LM1.out; omega); intro v7 w7 ho hb hgr hat; obtain ⟨Ad7, cd7, ev7⟩ := Kd.R_slice ho; subst ev7; simp only [List.length_append, List.length_singleton] at ho hat; have HO7 := Aside0.mk ho; have HB7 := Aside0.mk hb; have HGK7 := Aside0.mk (blk_grown (by first | exact HGK2.out | exact blk_drewN HGK2.out _) hgr (Kd.R_ne (by first | exact HRK2.out | exact Kd.R_below HRK2.out (pw_below_drewN (Below.refl _ _) _)) (by first | exact HGK2.out | exact blk_drewN HGK2.out _) (by decide))); have HGW7 := Aside0.mk (blk_grown (by first | exact HGW2.out | exact blk_drewN HGW2.out _) hgr (Kd.R_ne (by first | exact HRK2.out | exact Kd.R_below HRK2.out (pw_below_drewN (Below.refl _ _) _)) (by first | exact HGW2.out | exact blk_drewN HGW2.out _) (by decide))); have HRW7 := Aside0.mk (two_other (by first | exact HRW2.out | exact Kd.R_below HRW2.out (pw_below_drewN (Below.refl _ _) _)) hgr hat); have HK7 := Aside0.mk (Keep.grown (by first | exact HKp1.out | exact HKp1.out.of_below (below_drew1 (Below.refl _ _)) | exact HKp1.out.of_below (pw_below_drewN (Below.refl _ _) _) | exact HKp1.out.of_below (below_drew1 (pw_below_drewN (Below.refl _ _) _))) (by first | exact HRK2.out | exact Kd.R_below HRK2.out (pw_below_drewN (Below.refl _ _) _)) (by decide) hgr); have hfz7 := blk_frozen HGK7.out 0; have hcell7 := blk_cell HGK7.out 0; have hcw7 : (w7.setCell ⟨bk, 0, none⟩ (.slice Ad7 (ks.length + 1) cd7)).cell? ⟨bw, 0, none⟩ = some (.slice Aw2 ns.length cw2) := blk_cell ((Below.heap_setCell w7 ⟨bk, 0, none⟩ _ bw (fun e1 => HNE.out e1.symm)).trans HGW7.out) 0; clear ho hb hgr hat) | ((with_reducible refine gate_builtin (b := .append) (xs := #[.tmp 128, .tmp 130]) rfl ?_); at_builtin; refine Kd.R_append (Kd.int .i64) (w0 := W0) W0.heap.size rfl (.tmp 128) (.tmp 130) 28 3 (.int .i64 0) 8 rfl Tryd.underlying28 hi3 rfl (by decide) (by omega) (.slice Aw2 ns.length cw2) ns 0 [.int .i64 0] (fun q => some q ≠ (Value.slice Ad7 (ks.length + 1) cd7).ownBlock) (fun _ => False) rfl (by first | rfl | (rw [Go.World.size_setCell]; rfl)) ?aP (fun _ hk => hk.elim) ?aF ?aO ?aB ?aS ?aL ?_; (case aP => exact rfl); (case aF => exact fun q hq e1 => Nat.lt_irrefl _ (Nat.lt_of_lt_of_le (own_lt_R (Kd.R_set HO7.out HGK7.out (by simp [Kd.int, Kd.scalar]) 0 (.slice Ad7 (ks.length + 1) cd7)) q e1.symm) hq)); (case aO => exact Kd.R_set HRW7.out HGK7.out (by simp [Kd.int, Kd.scalar]) 0 _); (case aB => exact HB7.out.setCell HK0.out _); (case aS => exact below_size (HB7.out.setCell HK0.out _)); (case aL => have := LM2.out; omega); intro v8 w8 ho hb hgr hat; obtain ⟨Ad8, cd8, ev8⟩ := Kd.R_slice ho; subst ev8; simp only [List.length_append, List.length_singleton] at ho hat; have HO8 := Aside0.mk ho; have HB8 := Aside0.mk hb; have HGW8 := Aside0.mk (blk_grown ((Below.heap_setCell w7 ⟨bk, 0, none⟩ (.slice Ad7 (ks.length + 1) cd7) bw (fun e1 => HNE.out e1.symm)).trans HGW7.out) hgr (Kd.R_ne (Kd.R_set HRW7.out HGK7.out (by simp [Kd.int, Kd.scalar]) 0 (.slice Ad7 (ks.length + 1) cd7)) ((Below.heap_setCell w7 ⟨bk, 0, none⟩ (.slice Ad7 (ks.length + 1) cd7) bw (fun e1 => HNE.out e1.symm)).trans HGW7.out) (by decide))); have HGK8 := Aside0.mk (blk_grown (blk_put HGK7.out 0 (.slice Ad7 (ks.length + 1) cd7) rfl) hgr (Kd.R_ne (Kd.R_set HRW7.out HGK7.out (by simp [Kd.int, Kd.scalar]) 0 (.slice Ad7 (ks.length + 1) cd7)) (blk_put HGK7.out 0 (.slice Ad7 (ks.length + 1) cd7) rfl) (by decide))); have HRK8 := Aside0.mk (two_other (vk := .slice Aw2 ns.length cw2) (Kd.R_set HO7.out HGK7.out (by simp [Kd.int, Kd.scalar]) 0 (.slice Ad7 (ks.length + 1) cd7)) hgr hat); have HK8 := Aside0.mk (Keep.grown (Keep.set HK7.out HGK7.out (by decide) 0 (.slice Ad7 (ks.length + 1) cd7)) (Kd.R_set HRW7.out HGK7.out (by simp [Kd.int, Kd.scalar]) 0 (.slice Ad7 (ks.length + 1) cd7)) (by decide) hgr); have hfz8 := blk_frozen HGW8.out 0; have hcell8 := blk_cell HGW8.out 0; clear ho hb hgr hat))
                        go_ret
                        refine ⟨rfl, HB8.out.setCell HW0.out _, ⟨_, _, (Below.heap_setCell w8 ⟨bw, 0, none⟩ _ bk HNE.out).trans HGK8.out, blk_put HGW8.out 0 _ rfl, ?_, ?_⟩, (((Keep.refl [25] w).of_below HBW.out).trans HK8.out).set HGW8.out (by decide) 0 _⟩
                        · have h1 := Kd.R_set HRK8.out HGW8.out (by simp [Kd.int, Kd.scalar]) 0 (.slice Ad8 (ns.length + 1) cd8)
                          exact h1
                        · have h1 := Kd.R_set HO8.out HGW8.out (by simp [Kd.int, Kd.scalar]) 0 (.slice Ad8 (ns.length + 1) cd8)
                          exact h1
                  · rw [if_neg (fun h_ => cA h_.1)] at hz
                    have cA' : decide (Int.tmod i a1 < d) = false := decide_eq_false cA
                    clear cA
                    simp only [Option.some.injEq, Prod.mk.injEq] at hz
                    obtain ⟨rfl, rfl, rfl⟩ := hz
                    go_quiet (fail)
                    by_cases cC : y2 < cells
                    · have cC' : decide (y2 < cells) = true := decide_eq_true cC
                      by_cases cD : Int.tmod sy 2 = 0
                      · rw [if_pos ⟨cC, cD⟩] at hx
                        have cD' : (Int.tmod sy 2 == 0) = true := beq_iff_eq.mpr cD
                        clear cC cD
                        obtain ⟨⟨n1, n2, n3⟩, hf2, hx⟩ := Option.bind_eq_some_iff.mp hx
                        simp only [Option.some.injEq, Prod.mk.injEq] at hx
                        obtain ⟨hx1, rfl, rfl⟩ := hx
                        have HF2 := Aside0.mk hf2
                        clear hf2
                        obtain ⟨s2, hs2⟩ : ∃ c_ : Int, c_ = wrap64 (0 + n1) := ⟨_, rfl⟩
                        have hs2w : wrap64 (0 + n1) = s2 := hs2.symm
                        have hs2v : IntKind.i64.wrap (0 + n1) = s2 := by rw [i64_w]; exact hs2.symm
                        have HWFs2 : Aside0 ((Lit.int .i64 s2).wf = true) := ⟨by rw [hs2]; exact wf_wrapW _⟩
                        have hs2z : wrap64 n1 = s2 := by rw [hs2, Int.zero_add]
                        have hs2y : IntKind.i64.wrap n1 = s2 := by rw [i64_w]; exact hs2z
                        rw [← hs2] at hx1
                        subst hx1
                        clear hs2
                        go_wp2_with fail
                        refine start_ (n := 17) (S := fun w' => w'.cell? ⟨w.heap.size, 0, none⟩ = some (.int .i64 a0) ∧ w'.cell? ⟨w.heap.size, 1, none⟩ = some (.int .i64 a1) ∧ w'.cell? ⟨w.heap.size, 2, none⟩ = some (.int .i64 a2)) (ds := []) #[false, false, false, false, false, false, false, false, false, false, false, false, false, false, false, false, false] (by kernel_rfl) rfl rfl ⟨blk_cell HGz.out 0, blk_cell HGz.out 1, blk_cell HGz.out 2⟩ (fun hHeld => ?_); refine with_tabW spec_l14Ways.tab16 spec_l14Ways.bits16 (fun HT_ HW_ => ?_)
                        refine pure_ (i := 0) (N := some 101) (v := ?_) (a' := ?_) #[true, false, false, false, false, false, false, false, false, false, false, false, false, false, false, false, false] rfl rfl (any_of HT_.out (by kernel_rfl)) (fun _ _ _ h => h) (Or.inl ⟨by rfl, ?_⟩) ?_ ?_
                        rotate_left
                        · intro w'
                          go_simp
                          with_reducible rfl
                        rotate_left
                        · simp only [Act.put, List.setIfInBounds_toArray, List.set_cons_zero, List.set_cons_succ, i64_w, i32_w]
                          rfl
                        refine take_ (i := 1) (N := some 102) (v := ?_) (a' := ?_) #[true, true, false, false, false, false, false, false, false, false, false, false, false, false, false, false, false] rfl rfl (take_ofW HT_.out HW_.out (by kernel_rfl)) (fun _ _ _ h => h) (Or.inl ⟨by rfl, ?_⟩) hHeld ?_ ?_
                        rotate_left
                        · rintro w' ⟨s0, s1, s2⟩
                          go_simp
                          with_reducible rfl
                        rotate_left
                        · simp only [Act.put, List.setIfInBounds_toArray, List.set_cons_zero, List.set_cons_succ, i64_w, i32_w]
                          rfl
                        refine pure_ (i := 2) (N := some 103) (v := ?_) (a' := ?_) #[true, true, true, false, false, false, false, false, false, false, false, false, false, false, false, false, false] rfl rfl (any_of HT_.out (by kernel_rfl)) (fun _ _ _ h => h) (Or.inl ⟨by rfl, ?_⟩) ?_ ?_
                        rotate_left
                        · intro w'
                          go_simp
                          with_reducible rfl
                        rotate_left
                        · simp only [Act.put, List.setIfInBounds_toArray, List.set_cons_zero, List.set_cons_succ, i64_w, i32_w]
                          rfl
                        refine pure_ (i := 3) (N := some 104) (v := ?_) (a' := ?_) #[true, true, true, true, false, false, false, false, false, false, false, false, false, false, false, false, false] rfl rfl (any_of HT_.out (by kernel_rfl)) (fun _ _ _ h => h) (Or.inl ⟨by rfl, ?_⟩) ?_ ?_
                        rotate_left
                        · intro w'
                          go_simp
                          with_reducible rfl
                        rotate_left
                        · simp only [Act.put, List.setIfInBounds_toArray, List.set_cons_zero, List.set_cons_succ, i64_w, i32_w]
                          rfl
                        refine pure_ (i := 4) (N := some 105) (v := ?_) (a' := ?_) #[true, true, true, true, true, false, false, false, false, false, false, false, false, false, false, false, false] rfl rfl (any_of HT_.out (by kernel_rfl)) (fun _ _ _ h => h) (Or.inl ⟨by rfl, ?_⟩) ?_ ?_
                        rotate_left
                        · intro w'
                          go_simp
                          with_reducible rfl
                        rotate_left
                        · simp only [Act.put, List.setIfInBounds_toArray, List.set_cons_zero, List.set_cons_succ, i64_w, i32_w]
                          rfl
                        refine pure_ (i := 5) (N := some 106) (v := ?_) (a' := ?_) #[true, true, true, true, true, true, false, false, false, false, false, false, false, false, false, false, false] rfl rfl (any_of HT_.out (by kernel_rfl)) (fun _ _ _ h => h) (Or.inl ⟨by rfl, ?_⟩) ?_ ?_
                        rotate_left
                        · intro w'
                          go_simp
                          with_reducible rfl
                        rotate_left
                        · simp only [Act.put, List.setIfInBounds_toArray, List.set_cons_zero, List.set_cons_succ, i64_w, i32_w]
                          rfl
                        refine pure_ (i := 6) (N := some 107) (v := ?_) (a' := ?_) #[true, true, true, true, true, true, true, false, false, false, false, false, false, false, false, false, false] rfl rfl (any_of HT_.out (by kernel_rfl)) (fun _ _ _ h => h) (Or.inl ⟨by rfl, ?_⟩) ?_ ?_
                        rotate_left
                        · intro w'
                          go_simp
                          with_reducible rfl
                        rotate_left
                        · simp only [Act.put, List.setIfInBounds_toArray, List.set_cons_zero, List.set_cons_succ, i64_w, i32_w]
                          rfl
                        refine pure_ (i := 7) (N := some 108) (v := ?_) (a' := ?_) #[true, true, true, true, true, true, true, true, false, false, false, false, false, false, false, false, false] rfl rfl (any_of HT_.out (by kernel_rfl)) (fun _ _ _ h => h) (Or.inl ⟨by rfl, ?_⟩) ?_ ?_
                        rotate_left
                        · intro w'
                          go_simp
                          with_reducible rfl
                        rotate_left
                        · simp only [Act.put, List.setIfInBounds_toArray, List.set_cons_zero, List.set_cons_succ, i64_w, i32_w]
                          rfl
                        refine take_ (i := 8) (N := some 109) (v := ?_) (a' := ?_) #[true, true, true, true, true, true, true, true, true, false, false, false, false, false, false, false, false] rfl rfl (take_ofW HT_.out HW_.out (by kernel_rfl)) (fun _ _ _ h => h) (Or.inl ⟨by rfl, ?_⟩) hHeld ?_ ?_
                        rotate_left
                        · rintro w' ⟨s0, s1, s2⟩
                          go_simp
                          with_reducible rfl
                        rotate_left
                        · simp only [Act.put, List.setIfInBounds_toArray, List.set_cons_zero, List.set_cons_succ, i64_w, i32_w]
                          rfl
                        refine pure_ (i := 9) (N := some 110) (v := ?_) (a' := ?_) #[true, true, true, true, true, true, true, true, true, true, false, false, false, false, false, false, false] rfl rfl (any_of HT_.out (by kernel_rfl)) (fun _ _ _ h => h) (Or.inl ⟨by rfl, ?_⟩) ?_ ?_
                        rotate_left
                        · intro w'
                          go_simp
                          with_reducible rfl
                        rotate_left
                        · simp only [Act.put, List.setIfInBounds_toArray, List.set_cons_zero, List.set_cons_succ, i64_w, i32_w]
                          rfl
                        refine pure_ (i := 10) (N := some 111) (v := ?_) (a' := ?_) #[true, true, true, true, true, true, true, true, true, true, true, false, false, false, false, false, false] rfl rfl (any_of HT_.out (by kernel_rfl)) (fun _ _ _ h => h) (Or.inl ⟨by rfl, ?_⟩) ?_ ?_
                        rotate_left
                        · intro w'
                          go_simp
                          with_reducible rfl
                        rotate_left
                        · simp only [Act.put, List.setIfInBounds_toArray, List.set_cons_zero, List.set_cons_succ, i64_w, i32_w]
                          rfl
                        refine pure_ (i := 11) (N := some 112) (v := ?_) (a' := ?_) #[true, true, true, true, true, true, true, true, true, true, true, true, false, false, false, false, false] rfl rfl (any_of HT_.out (by kernel_rfl)) (fun _ _ _ h => h) (Or.inl ⟨by rfl, ?_⟩) ?_ ?_
                        rotate_left
                        · intro w'
                          go_simp
                          with_reducible rfl
                        rotate_left
                        · simp only [Act.put, List.setIfInBounds_toArray, List.set_cons_zero, List.set_cons_succ, i64_w, i32_w]
                          rfl
                        refine pure_ (i := 12) (N := some 113) (v := ?_) (a' := ?_) #[true, true, true, true, true, true, true, true, true, true, true, true, true, false, false, false, false] rfl rfl (any_of HT_.out (by kernel_rfl)) (fun _ _ _ h => h) (Or.inl ⟨by rfl, ?_⟩) ?_ ?_
                        rotate_left
                        · intro w'
                          go_simp
                          with_reducible rfl
                        rotate_left
                        · simp only [Act.put, List.setIfInBounds_toArray, List.set_cons_zero, List.set_cons_succ, i64_w, i32_w]
                          rfl
                        refine pure_ (i := 13) (N := some 114) (v := ?_) (a' := ?_) #[true, true, true, true, true, true, true, true, true, true, true, true, true, true, false, false, false] rfl rfl (any_of HT_.out (by kernel_rfl)) (fun _ _ _ h => h) (Or.inl ⟨by rfl, ?_⟩) ?_ ?_
                        rotate_left
                        · intro w'
                          go_simp
                          with_reducible rfl
                        rotate_left
                        · simp only [Act.put, List.setIfInBounds_toArray, List.set_cons_zero, List.set_cons_succ, i64_w, i32_w]
                          rfl
                        refine one_ (i := 14) (N := some 115) #[true, true, true, true, true, true, true, true, true, true, true, true, true, true, true, false, false] rfl rfl (one_of HT_.out (by kernel_rfl)) (by decide) (fun K hK => ?_)
                        refine call_ 24 #[.agg #[.int .i64 a0, .int .i64 a1, .int .i64 a2], .int .i64 (Go.bits .or .i64 (Go.bits .or .i64 v jt) jy), .pointer (some ⟨bk, 0, none⟩), .pointer (some ⟨bw, 0, none⟩)] (by rfl) rfl ?_ ?_
                        · first | (go_simp; done) | (go_simp; rfl)
                        refine (HIH.out _ ks ns n1 n2 n3 _ (by first | exact below_step HBz.out (Below.refl _ _) | exact below_step HBz.out (below_drew1 (Below.refl _ _)) | exact below_step HBz.out (pw_below_drewN (Below.refl _ _) _) | exact below_step HBz.out (below_drew1 (pw_below_drewN (Below.refl _ _) _))) (by first | exact HVz.out | exact HVz.out.below (below_drew1 (Below.refl _ _)) | exact HVz.out.below (pw_below_drewN (Below.refl _ _) _) | exact HVz.out.below (below_drew1 (pw_below_drewN (Below.refl _ _) _))) HF2.out).mono ?_
                        rintro e wcB ⟨rfl, hd1, hd2, hd3⟩
                        have HBb := Aside0.mk hd1
                        have HVb := Aside0.mk hd2
                        have HKb := Aside0.mk (Keep.trans (by first | exact HKp1.out | exact HKp1.out.of_below (below_drew1 (Below.refl _ _)) | exact HKp1.out.of_below (pw_below_drewN (Below.refl _ _) _) | exact HKp1.out.of_below (below_drew1 (pw_below_drewN (Below.refl _ _) _))) hd3)
                        have HXb := Aside0.mk ((HKb.out.2 _ 25 _ (by decide) HGB.out).trans HGB.out)
                        have cxb : wcB.cell? ⟨w.heap.size, 1, none⟩ = some (.int .i64 a1) := blk_cell HXb.out 1
                        have cyb : wcB.cell? ⟨w.heap.size, 0, none⟩ = some (.int .i64 a0) := blk_cell HXb.out 0
                        have czb : wcB.cell? ⟨w.heap.size, 2, none⟩ = some (.int .i64 a2) := blk_cell HXb.out 2
                        clear hd1 hd2 hd3
                        refine ⟨_, rfl, ?_⟩
                        refine hK.out _ _ ⟨cyb, cxb, czb⟩ (fun hHeld => ?_)
                        clear hK K
                        refine norm_ (a' := ?_) ?_ ?_
                        rotate_left
                        · show Act.put _ (some 115) _ = _
                          simp only [Act.put, List.setIfInBounds_toArray, List.set_cons_zero, List.set_cons_succ, i64_w, i32_w]
                          rfl
                        refine pure_ (i := 15) (N := some 116) (v := ?_) (a' := ?_) #[true, true, true, true, true, true, true, true, true, true, true, true, true, true, true, true, false] rfl rfl (any_of HT_.out (by kernel_rfl)) (fun _ _ _ h => h) (Or.inl ⟨by rfl, ?_⟩) ?_ ?_
                        rotate_left
                        · intro w'
                          go_simp
                          with_reducible rfl
                        rotate_left
                        · simp only [Act.put, List.setIfInBounds_toArray, List.set_cons_zero, List.set_cons_succ, i64_w, i32_w]
                          rfl
                        refine pure_ (i := 16) (N := some 12) (v := ?_) (a' := ?_) #[true, true, true, true, true, true, true, true, true, true, true, true, true, true, true, true, true] rfl rfl (any_of HT_.out (by kernel_rfl)) (fun _ _ _ h => h) (Or.inl ⟨by rfl, ?_⟩) ?_ ?_
                        rotate_left
                        · intro w'
                          go_simp
                          with_reducible rfl
                        rotate_left
                        · simp only [Act.put, List.setIfInBounds_toArray, List.set_cons_zero, List.set_cons_succ, i64_w, i32_w]
                          rfl
                        refine done_ (done_of HT_.out (by kernel_rfl)) ?_
                        obtain ⟨vk2, vw2, hgk2, hgw2, hrk2, hrw2⟩ := HVb.out
                        obtain ⟨Ak2, ck2, ek2⟩ := Kd.R_slice hrk2
                        subst ek2
                        obtain ⟨Aw2, cw2, ew2⟩ := Kd.R_slice hrw2
                        subst ew2
                        have HGK2 := Aside0.mk hgk2
                        have HGW2 := Aside0.mk hgw2
                        have HRK2 := Aside0.mk hrk2
                        have HRW2 := Aside0.mk hrw2
                        have ckf := blk_cell hgk2 0
                        clear ck0 cw0
                        clear hgk2 hgw2 hrk2 hrw2
                        go_wp2_with (first | ((with_reducible refine gate_builtin (b := .append) (xs := #[.tmp 120, .tmp 122]) rfl ?_); at_builtin; refine Kd.R_append (Kd.int .i64) (w0 := W0) W0.heap.size rfl (.tmp 120) (.tmp 122) 28 3 (.int .i64 0) 8 rfl Tryd.underlying28 hi3 rfl (by decide) (by omega) (.slice Ak2 n2.length ck2) n2 v [.int .i64 v] (fun q => some q ≠ (Value.slice Aw2 n3.length cw2).ownBlock) (fun _ => False) rfl rfl ?aP (fun _ hk => hk.elim) ?aF ?aO ?aB ?aS ?aL ?_; (case aP => exact rfl); (case aF => exact fun q hq e1 => Nat.lt_irrefl _ (Nat.lt_of_lt_of_le (own_lt_R (by first | exact HRW2.out | exact Kd.R_below HRW2.out (pw_below_drewN (Below.refl _ _) _)) q e1.symm) hq)); (case aO => exact (by first | exact HRK2.out | exact Kd.R_below HRK2.out (pw_below_drewN (Below.refl _ _) _))); (case aB => exact (by first | exact below_step HBb.out (Below.refl _ _) | exact below_step HBb.out (below_drew1 (Below.refl _ _)) | exact below_step HBb.out (pw_below_drewN (Below.refl _ _) _) | exact below_step HBb.out (below_drew1 (pw_below_drewN (Below.refl _ _) _)))); (case aS => exact below_size (by first | exact below_step HBb.out (Below.refl _ _) | exact below_step HBb.out (below_drew1 (Below.refl _ _)) | exact below_step HBb.out (pw_below_drewN (Below.refl _ _) _) | exact below_step HBb.out (below_drew1 (pw_below_drewN (Below.refl _ _) _)))); (case aL => have := LM1.out; omega); intro v7 w7 ho hb hgr hat; obtain ⟨Ad7, cd7, ev7⟩ := Kd.R_slice ho; subst ev7; simp only [List.length_append, List.length_singleton] at ho hat; have HO7 := Aside0.mk ho; have HB7 := Aside0.mk hb; have HGK7 := Aside0.mk (blk_grown (by first | exact HGK2.out | exact blk_drewN HGK2.out _) hgr (Kd.R_ne (by first | exact HRK2.out | exact Kd.R_below HRK2.out (pw_below_drewN (Below.refl _ _) _)) (by first | exact HGK2.out | exact blk_drewN HGK2.out _) (by decide))); have HGW7 := Aside0.mk (blk_grown (by first | exact HGW2.out | exact blk_drewN HGW2.out _) hgr (Kd.R_ne (by first | exact HRK2.out | exact Kd.R_below HRK2.out (pw_below_drewN (Below.refl _ _) _)) (by first | exact HGW2.out | exact blk_drewN HGW2.out _) (by decide))); have HRW7 := Aside0.mk (two_other (by first | exact HRW2.out | exact Kd.R_below HRW2.out (pw_below_drewN (Below.refl _ _) _)) hgr hat); have HK7 := Aside0.mk (Keep.grown (by first | exact HKb.out | exact HKb.out.of_below (below_drew1 (Below.refl _ _)) | exact HKb.out.of_below (pw_below_drewN (Below.refl _ _) _) | exact HKb.out.of_below (below_drew1 (pw_below_drewN (Below.refl _ _) _))) (by first | exact HRK2.out | exact Kd.R_below HRK2.out (pw_below_drewN (Below.refl _ _) _)) (by decide) hgr); have hfz7 := blk_frozen HGK7.out 0; have hcell7 := blk_cell HGK7.out 0; have hcw7 : (w7.setCell ⟨bk, 0, none⟩ (.slice Ad7 (n2.length + 1) cd7)).cell? ⟨bw, 0, none⟩ = some (.slice Aw2 n3.length cw2) := blk_cell ((Below.heap_setCell w7 ⟨bk, 0, none⟩ _ bw (fun e1 => HNE.out e1.symm)).trans HGW7.out) 0; clear ho hb hgr hat) | ((with_reducible refine gate_builtin (b := .append) (xs := #[.tmp 128, .tmp 130]) rfl ?_); at_builtin; refine Kd.R_append (Kd.int .i64) (w0 := W0) W0.heap.size rfl (.tmp 128) (.tmp 130) 28 3 (.int .i64 0) 8 rfl Tryd.underlying28 hi3 rfl (by decide) (by omega) (.slice Aw2 n3.length cw2) n3 s2 [.int .i64 s2] (fun q => some q ≠ (Value.slice Ad7 (n2.length + 1) cd7).ownBlock) (fun _ => False) rfl (by first | rfl | (rw [Go.World.size_setCell]; rfl)) ?aP (fun _ hk => hk.elim) ?aF ?aO ?aB ?aS ?aL ?_; (case aP => exact rfl); (case aF => exact fun q hq e1 => Nat.lt_irrefl _ (Nat.lt_of_lt_of_le (own_lt_R (Kd.R_set HO7.out HGK7.out (by simp [Kd.int, Kd.scalar]) 0 (.slice Ad7 (n2.length + 1) cd7)) q e1.symm) hq)); (case aO => exact Kd.R_set HRW7.out HGK7.out (by simp [Kd.int, Kd.scalar]) 0 _); (case aB => exact HB7.out.setCell HK0.out _); (case aS => exact below_size (HB7.out.setCell HK0.out _)); (case aL => have := LM2.out; omega); intro v8 w8 ho hb hgr hat; obtain ⟨Ad8, cd8, ev8⟩ := Kd.R_slice ho; subst ev8; simp only [List.length_append, List.length_singleton] at ho hat; have HO8 := Aside0.mk ho; have HB8 := Aside0.mk hb; have HGW8 := Aside0.mk (blk_grown ((Below.heap_setCell w7 ⟨bk, 0, none⟩ (.slice Ad7 (n2.length + 1) cd7) bw (fun e1 => HNE.out e1.symm)).trans HGW7.out) hgr (Kd.R_ne (Kd.R_set HRW7.out HGK7.out (by simp [Kd.int, Kd.scalar]) 0 (.slice Ad7 (n2.length + 1) cd7)) ((Below.heap_setCell w7 ⟨bk, 0, none⟩ (.slice Ad7 (n2.length + 1) cd7) bw (fun e1 => HNE.out e1.symm)).trans HGW7.out) (by decide))); have HGK8 := Aside0.mk (blk_grown (blk_put HGK7.out 0 (.slice Ad7 (n2.length + 1) cd7) rfl) hgr (Kd.R_ne (Kd.R_set HRW7.out HGK7.out (by simp [Kd.int, Kd.scalar]) 0 (.slice Ad7 (n2.length + 1) cd7)) (blk_put HGK7.out 0 (.slice Ad7 (n2.length + 1) cd7) rfl) (by decide))); have HRK8 := Aside0.mk (two_other (vk := .slice Aw2 n3.length cw2) (Kd.R_set HO7.out HGK7.out (by simp [Kd.int, Kd.scalar]) 0 (.slice Ad7 (n2.length + 1) cd7)) hgr hat); have HK8 := Aside0.mk (Keep.grown (Keep.set HK7.out HGK7.out (by decide) 0 (.slice Ad7 (n2.length + 1) cd7)) (Kd.R_set HRW7.out HGK7.out (by simp [Kd.int, Kd.scalar]) 0 (.slice Ad7 (n2.length + 1) cd7)) (by decide) hgr); have hfz8 := blk_frozen HGW8.out 0; have hcell8 := blk_cell HGW8.out 0; clear ho hb hgr hat))
                        go_ret
                        refine ⟨rfl, HB8.out.setCell HW0.out _, ⟨_, _, (Below.heap_setCell w8 ⟨bw, 0, none⟩ _ bk HNE.out).trans HGK8.out, blk_put HGW8.out 0 _ rfl, ?_, ?_⟩, (((Keep.refl [25] w).of_below HBW.out).trans HK8.out).set HGW8.out (by decide) 0 _⟩
                        · have h1 := Kd.R_set HRK8.out HGW8.out (by simp [Kd.int, Kd.scalar]) 0 (.slice Ad8 (n3.length + 1) cd8)
                          exact h1
                        · have h1 := Kd.R_set HO8.out HGW8.out (by simp [Kd.int, Kd.scalar]) 0 (.slice Ad8 (n3.length + 1) cd8)
                          exact h1
                      · rw [if_neg (fun h_ => cD h_.2)] at hx
                        have cD' : (Int.tmod sy 2 == 0) = false := beq_eq_false_iff_ne.mpr cD
                        clear cC cD
                        simp only [Option.some.injEq, Prod.mk.injEq] at hx
                        obtain ⟨rfl, rfl, rfl⟩ := hx
                        obtain ⟨vk2, vw2, hgk2, hgw2, hrk2, hrw2⟩ := HVz.out
                        obtain ⟨Ak2, ck2, ek2⟩ := Kd.R_slice hrk2
                        subst ek2
                        obtain ⟨Aw2, cw2, ew2⟩ := Kd.R_slice hrw2
                        subst ew2
                        have HGK2 := Aside0.mk hgk2
                        have HGW2 := Aside0.mk hgw2
                        have HRK2 := Aside0.mk hrk2
                        have HRW2 := Aside0.mk hrw2
                        have ckf := blk_cell hgk2 0
                        clear ck0 cw0
                        clear hgk2 hgw2 hrk2 hrw2
                        go_wp2_with (first | ((with_reducible refine gate_builtin (b := .append) (xs := #[.tmp 120, .tmp 122]) rfl ?_); at_builtin; refine Kd.R_append (Kd.int .i64) (w0 := W0) W0.heap.size rfl (.tmp 120) (.tmp 122) 28 3 (.int .i64 0) 8 rfl Tryd.underlying28 hi3 rfl (by decide) (by omega) (.slice Ak2 ks.length ck2) ks v [.int .i64 v] (fun q => some q ≠ (Value.slice Aw2 ns.length cw2).ownBlock) (fun _ => False) rfl rfl ?aP (fun _ hk => hk.elim) ?aF ?aO ?aB ?aS ?aL ?_; (case aP => exact rfl); (case aF => exact fun q hq e1 => Nat.lt_irrefl _ (Nat.lt_of_lt_of_le (own_lt_R (by first | exact HRW2.out | exact Kd.R_below HRW2.out (pw_below_drewN (Below.refl _ _) _)) q e1.symm) hq)); (case aO => exact (by first | exact HRK2.out | exact Kd.R_below HRK2.out (pw_below_drewN (Below.refl _ _) _))); (case aB => exact (by first | exact below_step HBz.out (Below.refl _ _) | exact below_step HBz.out (below_drew1 (Below.refl _ _)) | exact below_step HBz.out (pw_below_drewN (Below.refl _ _) _) | exact below_step HBz.out (below_drew1 (pw_below_drewN (Below.refl _ _) _)))); (case aS => exact below_size (by first | exact below_step HBz.out (Below.refl _ _) | exact below_step HBz.out (below_drew1 (Below.refl _ _)) | exact below_step HBz.out (pw_below_drewN (Below.refl _ _) _) | exact below_step HBz.out (below_drew1 (pw_below_drewN (Below.refl _ _) _)))); (case aL => have := LM1.out; omega); intro v7 w7 ho hb hgr hat; obtain ⟨Ad7, cd7, ev7⟩ := Kd.R_slice ho; subst ev7; simp only [List.length_append, List.length_singleton] at ho hat; have HO7 := Aside0.mk ho; have HB7 := Aside0.mk hb; have HGK7 := Aside0.mk (blk_grown (by first | exact HGK2.out | exact blk_drewN HGK2.out _) hgr (Kd.R_ne (by first | exact HRK2.out | exact Kd.R_below HRK2.out (pw_below_drewN (Below.refl _ _) _)) (by first | exact HGK2.out | exact blk_drewN HGK2.out _) (by decide))); have HGW7 := Aside0.mk (blk_grown (by first | exact HGW2.out | exact blk_drewN HGW2.out _) hgr (Kd.R_ne (by first | exact HRK2.out | exact Kd.R_below HRK2.out (pw_below_drewN (Below.refl _ _) _)) (by first | exact HGW2.out | exact blk_drewN HGW2.out _) (by decide))); have HRW7 := Aside0.mk (two_other (by first | exact HRW2.out | exact Kd.R_below HRW2.out (pw_below_drewN (Below.refl _ _) _)) hgr hat); have HK7 := Aside0.mk (Keep.grown (by first | exact HKp1.out | exact HKp1.out.of_below (below_drew1 (Below.refl _ _)) | exact HKp1.out.of_below (pw_below_drewN (Below.refl _ _) _) | exact HKp1.out.of_below (below_drew1 (pw_below_drewN (Below.refl _ _) _))) (by first | exact HRK2.out | exact Kd.R_below HRK2.out (pw_below_drewN (Below.refl _ _) _)) (by decide) hgr); have hfz7 := blk_frozen HGK7.out 0; have hcell7 := blk_cell HGK7.out 0; have hcw7 : (w7.setCell ⟨bk, 0, none⟩ (.slice Ad7 (ks.length + 1) cd7)).cell? ⟨bw, 0, none⟩ = some (.slice Aw2 ns.length cw2) := blk_cell ((Below.heap_setCell w7 ⟨bk, 0, none⟩ _ bw (fun e1 => HNE.out e1.symm)).trans HGW7.out) 0; clear ho hb hgr hat) | ((with_reducible refine gate_builtin (b := .append) (xs := #[.tmp 128, .tmp 130]) rfl ?_); at_builtin; refine Kd.R_append (Kd.int .i64) (w0 := W0) W0.heap.size rfl (.tmp 128) (.tmp 130) 28 3 (.int .i64 0) 8 rfl Tryd.underlying28 hi3 rfl (by decide) (by omega) (.slice Aw2 ns.length cw2) ns 0 [.int .i64 0] (fun q => some q ≠ (Value.slice Ad7 (ks.length + 1) cd7).ownBlock) (fun _ => False) rfl (by first | rfl | (rw [Go.World.size_setCell]; rfl)) ?aP (fun _ hk => hk.elim) ?aF ?aO ?aB ?aS ?aL ?_; (case aP => exact rfl); (case aF => exact fun q hq e1 => Nat.lt_irrefl _ (Nat.lt_of_lt_of_le (own_lt_R (Kd.R_set HO7.out HGK7.out (by simp [Kd.int, Kd.scalar]) 0 (.slice Ad7 (ks.length + 1) cd7)) q e1.symm) hq)); (case aO => exact Kd.R_set HRW7.out HGK7.out (by simp [Kd.int, Kd.scalar]) 0 _); (case aB => exact HB7.out.setCell HK0.out _); (case aS => exact below_size (HB7.out.setCell HK0.out _)); (case aL => have := LM2.out; omega); intro v8 w8 ho hb hgr hat; obtain ⟨Ad8, cd8, ev8⟩ := Kd.R_slice ho; subst ev8; simp only [List.length_append, List.length_singleton] at ho hat; have HO8 := Aside0.mk ho; have HB8 := Aside0.mk hb; have HGW8 := Aside0.mk (blk_grown ((Below.heap_setCell w7 ⟨bk, 0, none⟩ (.slice Ad7 (ks.length + 1) cd7) bw (fun e1 => HNE.out e1.symm)).trans HGW7.out) hgr (Kd.R_ne (Kd.R_set HRW7.out HGK7.out (by simp [Kd.int, Kd.scalar]) 0 (.slice Ad7 (ks.length + 1) cd7)) ((Below.heap_setCell w7 ⟨bk, 0, none⟩ (.slice Ad7 (ks.length + 1) cd7) bw (fun e1 => HNE.out e1.symm)).trans HGW7.out) (by decide))); have HGK8 := Aside0.mk (blk_grown (blk_put HGK7.out 0 (.slice Ad7 (ks.length + 1) cd7) rfl) hgr (Kd.R_ne (Kd.R_set HRW7.out HGK7.out (by simp [Kd.int, Kd.scalar]) 0 (.slice Ad7 (ks.length + 1) cd7)) (blk_put HGK7.out 0 (.slice Ad7 (ks.length + 1) cd7) rfl) (by decide))); have HRK8 := Aside0.mk (two_other (vk := .slice Aw2 ns.length cw2) (Kd.R_set HO7.out HGK7.out (by simp [Kd.int, Kd.scalar]) 0 (.slice Ad7 (ks.length + 1) cd7)) hgr hat); have HK8 := Aside0.mk (Keep.grown (Keep.set HK7.out HGK7.out (by decide) 0 (.slice Ad7 (ks.length + 1) cd7)) (Kd.R_set HRW7.out HGK7.out (by simp [Kd.int, Kd.scalar]) 0 (.slice Ad7 (ks.length + 1) cd7)) (by decide) hgr); have hfz8 := blk_frozen HGW8.out 0; have hcell8 := blk_cell HGW8.out 0; clear ho hb hgr hat))
                        go_ret
                        refine ⟨rfl, HB8.out.setCell HW0.out _, ⟨_, _, (Below.heap_setCell w8 ⟨bw, 0, none⟩ _ bk HNE.out).trans HGK8.out, blk_put HGW8.out 0 _ rfl, ?_, ?_⟩, (((Keep.refl [25] w).of_below HBW.out).trans HK8.out).set HGW8.out (by decide) 0 _⟩
                        · have h1 := Kd.R_set HRK8.out HGW8.out (by simp [Kd.int, Kd.scalar]) 0 (.slice Ad8 (ns.length + 1) cd8)
                          exact h1
                        · have h1 := Kd.R_set HO8.out HGW8.out (by simp [Kd.int, Kd.scalar]) 0 (.slice Ad8 (ns.length + 1) cd8)
                          exact h1
                    · rw [if_neg (fun h_ => cC h_.1)] at hx
                      have cC' : decide (y2 < cells) = false := decide_eq_false cC
                      clear cC
                      simp only [Option.some.injEq, Prod.mk.injEq] at hx
                      obtain ⟨rfl, rfl, rfl⟩ := hx
                      obtain ⟨vk2, vw2, hgk2, hgw2, hrk2, hrw2⟩ := HVz.out
                      obtain ⟨Ak2, ck2, ek2⟩ := Kd.R_slice hrk2
                      subst ek2
                      obtain ⟨Aw2, cw2, ew2⟩ := Kd.R_slice hrw2
                      subst ew2
                      have HGK2 := Aside0.mk hgk2
                      have HGW2 := Aside0.mk hgw2
                      have HRK2 := Aside0.mk hrk2
                      have HRW2 := Aside0.mk hrw2
                      have ckf := blk_cell hgk2 0
                      clear ck0 cw0
                      clear hgk2 hgw2 hrk2 hrw2
                      go_wp2_with (first | ((with_reducible refine gate_builtin (b := .append) (xs := #[.tmp 120, .tmp 122]) rfl ?_); at_builtin; refine Kd.R_append (Kd.int .i64) (w0 := W0) W0.heap.size rfl (.tmp 120) (.tmp 122) 28 3 (.int .i64 0) 8 rfl Tryd.underlying28 hi3 rfl (by decide) (by omega) (.slice Ak2 ks.length ck2) ks v [.int .i64 v] (fun q => some q ≠ (Value.slice Aw2 ns.length cw2).ownBlock) (fun _ => False) rfl rfl ?aP (fun _ hk => hk.elim) ?aF ?aO ?aB ?aS ?aL ?_; (case aP => exact rfl); (case aF => exact fun q hq e1 => Nat.lt_irrefl _ (Nat.lt_of_lt_of_le (own_lt_R (by first | exact HRW2.out | exact Kd.R_below HRW2.out (pw_below_drewN (Below.refl _ _) _)) q e1.symm) hq)); (case aO => exact (by first | exact HRK2.out | exact Kd.R_below HRK2.out (pw_below_drewN (Below.refl _ _) _))); (case aB => exact (by first | exact below_step HBz.out (Below.refl _ _) | exact below_step HBz.out (below_drew1 (Below.refl _ _)) | exact below_step HBz.out (pw_below_drewN (Below.refl _ _) _) | exact below_step HBz.out (below_drew1 (pw_below_drewN (Below.refl _ _) _)))); (case aS => exact below_size (by first | exact below_step HBz.out (Below.refl _ _) | exact below_step HBz.out (below_drew1 (Below.refl _ _)) | exact below_step HBz.out (pw_below_drewN (Below.refl _ _) _) | exact below_step HBz.out (below_drew1 (pw_below_drewN (Below.refl _ _) _)))); (case aL => have := LM1.out; omega); intro v7 w7 ho hb hgr hat; obtain ⟨Ad7, cd7, ev7⟩ := Kd.R_slice ho; subst ev7; simp only [List.length_append, List.length_singleton] at ho hat; have HO7 := Aside0.mk ho; have HB7 := Aside0.mk hb; have HGK7 := Aside0.mk (blk_grown (by first | exact HGK2.out | exact blk_drewN HGK2.out _) hgr (Kd.R_ne (by first | exact HRK2.out | exact Kd.R_below HRK2.out (pw_below_drewN (Below.refl _ _) _)) (by first | exact HGK2.out | exact blk_drewN HGK2.out _) (by decide))); have HGW7 := Aside0.mk (blk_grown (by first | exact HGW2.out | exact blk_drewN HGW2.out _) hgr (Kd.R_ne (by first | exact HRK2.out | exact Kd.R_below HRK2.out (pw_below_drewN (Below.refl _ _) _)) (by first | exact HGW2.out | exact blk_drewN HGW2.out _) (by decide))); have HRW7 := Aside0.mk (two_other (by first | exact HRW2.out | exact Kd.R_below HRW2.out (pw_below_drewN (Below.refl _ _) _)) hgr hat); have HK7 := Aside0.mk (Keep.grown (by first | exact HKp1.out | exact HKp1.out.of_below (below_drew1 (Below.refl _ _)) | exact HKp1.out.of_below (pw_below_drewN (Below.refl _ _) _) | exact HKp1.out.of_below (below_drew1 (pw_below_drewN (Below.refl _ _) _))) (by first | exact HRK2.out | exact Kd.R_below HRK2.out (pw_below_drewN (Below.refl _ _) _)) (by decide) hgr); have hfz7 := blk_frozen HGK7.out 0; have hcell7 := blk_cell HGK7.out 0; have hcw7 : (w7.setCell ⟨bk, 0, none⟩ (.slice Ad7 (ks.length + 1) cd7)).cell? ⟨bw, 0, none⟩ = some (.slice Aw2 ns.length cw2) := blk_cell ((Below.heap_setCell w7 ⟨bk, 0, none⟩ _ bw (fun e1 => HNE.out e1.symm)).trans HGW7.out) 0; clear ho hb hgr hat) | ((with_reducible refine gate_builtin (b := .append) (xs := #[.tmp 128, .tmp 130]) rfl ?_); at_builtin; refine Kd.R_append (Kd.int .i64) (w0 := W0) W0.heap.size rfl (.tmp 128) (.tmp 130) 28 3 (.int .i64 0) 8 rfl Tryd.underlying28 hi3 rfl (by decide) (by omega) (.slice Aw2 ns.length cw2) ns 0 [.int .i64 0] (fun q => some q ≠ (Value.slice Ad7 (ks.length + 1) cd7).ownBlock) (fun _ => False) rfl (by first | rfl | (rw [Go.World.size_setCell]; rfl)) ?aP (fun _ hk => hk.elim) ?aF ?aO ?aB ?aS ?aL ?_; (case aP => exact rfl); (case aF => exact fun q hq e1 => Nat.lt_irrefl _ (Nat.lt_of_lt_of_le (own_lt_R (Kd.R_set HO7.out HGK7.out (by simp [Kd.int, Kd.scalar]) 0 (.slice Ad7 (ks.length + 1) cd7)) q e1.symm) hq)); (case aO => exact Kd.R_set HRW7.out HGK7.out (by simp [Kd.int, Kd.scalar]) 0 _); (case aB => exact HB7.out.setCell HK0.out _); (case aS => exact below_size (HB7.out.setCell HK0.out _)); (case aL => have := LM2.out; omega); intro v8 w8 ho hb hgr hat; obtain ⟨Ad8, cd8, ev8⟩ := Kd.R_slice ho; subst ev8; simp only [List.length_append, List.length_singleton] at ho hat; have HO8 := Aside0.mk ho; have HB8 := Aside0.mk hb; have HGW8 := Aside0.mk (blk_grown ((Below.heap_setCell w7 ⟨bk, 0, none⟩ (.slice Ad7 (ks.length + 1) cd7) bw (fun e1 => HNE.out e1.symm)).trans HGW7.out) hgr (Kd.R_ne (Kd.R_set HRW7.out HGK7.out (by simp [Kd.int, Kd.scalar]) 0 (.slice Ad7 (ks.length + 1) cd7)) ((Below.heap_setCell w7 ⟨bk, 0, none⟩ (.slice Ad7 (ks.length + 1) cd7) bw (fun e1 => HNE.out e1.symm)).trans HGW7.out) (by decide))); have HGK8 := Aside0.mk (blk_grown (blk_put HGK7.out 0 (.slice Ad7 (ks.length + 1) cd7) rfl) hgr (Kd.R_ne (Kd.R_set HRW7.out HGK7.out (by simp [Kd.int, Kd.scalar]) 0 (.slice Ad7 (ks.length + 1) cd7)) (blk_put HGK7.out 0 (.slice Ad7 (ks.length + 1) cd7) rfl) (by decide))); have HRK8 := Aside0.mk (two_other (vk := .slice Aw2 ns.length cw2) (Kd.R_set HO7.out HGK7.out (by simp [Kd.int, Kd.scalar]) 0 (.slice Ad7 (ks.length + 1) cd7)) hgr hat); have HK8 := Aside0.mk (Keep.grown (Keep.set HK7.out HGK7.out (by decide) 0 (.slice Ad7 (ks.length + 1) cd7)) (Kd.R_set HRW7.out HGK7.out (by simp [Kd.int, Kd.scalar]) 0 (.slice Ad7 (ks.length + 1) cd7)) (by decide) hgr); have hfz8 := blk_frozen HGW8.out 0; have hcell8 := blk_cell HGW8.out 0; clear ho hb hgr hat))
                      go_ret
                      refine ⟨rfl, HB8.out.setCell HW0.out _, ⟨_, _, (Below.heap_setCell w8 ⟨bw, 0, none⟩ _ bk HNE.out).trans HGK8.out, blk_put HGW8.out 0 _ rfl, ?_, ?_⟩, (((Keep.refl [25] w).of_below HBW.out).trans HK8.out).set HGW8.out (by decide) 0 _⟩
                      · have h1 := Kd.R_set HRK8.out HGW8.out (by simp [Kd.int, Kd.scalar]) 0 (.slice Ad8 (ns.length + 1) cd8)
                        exact h1
                      · have h1 := Kd.R_set HO8.out HGW8.out (by simp [Kd.int, Kd.scalar]) 0 (.slice Ad8 (ns.length + 1) cd8)
                        exact h1

end Go.Proofs.YtbdkmkbkggnekaaDoor.PFnTilingCount
