-- Made by a program of this session (a changed copy of the kit print): the kit print itself does not give this text
import Derived.Test.YtapnohcfnclleaaPFnExactPictureFirstx0
import Derived.Test.YtapnohcfnclleaaPFnExactPictureFirstx7
import Derived.Test.YtapnohcfnclleaaPFnExactPictureFirstx8
import Derived.BigQuiet
import Derived.Deep.QuietTactic
import Derived.Laws.EntriesVeiled
import Derived.Test.YtapnohcfnclleaaV3
namespace Go.Proofs.Ytapnohcfnclleaa.PFnExactPictureFirst
open Go.RowKit Go.Proofs.YtapnohcfnclleaaW.PrintWords Go.Proofs.YtapnohcfnclleaaW.PrintLast Go.Proofs.YtapnohcfnclleaaW.PrintMore
attribute [local go_sem] max2_int min2_int max_two min_two max_three min_three max_four min_four   -- for this text's walks alone
set_option linter.unusedVariables false
set_option linter.unusedSimpArgs false

/-! ### spec_l13All: function 69 -/
--@import Derived.Test.YtapnohcfnclleaaV3
open Go.Proofs.Ytapnohcfnclleaa.My
--@import Derived.Deep.QuietTactic
--@import Derived.BigQuiet

mutual
def spec_l13Search.f : Nat → List (List Int) → List (List Int) → Int → List (List Bool) → List (List (List Bool)) → Option (List (List (List Bool)))
  | 0, _, _, _, _, _ => none
  | k + 1, x0, x1, x2, x4, x5 => if (x4.length : Int) = (x0.length : Int) then ((spec_l13Search.l0 k x1 x4 0).bind fun b => (if b = true then (some x5) else ((spec_l1OwnRowsBool.f k x4).bind fun y => (if x5.length < 4398046511104 then (some (x5 ++ [y])) else none)))) else ((spec_l13Search.l1 k x1 x4 0).bind fun b => (if b = true then (some x5) else (spec_l13Search.l3 k x0 x1 x2 x4 x5 0)))
def spec_l13Search.l0 : Nat → List (List Int) → List (List Bool) → Int → Option Bool
  | 0, _, _, _ => none
  | k + 1, x1, x4, i => if i < (x1.length : Int) then (if 0 ≤ i then ((spec_l13Column.f k x4 i).bind fun y => ((spec_l12Same.f k y (rd_L1 x1 i)).bind fun t => (if t = true then (spec_l13Search.l0 k x1 x4 (wrap64 (i + 1))) else (some true)))) else none) else (some false)
def spec_l13Search.l1 : Nat → List (List Int) → List (List Bool) → Int → Option Bool
  | 0, _, _, _ => none
  | k + 1, x1, x4, i => if i < (x1.length : Int) then (if 0 ≤ i then ((spec_l13Column.f k x4 i).bind fun y => ((spec_ClueOf.f k y).bind fun p => (if (p.length : Int) > ((rd_L1 x1 i).length : Int) then (some true) else ((spec_l13Search.l2 k p (rd_L1 x1 i) 0).bind fun t => (if t = true then (some true) else (spec_l13Search.l1 k x1 x4 (wrap64 (i + 1)))))))) else none) else (some false)
def spec_l13Search.l2 : Nat → List Int → List Int → Int → Option Bool
  | 0, _, _, _ => none
  | k + 1, p, q, j => if j < (p.length : Int) then (if 0 ≤ j then (if j < (q.length : Int) then (if (rd p j) > (rd q j) then (some true) else (if j < (wrap64 ((p.length : Int) - 1)) then (if (rd p j) < (rd q j) then (some true) else (spec_l13Search.l2 k p q (wrap64 (j + 1)))) else (spec_l13Search.l2 k p q (wrap64 (j + 1))))) else none) else none) else (some false)
def spec_l13Search.l3 : Nat → List (List Int) → List (List Int) → Int → List (List Bool) → List (List (List Bool)) → Int → Option (List (List (List Bool)))
  | 0, _, _, _, _, _, _ => none
  | k + 1, x0, x1, x2, x4, z, i => if i < (shl .i64 1 (x1.length : Int)) then (if (z.length : Int) < x2 then ((spec_l12Line.f k i (x1.length : Int)).bind fun ln => (if (x4.length : Int) < (x0.length : Int) then ((spec_l12Same.f k ln (rd_L1 x0 (x4.length : Int))).bind fun t => (if t = true then (if x4.length < 4398046511104 then ((spec_l13Search.f k x0 x1 x2 (x4 ++ [ln]) z).bind fun z' => (spec_l13Search.l3 k x0 x1 x2 x4 z' (wrap64 (i + 1)))) else none) else (spec_l13Search.l3 k x0 x1 x2 x4 z (wrap64 (i + 1))))) else none)) else (some z)) else (some z)
end
theorem spec_l13Search.mono_l : ∀ k, (∀ y0 y1 y2 y3 y4, LeO (spec_l13Search.f k y0 y1 y2 y3 y4) (spec_l13Search.f (k + 1) y0 y1 y2 y3 y4)) ∧ (∀ y0 y1 y2, LeO (spec_l13Search.l0 k y0 y1 y2) (spec_l13Search.l0 (k + 1) y0 y1 y2)) ∧ (∀ y0 y1 y2, LeO (spec_l13Search.l1 k y0 y1 y2) (spec_l13Search.l1 (k + 1) y0 y1 y2)) ∧ (∀ y0 y1 y2, LeO (spec_l13Search.l2 k y0 y1 y2) (spec_l13Search.l2 (k + 1) y0 y1 y2)) ∧ (∀ y0 y1 y2 y3 y4 y5, LeO (spec_l13Search.l3 k y0 y1 y2 y3 y4 y5) (spec_l13Search.l3 (k + 1) y0 y1 y2 y3 y4 y5))
  | 0 => ⟨fun _ _ _ _ _ r h => by simp [spec_l13Search.f] at h, fun _ _ _ r h => by simp [spec_l13Search.l0] at h, fun _ _ _ r h => by simp [spec_l13Search.l1] at h, fun _ _ _ r h => by simp [spec_l13Search.l2] at h, fun _ _ _ _ _ _ r h => by simp [spec_l13Search.l3] at h⟩
  | k + 1 => by
    obtain ⟨ih0, ih1, ih2, ih3, ih4⟩ := spec_l13Search.mono_l k
    refine ⟨?_, ?_, ?_, ?_, ?_⟩
    · intro y0 y1 y2 y3 y4
      unfold spec_l13Search.f
      repeat' first
      | (with_reducible exact ih0 _ _ _ _ _)
      | (with_reducible exact ih1 _ _ _)
      | (with_reducible exact ih2 _ _ _)
      | (with_reducible exact ih3 _ _ _)
      | (with_reducible exact ih4 _ _ _ _ _ _)
      | (with_reducible exact spec_l1OwnRowsBool.mono _ _)
      | (with_reducible exact spec_l13Column.mono _ _ _)
      | (with_reducible exact spec_l12Same.mono _ _ _)
      | (with_reducible exact spec_ClueOf.mono _ _)
      | (with_reducible exact spec_l12Line.mono _ _ _)
      | (with_reducible exact LeO.refl _)
      | (with_reducible exact LeO.none _)
      | (with_reducible refine LeO.ite ?_ ?_)
      | (with_reducible refine LeO.bind ?_ (fun _ => ?_))
      | exact ih0 _ _ _ _ _
      | exact ih1 _ _ _
      | exact ih2 _ _ _
      | exact ih3 _ _ _
      | exact ih4 _ _ _ _ _ _
      | exact spec_l1OwnRowsBool.mono _ _
      | exact spec_l13Column.mono _ _ _
      | exact spec_l12Same.mono _ _ _
      | exact spec_ClueOf.mono _ _
      | exact spec_l12Line.mono _ _ _
      | exact LeO.none _
      | refine LeO.ite ?_ ?_
      | refine LeO.bind ?_ (fun _ => ?_)
    · intro y0 y1 y2
      unfold spec_l13Search.l0
      repeat' first
      | (with_reducible exact ih0 _ _ _ _ _)
      | (with_reducible exact ih1 _ _ _)
      | (with_reducible exact ih2 _ _ _)
      | (with_reducible exact ih3 _ _ _)
      | (with_reducible exact ih4 _ _ _ _ _ _)
      | (with_reducible exact spec_l1OwnRowsBool.mono _ _)
      | (with_reducible exact spec_l13Column.mono _ _ _)
      | (with_reducible exact spec_l12Same.mono _ _ _)
      | (with_reducible exact spec_ClueOf.mono _ _)
      | (with_reducible exact spec_l12Line.mono _ _ _)
      | (with_reducible exact LeO.refl _)
      | (with_reducible exact LeO.none _)
      | (with_reducible refine LeO.ite ?_ ?_)
      | (with_reducible refine LeO.bind ?_ (fun _ => ?_))
      | exact ih0 _ _ _ _ _
      | exact ih1 _ _ _
      | exact ih2 _ _ _
      | exact ih3 _ _ _
      | exact ih4 _ _ _ _ _ _
      | exact spec_l1OwnRowsBool.mono _ _
      | exact spec_l13Column.mono _ _ _
      | exact spec_l12Same.mono _ _ _
      | exact spec_ClueOf.mono _ _
      | exact spec_l12Line.mono _ _ _
      | exact LeO.none _
      | refine LeO.ite ?_ ?_
      | refine LeO.bind ?_ (fun _ => ?_)
    · intro y0 y1 y2
      unfold spec_l13Search.l1
      repeat' first
      | (with_reducible exact ih0 _ _ _ _ _)
      | (with_reducible exact ih1 _ _ _)
      | (with_reducible exact ih2 _ _ _)
      | (with_reducible exact ih3 _ _ _)
      | (with_reducible exact ih4 _ _ _ _ _ _)
      | (with_reducible exact spec_l1OwnRowsBool.mono _ _)
      | (with_reducible exact spec_l13Column.mono _ _ _)
      | (with_reducible exact spec_l12Same.mono _ _ _)
      | (with_reducible exact spec_ClueOf.mono _ _)
      | (with_reducible exact spec_l12Line.mono _ _ _)
      | (with_reducible exact LeO.refl _)
      | (with_reducible exact LeO.none _)
      | (with_reducible refine LeO.ite ?_ ?_)
      | (with_reducible refine LeO.bind ?_ (fun _ => ?_))
      | exact ih0 _ _ _ _ _
      | exact ih1 _ _ _
      | exact ih2 _ _ _
      | exact ih3 _ _ _
      | exact ih4 _ _ _ _ _ _
      | exact spec_l1OwnRowsBool.mono _ _
      | exact spec_l13Column.mono _ _ _
      | exact spec_l12Same.mono _ _ _
      | exact spec_ClueOf.mono _ _
      | exact spec_l12Line.mono _ _ _
      | exact LeO.none _
      | refine LeO.ite ?_ ?_
      | refine LeO.bind ?_ (fun _ => ?_)
    · intro y0 y1 y2
      unfold spec_l13Search.l2
      repeat' first
      | (with_reducible exact ih0 _ _ _ _ _)
      | (with_reducible exact ih1 _ _ _)
      | (with_reducible exact ih2 _ _ _)
      | (with_reducible exact ih3 _ _ _)
      | (with_reducible exact ih4 _ _ _ _ _ _)
      | (with_reducible exact spec_l1OwnRowsBool.mono _ _)
      | (with_reducible exact spec_l13Column.mono _ _ _)
      | (with_reducible exact spec_l12Same.mono _ _ _)
      | (with_reducible exact spec_ClueOf.mono _ _)
      | (with_reducible exact spec_l12Line.mono _ _ _)
      | (with_reducible exact LeO.refl _)
      | (with_reducible exact LeO.none _)
      | (with_reducible refine LeO.ite ?_ ?_)
      | (with_reducible refine LeO.bind ?_ (fun _ => ?_))
      | exact ih0 _ _ _ _ _
      | exact ih1 _ _ _
      | exact ih2 _ _ _
      | exact ih3 _ _ _
      | exact ih4 _ _ _ _ _ _
      | exact spec_l1OwnRowsBool.mono _ _
      | exact spec_l13Column.mono _ _ _
      | exact spec_l12Same.mono _ _ _
      | exact spec_ClueOf.mono _ _
      | exact spec_l12Line.mono _ _ _
      | exact LeO.none _
      | refine LeO.ite ?_ ?_
      | refine LeO.bind ?_ (fun _ => ?_)
    · intro y0 y1 y2 y3 y4 y5
      unfold spec_l13Search.l3
      repeat' first
      | (with_reducible exact ih0 _ _ _ _ _)
      | (with_reducible exact ih1 _ _ _)
      | (with_reducible exact ih2 _ _ _)
      | (with_reducible exact ih3 _ _ _)
      | (with_reducible exact ih4 _ _ _ _ _ _)
      | (with_reducible exact spec_l1OwnRowsBool.mono _ _)
      | (with_reducible exact spec_l13Column.mono _ _ _)
      | (with_reducible exact spec_l12Same.mono _ _ _)
      | (with_reducible exact spec_ClueOf.mono _ _)
      | (with_reducible exact spec_l12Line.mono _ _ _)
      | (with_reducible exact LeO.refl _)
      | (with_reducible exact LeO.none _)
      | (with_reducible refine LeO.ite ?_ ?_)
      | (with_reducible refine LeO.bind ?_ (fun _ => ?_))
      | exact ih0 _ _ _ _ _
      | exact ih1 _ _ _
      | exact ih2 _ _ _
      | exact ih3 _ _ _
      | exact ih4 _ _ _ _ _ _
      | exact spec_l1OwnRowsBool.mono _ _
      | exact spec_l13Column.mono _ _ _
      | exact spec_l12Same.mono _ _ _
      | exact spec_ClueOf.mono _ _
      | exact spec_l12Line.mono _ _ _
      | exact LeO.none _
      | refine LeO.ite ?_ ?_
      | refine LeO.bind ?_ (fun _ => ?_)
theorem spec_l13Search.mono : ∀ a0 a1 a2 a3 a4 k, LeO (spec_l13Search.f k a0 a1 a2 a3 a4) (spec_l13Search.f (k + 1) a0 a1 a2 a3 a4) := by
  intro a0 a1 a2 a3 a4 k
  obtain ⟨ih0, ih1, ih2, ih3, ih4⟩ := spec_l13Search.mono_l k
  exact ih0 a0 a1 a2 a3 a4
/-- What a call of l13Search leaves. -/
def L13Post (W0 : World) (g : Nat) (w : World) (r : List (List (List Bool))) (e : Ending) (w' : World) : Prop :=
  e = .returned (.tuple #[]) ∧ Below W0.heap.size W0 w' ∧ Var (Kd.slice 37 (Kd.slice 4 Kd.bool)) 32 74 g W0.heap.size w' r ∧ Keep [4, 37, 25] w w'
set_option maxHeartbeats 8000000 in
set_option maxRecDepth 100000 in
theorem spec_l13Search.calls (W0 : World) (g : Nat) (hg0 : W0.heap.size ≤ g) (A0 : Option Addr) (c0 : Nat) (l0 : List (List Int)) (A1 : Option Addr) (c1 : Nat) (l1 : List (List Int)) (a2 : Int)
    (hr0 : Kd.C (Kd.slice 3 (Kd.int .i64)) W0 A0 l0.length l0) (hc0 : l0.length ≤ c0) (hr1 : Kd.C (Kd.slice 3 (Kd.int .i64)) W0 A1 l1.length l1) (hc1 : l1.length ≤ c1) (k : Nat) : ∀ (A4 : Option Addr) (c4 : Nat) (l4 : List (List Bool)) (l5 r : List (List (List Bool))) (w : World) (hb : Below W0.heap.size W0 w)
    (hr4 : Kd.R (Kd.slice 4 Kd.bool) 37 w W0.heap.size (fun _ => True) (.slice A4 l4.length c4) l4) (hv : Var (Kd.slice 37 (Kd.slice 4 Kd.bool)) 32 74 g W0.heap.size w l5) (h : spec_l13Search.f k l0 l1 a2 l4 l5 = some r),
    Calls Try.prog 89 #[.agg #[.slice A0 l0.length c0, .slice A1 l1.length c1], .slice A4 l4.length c4, .int .i64 a2, .pointer (some ⟨g, 0, none⟩)] w (L13Post W0 g w r) := by
  induction k using Nat.strongRecOn with
  | _ k ih =>
  cases k with
  | zero => intro A4 c4 l4 l5 r w hb hr4 hv h; exact absurd h (by simp [spec_l13Search.f])
  | succ k =>
    intro A4 c4 l4 l5 r w hb hr4 hv h
    rw [spec_l13Search.f] at h
    have hu25 := Try.underlying25
    have hi32 : (Try.prog.info? 32).map (fun i => (i.zero, i.size, i.bytes)) = some (some (.slice none 0 0), 1, 24) := by kernel_rfl
    have hi37 : (Try.prog.info? 37).map (fun i => (i.zero, i.size, i.bytes)) = some (some (.slice none 0 0), 1, 24) := by kernel_rfl
    have HIH := Aside0.mk ih
    clear ih
    have HB := Aside0.mk hb
    have HR := Aside0.mk hr4
    have HV := Aside0.mk hv
    have HG0 := Aside0.mk hg0
    have HR0 := Aside0.mk hr0
    have HR1 := Aside0.mk hr1
    clear hb hr4 hv hg0 hr0 hr1
    obtain ⟨W1, hW1⟩ : ∃ W1 : World, W1 = w.alloc (Obj.cells #[.slice A0 l0.length c0, .slice A1 l1.length c1] 25) := ⟨_, rfl⟩
    have HW1 := Aside0.mk hW1
    have HGB : Aside0 (W1.heap[w.heap.size]? = some (Obj.cells #[.slice A0 l0.length c0, .slice A1 l1.length c1] 25 (0, 0))) := ⟨by rw [hW1]; exact blk_new _ _⟩
    have HBW : Aside0 (Below w.heap.size w W1) := ⟨by rw [hW1]; exact (Below.refl _ _).alloc (Nat.le_refl _) _⟩
    have HB1 : Aside0 (Below W0.heap.size W0 W1) := ⟨below_step HB.out HBW.out⟩
    have HV1 : Aside0 (Var (Kd.slice 37 (Kd.slice 4 Kd.bool)) 32 74 g W0.heap.size W1 l5) := ⟨HV.out.below HBW.out⟩
    have HR4 : Aside0 (Kd.R (Kd.slice 4 Kd.bool) 37 W1 W0.heap.size (fun _ => True) (.slice A4 l4.length c4) l4) := ⟨Kd.R_below HR.out HBW.out⟩
    have cb00 : (w.alloc (Obj.cells #[.slice A0 l0.length c0, .slice A1 l1.length c1] 25)).cell? ⟨w.heap.size, 0, none⟩ = some (.slice A0 l0.length c0) := blk_cell (blk_new _ _) 0
    clear hW1
    by_cases c1' : (l4.length : Int) = (l0.length : Int)
    · rw [if_pos c1'] at h
      have b1 : ((l4.length : Int) == (l0.length : Int)) = true := beq_iff_eq.mpr c1'
      have b1n : (l4.length == l0.length) = true := beq_iff_eq.mpr (by omega)
      obtain ⟨b, h0, h⟩ := Option.bind_eq_some_iff.mp h
      have HF := Aside0.mk h0
      have HH := Aside0.mk h
      clear h0 h
      go_enter Try.func89, Try.ntmps89
      go_wp2_with fail
      go_loopg [9] k (fun kq v9 w' => ∃ (i : Int), v9 = .int .i64 i ∧ Aside0 (spec_l13Search.l0 kq l1 l4 i = some b) ∧ Aside0 (kq ≤ k) ∧ Aside0 (Below W1.heap.size W1 w'))
      case atStart => exact ⟨0, rfl, HF, ⟨Nat.le_refl _⟩, ⟨by rw [HW1.out]; exact Below.refl _ _⟩⟩
      case round =>
        clear HF cb00
        obtain ⟨i, rfl, HA, HK, HW⟩ := hrel
        cases gk with
        | zero => exact absurd HA.out (by simp [spec_l13Search.l0])
        | succ k1 =>
          have H := HA.out
          clear HA
          rw [spec_l13Search.l0] at H
          have cb1 : wr.cell? ⟨w.heap.size, 1, none⟩ = some (.slice A1 l1.length c1) := blk_cell ((HW.out.block _ (lt_of_some HGB.out)).trans HGB.out) 1
          by_cases c5 : i < (l1.length : Int)
          · rw [if_pos c5] at H
            have c5b0 : decide (i < (l1.length : Int)) = true := decide_eq_true c5
            by_cases c6 : 0 ≤ i
            · rw [if_pos c6] at H
              obtain ⟨y, hy, H⟩ := Option.bind_eq_some_iff.mp H
              obtain ⟨t, ht, H⟩ := Option.bind_eq_some_iff.mp H
              have HY := Aside0.mk hy
              have HT := Aside0.mk ht
              have HTL := Aside0.mk H
              clear H hy ht
              obtain ⟨ad1, Ac, cc, ec, hxc, hlc, hic⟩ := at_L1 HR1.out i c6 c5
              cases ec
              have HXC := Aside0.mk hxc
              replace hxc := ((below_step HB1.out HW.out).cell (World.block_lt_of_cell? W0 _ hxc)).trans hxc
              have HLC := Aside0.mk hlc
              have HIC := Aside0.mk hic
              clear hlc hic
              replace c5 := eq_true c5
              replace c6 := eq_true c6
              go_wp2_with fail
              have HBd : Aside0 (Below wr.heap.size wr wr.drew) := ⟨below_drew1 (Below.refl _ _)⟩
              refine start_ (n := 10) (S := fun w' => w'.cell? ⟨w.heap.size, 1, none⟩ = some (.slice (some ad1) l1.length c1) ∧ w'.cell? (ad1.add i.toNat) = some (.slice Ac (rd_L1 l1 i).length cc)) (ds := []) #[false, false, false, false, false, false, false, false, false, false] (by kernel_rfl) rfl rfl ⟨cb1, hxc⟩ (fun hHeld => ?_)
              generalize wr.drew = wd at HBd hHeld ⊢
              have HWd := Aside0.mk (below_step HW.out HBd.out)
              refine pure_ (i := 0) (N := some 29) (v := ?_) (a' := ?_) #[true, false, false, false, false, false, false, false, false, false] rfl rfl (by kernel_rfl) (fun _ _ _ h => h) (Or.inl ⟨by rfl, ?_⟩) ?_ ?_
              rotate_left
              · intro w'
                go_simp
                with_reducible rfl
              rotate_left
              · simp only [Act.put, List.setIfInBounds_toArray, List.set_cons_zero, List.set_cons_succ, i64_w, i32_w]
                rfl
              refine pure_ (i := 1) (N := some 30) (v := ?_) (a' := ?_) #[true, true, false, false, false, false, false, false, false, false] rfl rfl (by kernel_rfl) (fun _ _ _ h => h) (Or.inl ⟨by rfl, ?_⟩) ?_ ?_
              rotate_left
              · intro w'
                go_simp
                with_reducible rfl
              rotate_left
              · simp only [Act.put, List.setIfInBounds_toArray, List.set_cons_zero, List.set_cons_succ, i64_w, i32_w]
                rfl
              refine pure_ (i := 3) (N := some 32) (v := ?_) (a' := ?_) #[true, true, false, true, false, false, false, false, false, false] rfl rfl (by kernel_rfl) (fun _ _ _ h => h) (Or.inl ⟨by rfl, ?_⟩) ?_ ?_
              rotate_left
              · intro w'
                go_simp
                with_reducible rfl
              rotate_left
              · simp only [Act.put, List.setIfInBounds_toArray, List.set_cons_zero, List.set_cons_succ, i64_w, i32_w]
                rfl
              refine pure_ (i := 5) (N := some 34) (v := ?_) (a' := ?_) #[true, true, false, true, false, true, false, false, false, false] rfl rfl (by kernel_rfl) (fun _ _ _ h => h) (Or.inl ⟨by rfl, ?_⟩) ?_ ?_
              rotate_left
              · intro w'
                go_simp
                with_reducible rfl
              rotate_left
              · simp only [Act.put, List.setIfInBounds_toArray, List.set_cons_zero, List.set_cons_succ, i64_w, i32_w]
                rfl
              refine take_ (i := 4) (N := some 33) (v := ?_) (a' := ?_) #[true, true, false, true, true, true, false, false, false, false] rfl rfl (by kernel_rfl) (fun _ _ _ h => h) (Or.inl ⟨by rfl, ?_⟩) hHeld ?_ ?_
              rotate_left
              · rintro w' ⟨s0, s1⟩
                go_simp
                with_reducible rfl
              rotate_left
              · simp only [Act.put, List.setIfInBounds_toArray, List.set_cons_zero, List.set_cons_succ, i64_w, i32_w]
                rfl
              refine pure_ (i := 6) (N := some 35) (v := ?_) (a' := ?_) #[true, true, false, true, true, true, true, false, false, false] rfl rfl (by kernel_rfl) (fun _ _ _ h => h) (Or.inl ⟨by rfl, ?_⟩) ?_ ?_
              rotate_left
              · intro w'
                go_simp
                with_reducible rfl
              rotate_left
              · simp only [Act.put, List.setIfInBounds_toArray, List.set_cons_zero, List.set_cons_succ, i64_w, i32_w]
                rfl
              refine take_ (i := 7) (N := some 36) (v := ?_) (a' := ?_) #[true, true, false, true, true, true, true, true, false, false] rfl rfl (by kernel_rfl) (fun _ _ _ h => h) (Or.inl ⟨by rfl, ?_⟩) hHeld ?_ ?_
              rotate_left
              · rintro w' ⟨s0, s1⟩
                go_simp
                with_reducible rfl
              rotate_left
              · simp only [Act.put, List.setIfInBounds_toArray, List.set_cons_zero, List.set_cons_succ, i64_w, i32_w]
                rfl
              refine one_ (i := 2) (N := some 31) #[true, true, true, true, true, true, true, true, false, false] rfl rfl (by kernel_rfl) (by decide) (fun K hK => ?_)
              refine goes_ Try.func63 (by kernel_rfl) rfl #[.slice A4 l4.length c4, .int .i64 i] (by rfl) rfl rfl (by (try simp only [List.map_toArray, List.map_cons, List.map_nil]); first | done | rfl) ?_
              with_reducible refine (spec_l13Column.calls k1 A4 c4 l4 i y _ (Kd.C_below (Kd.R_reads' HR4.out).2.2 HWd.out) (Kd.R_reads' HR4.out).2.1 HY.out).mono ?_
              rintro e wb ⟨v31, rfl, hv31, hd⟩
              obtain ⟨A31, c31, e31⟩ := Kd.R_slice hv31
              subst e31
              have HO31 := Aside0.mk hv31
              have HWb := Aside0.mk (below_step HWd.out hd)
              clear hv31 hd
              refine ⟨_, rfl, ?_⟩
              refine hK.out _ _ ⟨blk_cell ((HWb.out.block _ (lt_of_some HGB.out)).trans HGB.out) 1, ((below_step HB1.out HWb.out).cell (World.block_lt_of_cell? W0 _ HXC.out)).trans HXC.out⟩ (fun hHeld => ?_)
              clear hK K
              refine norm_ (a' := ?_) ?_ ?_
              rotate_left
              · show Act.put _ (some 31) _ = _
                simp only [Act.put, List.setIfInBounds_toArray, List.set_cons_zero, List.set_cons_succ, i64_w, i32_w]
                rfl
              refine one_ (i := 8) (N := some 37) #[true, true, true, true, true, true, true, true, true, false] rfl rfl (by kernel_rfl) (by decide) (fun K hK => ?_)
              refine goes_ Try.func83 (by kernel_rfl) rfl #[.slice A31 y.length c31, .slice Ac (rd_L1 l1 i).length cc] (by rfl) rfl rfl (by (try simp only [List.map_toArray, List.map_cons, List.map_nil]); first | done | rfl) ?_
              with_reducible refine (spec_l12Same.calls k1 A31 c31 y Ac cc (rd_L1 l1 i) t _ (Kd.R_reads' HO31.out).2.2 (Kd.R_reads' HO31.out).2.1 (Kd.C_below HIC.out (below_step HB1.out HWb.out)) HLC.out HT.out).mono ?_
              rintro e wc ⟨rfl, hd⟩
              have HWc := Aside0.mk (below_step HWb.out hd)
              clear hd
              refine ⟨_, rfl, ?_⟩
              refine hK.out _ _ ⟨blk_cell ((HWc.out.block _ (lt_of_some HGB.out)).trans HGB.out) 1, ((below_step HB1.out HWc.out).cell (World.block_lt_of_cell? W0 _ HXC.out)).trans HXC.out⟩ (fun hHeld => ?_)
              clear hK K
              refine norm_ (a' := ?_) ?_ ?_
              rotate_left
              · show Act.put _ (some 37) _ = _
                simp only [Act.put, List.setIfInBounds_toArray, List.set_cons_zero, List.set_cons_succ, i64_w, i32_w]
                rfl
              refine pure_ (i := 9) (N := some 38) (v := ?_) (a' := ?_) #[true, true, true, true, true, true, true, true, true, true] rfl rfl (by kernel_rfl) (fun _ _ _ h => h) (Or.inl ⟨by rfl, ?_⟩) ?_ ?_
              rotate_left
              · intro w'
                go_simp
                with_reducible rfl
              rotate_left
              · simp only [Act.put, List.setIfInBounds_toArray, List.set_cons_zero, List.set_cons_succ, i64_w, i32_w]
                rfl
              refine done_ (by kernel_rfl) ?_
              have H := HTL.out
              clear HTL hxc cb1
              cases t with
              | false =>
                rw [if_neg (by decide)] at H
                have eb : true = b := Option.some.inj H
                subst eb
                clear H
                have H := HH.out
                rw [if_pos rfl] at H
                have er : l5 = r := Option.some.inj H
                subst er
                clear H HH
                go_wp2_with fail
                go_end0
                exact ⟨rfl, below_step HB1.out HWc.out, HV1.out.below HWc.out, ((Keep.refl _ _).of_below HBW.out).of_below HWc.out⟩
              | true =>
                rw [if_pos rfl] at H
                have H' := Aside0.mk H
                clear H
                go_wp2_with fail
                go_roundg k1
                case measure => have := HK.out; omega
                case rel => exact ⟨wrap64 (i + 1), rfl, H', ⟨by have := HK.out; omega⟩, HWc⟩
            · rw [if_neg c6] at H
              exact absurd H (by simp)
          · rw [if_neg c5] at H
            have c5b0 : decide (i < (l1.length : Int)) = false := decide_eq_false c5
            clear c5
            have eb : false = b := Option.some.inj H
            subst eb
            clear H
            have H := HH.out
            clear HH
            rw [if_neg (by decide)] at H
            obtain ⟨y, hy, H⟩ := Option.bind_eq_some_iff.mp H
            have HY := Aside0.mk hy
            clear hy
            by_cases c13 : l5.length < 4398046511104
            · rw [if_pos c13] at H
              have LM := Aside0.mk c13
              have e0 : l5 ++ [y] = r := Option.some.inj H
              subst e0
              clear H c13
              obtain ⟨vv, hvg, hvr⟩ := HV1.out.below HW.out
              obtain ⟨Adv, cdv, evv⟩ := Kd.R_slice hvr
              subst evv
              have HVG := Aside0.mk hvg
              have HVR := Aside0.mk hvr
              have HR' := Aside0.mk (Kd.R_below HR4.out HW.out)
              have cvg : wr.cell? ⟨g, 0, none⟩ = some (.slice Adv l5.length cdv) := blk_cell hvg 0
              have HBr := Aside0.mk (below_step HB1.out HW.out)
              clear hvg hvr
              go_wp2_with fail
              have HBd : Aside0 (Below wr.heap.size wr wr.drew) := ⟨below_drew1 (Below.refl _ _)⟩
              refine start_ (n := 10) (S := fun w' => w'.cell? ⟨g, 0, none⟩ = some (.slice Adv l5.length cdv)) (ds := [9]) #[false, false, false, false, false, false, false, false, false, false] (by kernel_rfl) rfl rfl cvg (fun hHeld => ?_)
              generalize wr.drew = wd at HBd hHeld ⊢
              refine pure_ (i := 0) (N := some 39) (v := ?_) (a' := ?_) #[true, false, false, false, false, false, false, false, false, false] rfl rfl (by kernel_rfl) (fun _ _ _ h => h) (Or.inl ⟨by rfl, ?_⟩) ?_ ?_
              rotate_left
              · intro w'
                go_simp
                with_reducible rfl
              rotate_left
              · simp only [Act.put, List.setIfInBounds_toArray, List.set_cons_zero, List.set_cons_succ, i64_w, i32_w]
                rfl
              refine pure_ (i := 1) (N := some 40) (v := ?_) (a' := ?_) #[true, true, false, false, false, false, false, false, false, false] rfl rfl (by kernel_rfl) (fun _ _ _ h => h) (Or.inl ⟨by rfl, ?_⟩) ?_ ?_
              rotate_left
              · intro w'
                go_simp
                with_reducible rfl
              rotate_left
              · simp only [Act.put, List.setIfInBounds_toArray, List.set_cons_zero, List.set_cons_succ, i64_w, i32_w]
                rfl
              refine pure_ (i := 4) (N := some 43) (v := ?_) (a' := ?_) #[true, true, false, false, true, false, false, false, false, false] rfl rfl (by kernel_rfl) (fun _ _ _ h => h) (Or.inl ⟨by rfl, ?_⟩) ?_ ?_
              rotate_left
              · intro w'
                go_simp
                with_reducible rfl
              rotate_left
              · simp only [Act.put, List.setIfInBounds_toArray, List.set_cons_zero, List.set_cons_succ, i64_w, i32_w]
                rfl
              refine pure_ (i := 2) (N := some 41) (v := ?_) (a' := ?_) #[true, true, true, false, true, false, false, false, false, false] rfl rfl (by kernel_rfl) (fun _ _ _ h => h) (Or.inl ⟨by rfl, ?_⟩) ?_ ?_
              rotate_left
              · intro w'
                go_simp
                with_reducible rfl
              rotate_left
              · simp only [Act.put, List.setIfInBounds_toArray, List.set_cons_zero, List.set_cons_succ, i64_w, i32_w]
                rfl
              refine take_ (i := 3) (N := some 42) (v := ?_) (a' := ?_) #[true, true, true, true, true, false, false, false, false, false] rfl rfl (by kernel_rfl) (fun _ _ _ h => h) (Or.inl ⟨by rfl, ?_⟩) hHeld ?_ ?_
              rotate_left
              · rintro w' s0
                go_simp
                with_reducible rfl
              rotate_left
              · simp only [Act.put, List.setIfInBounds_toArray, List.set_cons_zero, List.set_cons_succ, i64_w, i32_w]
                rfl
              refine one_ (i := 5) (N := some 44) #[true, true, true, true, true, true, false, false, false, false] rfl rfl (by kernel_rfl) (by decide) (fun K hK => ?_)
              refine goes_ Try.func61 (by kernel_rfl) rfl #[.slice A4 l4.length c4] (by rfl) rfl rfl (by (try simp only [List.map_toArray, List.map_cons, List.map_nil]); first | done | rfl) ?_
              with_reducible refine (spec_l1OwnRowsBool.calls k A4 c4 l4 y _ (Kd.C_below (Kd.R_reads' HR'.out).2.2 HBd.out) (Kd.R_reads' HR'.out).2.1 HY.out).mono ?_
              rintro e wb ⟨v44, rfl, hv44, hd⟩
              obtain ⟨A44, c44, e44⟩ := Kd.R_slice hv44
              subst e44
              have HBb := Aside0.mk (below_step HBd.out hd)
              have HO44 := Aside0.mk (Kd.R_lower hv44 (below_step HBr.out HBd.out).size)
              have HVGb := Aside0.mk ((HBb.out.block _ (lt_of_some HVG.out)).trans HVG.out)
              have HVRb := Aside0.mk (Kd.R_below HVR.out HBb.out)
              clear hv44 hd
              refine ⟨_, rfl, ?_⟩
              refine hK.out _ _ (blk_cell HVGb.out 0) (fun hHeld => ?_)
              clear hK K
              refine norm_ (a' := ?_) ?_ ?_
              rotate_left
              · show Act.put _ (some 44) _ = _
                simp only [Act.put, List.setIfInBounds_toArray, List.set_cons_zero, List.set_cons_succ, i64_w, i32_w]
                rfl
              refine one_ (i := 6) (N := some 45) #[true, true, true, true, true, true, true, false, false, false] rfl rfl (by kernel_rfl) (by decide) (fun K hK => ?_)
              refine value_ (w1 := ?_) (v := ?_) (by rfl) rfl ?_ ?_
              rotate_left 2
              · go_simp
                constructor
                · rfl
                · rfl
              refine hK.out _ _ (blk_cell (blk_alloc HVGb.out _) 0) (fun hHeld => ?_)
              clear hK K
              refine norm_ (a' := ?_) ?_ ?_
              rotate_left
              · show Act.put _ (some 45) _ = _
                simp only [Act.put, List.setIfInBounds_toArray, List.set_cons_zero, List.set_cons_succ, i64_w, i32_w]
                rfl
              refine one_ (i := 7) (N := some 46) #[true, true, true, true, true, true, true, true, false, false] rfl rfl (by kernel_rfl) (by decide) (fun K hK => ?_)
              refine Kd.R_append_step (Kd.slice 37 (Kd.slice 4 Kd.bool)) (w0 := W0) W0.heap.size (by rfl) (.tmp 42) (.tmp 45) 74 32 (.slice none 0 0) 24 rfl Try.underlying74 hi32 rfl (by decide) (by omega) (.slice Adv l5.length cdv) l5 y [.slice A44 y.length c44] (fun _ => True) (fun k_ => True ∧ some k_ ≠ (Value.slice Adv l5.length cdv).ownBlock) rfl rfl ?aP (fun _ hk => hk) ?aF ?aO ?aB ?aS ?aL ?_
              (case aP => exact Kd.M_row (R_apart HO44.out HVRb.out (by simp [Kd.bool, Kd.slice, Kd.scalar])))
              (case aF => exact fun _ _ => trivial)
              (case aO => exact HVRb.out)
              (case aB => exact below_step HBr.out HBb.out)
              (case aS => exact (below_step HBr.out HBb.out).size)
              (case aL => have := LM.out; omega)
              intro v46 w1 ho hb hgr hat
              obtain ⟨Ad1, cd1, ev1⟩ := Kd.R_slice ho
              subst ev1
              have HO := Aside0.mk ho
              have HB4 := Aside0.mk hb
              have HG1 := Aside0.mk hgr
              have HGG := Aside0.mk (blk_grown HVGb.out hgr (Kd.R_ne HVRb.out HVGb.out (by decide)))
              clear ho hb hgr hat
              refine hK.out _ _ (blk_cell HGG.out 0) (fun hHeld => ?_)
              clear hK K
              refine norm_ (a' := ?_) ?_ ?_
              rotate_left
              · show Act.put _ (some 46) _ = _
                simp only [Act.put, List.setIfInBounds_toArray, List.set_cons_zero, List.set_cons_succ, i64_w, i32_w]
                rfl
              refine pure_ (i := 8) (N := some 47) (v := ?_) (a' := ?_) #[true, true, true, true, true, true, true, true, true, false] rfl rfl (by kernel_rfl) (fun _ _ _ h => h) (Or.inl ⟨by rfl, ?_⟩) ?_ ?_
              rotate_left
              · intro w'
                go_simp
                with_reducible rfl
              rotate_left
              · simp only [Act.put, List.setIfInBounds_toArray, List.set_cons_zero, List.set_cons_succ, i64_w, i32_w]
                rfl
              refine last_ (i := 9) (N := none) #[true, true, true, true, true, true, true, true, true, true] rfl rfl (by kernel_rfl) (by decide) (fun K hK => ?_)
              have hs_ := blk_cell HGG.out 0
              have hfs_ := blk_frozen HGG.out 0
              refine skip_ (w1 := ?_) (by rfl) rfl ?_ ?_
              rotate_left
              · go_simp
                rfl
              refine hK.out _ _ ?_
              clear hK K
              refine done_ (by kernel_rfl) ?_
              go_wp2_with fail
              go_end0
              refine ⟨rfl, ?_, ⟨_, blk_put HGG.out 0 _ rfl, ?_⟩, ?_⟩
              · exact HB4.out.setCell HG0.out _
              · have h1 := Kd.R_set HO.out HGG.out (by simp [Kd.bool, Kd.scalar, Kd.slice]) 0 (.slice Ad1 (l5.length + 1) cd1)
                rw [List.length_append, List.length_singleton] at h1
                exact h1
              · exact ((((Keep.refl [4, 37, 25] w).of_below HBW.out).of_below (below_step HW.out HBb.out)).grown HVRb.out (by decide) HG1.out).set HGG.out (by decide) 0 _
            · rw [if_neg c13] at H
              exact absurd H (by simp)
    · rw [if_neg c1'] at h
      have b1 : ((l4.length : Int) == (l0.length : Int)) = false := beq_eq_false_iff_ne.mpr c1'
      have b1n : (l4.length == l0.length) = false := beq_eq_false_iff_ne.mpr (by omega)
      obtain ⟨b, h0, h⟩ := Option.bind_eq_some_iff.mp h
      have HF := Aside0.mk h0
      have HH := Aside0.mk h
      clear h0 h c1'
      go_enter Try.func89, Try.ntmps89
      go_wp2_with fail
      go_loopg [10] k (fun kq v10 w' => ∃ (i : Int), v10 = .int .i64 i ∧ Aside0 (spec_l13Search.l1 kq l1 l4 i = some b) ∧ Aside0 (kq ≤ k) ∧ Aside0 (Below W1.heap.size W1 w'))
      case atStart => exact ⟨0, rfl, HF, ⟨Nat.le_refl _⟩, ⟨by rw [HW1.out]; exact Below.refl _ _⟩⟩
      case round =>
        clear HF cb00
        obtain ⟨i, rfl, HA, HK, HW⟩ := hrel
        cases gk with
        | zero => exact absurd HA.out (by simp [spec_l13Search.l1])
        | succ k1 =>
          have H := HA.out
          clear HA
          rw [spec_l13Search.l1] at H
          have HGr := Aside0.mk ((HW.out.block _ (lt_of_some HGB.out)).trans HGB.out)
          have cb1 : wr.cell? ⟨w.heap.size, 1, none⟩ = some (.slice A1 l1.length c1) := blk_cell HGr.out 1
          by_cases c5 : i < (l1.length : Int)
          · rw [if_pos c5] at H
            have c5b0 : decide (i < (l1.length : Int)) = true := decide_eq_true c5
            by_cases c6 : 0 ≤ i
            · rw [if_pos c6] at H
              obtain ⟨y, hy, H⟩ := Option.bind_eq_some_iff.mp H
              obtain ⟨p, hp, H⟩ := Option.bind_eq_some_iff.mp H
              have HY := Aside0.mk hy
              have HP := Aside0.mk hp
              clear hy hp
              obtain ⟨ad1, Ac, cc, ec, hxc, hlc, hic⟩ := at_L1 HR1.out i c6 c5
              cases ec
              have HXC := Aside0.mk hxc
              clear hxc
              have HLC := Aside0.mk hlc
              have HIC := Aside0.mk hic
              clear hlc hic
              replace c5 := eq_true c5
              replace c6 := eq_true c6
              by_cases c7 : (p.length : Int) > ((rd_L1 l1 i).length : Int)
              · rw [if_pos c7] at H
                have c7b0 : decide (((rd_L1 l1 i).length : Int) < (p.length : Int)) = true := decide_eq_true c7
                have c7b1 : decide ((rd_L1 l1 i).length < p.length) = true := decide_eq_true (by omega)
                clear c7
                have eb : true = b := Option.some.inj H
                subst eb
                clear H
                have H := HH.out
                rw [if_pos rfl] at H
                have er : l5 = r := Option.some.inj H
                subst er
                clear H HH
                go_wp2_with (first | ((with_reducible refine gate_callee (f := 63) rfl ?_); refine goesL_ (some 57) rfl rfl Try.func63 (by kernel_rfl) rfl #[.slice A4 l4.length c4, .int .i64 i] rfl (by (try simp only [List.map_toArray, List.map_cons, List.map_nil]); first | done | rfl) ?_; (with_reducible refine (spec_l13Column.calls k1 A4 c4 l4 i y _ (Kd.C_below (Kd.R_reads' HR4.out).2.2 HW.out) (Kd.R_reads' HR4.out).2.1 HY.out).mono ?_); rintro e wb ⟨v57, rfl, hv57, hd⟩; obtain ⟨A57, c57, e57⟩ := Kd.R_slice hv57; subst e57; have HO57 := Aside0.mk hv57; have HWb := Aside0.mk (below_step HW.out hd); clear hv57 hd; refine ⟨_, rfl, ?_⟩) | ((with_reducible refine gate_callee (f := 62) rfl ?_); refine goesL_ (some 58) rfl rfl Try.func62 (by kernel_rfl) rfl #[.slice A57 y.length c57] rfl (by (try simp only [List.map_toArray, List.map_cons, List.map_nil]); first | done | rfl) ?_; (with_reducible refine (spec_ClueOf.calls k1 A57 c57 y p _ (Kd.R_reads' HO57.out).2.2 (Kd.R_reads' HO57.out).2.1 HP.out).mono ?_); rintro e wc ⟨v58, rfl, hv58, hd⟩; obtain ⟨A58, c58, e58⟩ := Kd.R_slice hv58; subst e58; have HOP := Aside0.mk hv58; have HWc := Aside0.mk (below_step HWb.out hd); have HGc := Aside0.mk ((HWc.out.block _ (lt_of_some HGB.out)).trans HGB.out); have cbc : wc.cell? ⟨w.heap.size, 1, none⟩ = some (.slice (some ad1) l1.length c1) := blk_cell HGc.out 1; have hxcc := ((below_step HB1.out HWc.out).cell (World.block_lt_of_cell? W0 _ HXC.out)).trans HXC.out; have HXc := Aside0.mk hxcc; clear hv58 hd; refine ⟨_, rfl, ?_⟩))
                go_end0
                exact ⟨rfl, below_step HB1.out HWc.out, HV1.out.below HWc.out, ((Keep.refl _ _).of_below HBW.out).of_below HWc.out⟩
              · rw [if_neg c7] at H
                have c7b0 : decide (((rd_L1 l1 i).length : Int) < (p.length : Int)) = false := decide_eq_false c7
                have c7b1 : decide ((rd_L1 l1 i).length < p.length) = false := decide_eq_false (by omega)
                clear c7
                obtain ⟨t, ht, H⟩ := Option.bind_eq_some_iff.mp H
                have HT := Aside0.mk ht
                have HTL := Aside0.mk H
                clear H ht
                go_wp2_with (first | ((with_reducible refine gate_callee (f := 63) rfl ?_); refine goesL_ (some 57) rfl rfl Try.func63 (by kernel_rfl) rfl #[.slice A4 l4.length c4, .int .i64 i] rfl (by (try simp only [List.map_toArray, List.map_cons, List.map_nil]); first | done | rfl) ?_; (with_reducible refine (spec_l13Column.calls k1 A4 c4 l4 i y _ (Kd.C_below (Kd.R_reads' HR4.out).2.2 HW.out) (Kd.R_reads' HR4.out).2.1 HY.out).mono ?_); rintro e wb ⟨v57, rfl, hv57, hd⟩; obtain ⟨A57, c57, e57⟩ := Kd.R_slice hv57; subst e57; have HO57 := Aside0.mk hv57; have HWb := Aside0.mk (below_step HW.out hd); clear hv57 hd; refine ⟨_, rfl, ?_⟩) | ((with_reducible refine gate_callee (f := 62) rfl ?_); refine goesL_ (some 58) rfl rfl Try.func62 (by kernel_rfl) rfl #[.slice A57 y.length c57] rfl (by (try simp only [List.map_toArray, List.map_cons, List.map_nil]); first | done | rfl) ?_; (with_reducible refine (spec_ClueOf.calls k1 A57 c57 y p _ (Kd.R_reads' HO57.out).2.2 (Kd.R_reads' HO57.out).2.1 HP.out).mono ?_); rintro e wc ⟨v58, rfl, hv58, hd⟩; obtain ⟨A58, c58, e58⟩ := Kd.R_slice hv58; subst e58; have HOP := Aside0.mk hv58; have HWc := Aside0.mk (below_step HWb.out hd); have HGc := Aside0.mk ((HWc.out.block _ (lt_of_some HGB.out)).trans HGB.out); have cbc : wc.cell? ⟨w.heap.size, 1, none⟩ = some (.slice (some ad1) l1.length c1) := blk_cell HGc.out 1; have hxcc := ((below_step HB1.out HWc.out).cell (World.block_lt_of_cell? W0 _ HXC.out)).trans HXC.out; have HXc := Aside0.mk hxcc; clear hv58 hd; refine ⟨_, rfl, ?_⟩))
                have HBz := Aside0.mk (Below.refl wc.heap.size wc)
                go_loopg [12] k1 (fun kq v12 w' => ∃ (j : Int), v12 = .int .i64 j ∧ Aside0 (spec_l13Search.l2 kq p (rd_L1 l1 i) j = some t) ∧ Aside0 (kq ≤ k1) ∧ Aside0 (Below wc.heap.size wc w'))
                case atStart => exact ⟨0, rfl, HT, ⟨Nat.le_refl _⟩, HBz⟩
                case round =>
                  clear HT HBz cb1 cbc hxcc
                  obtain ⟨j, rfl, HA, HK2, HZ⟩ := hrel
                  have cb1 : wr.cell? ⟨w.heap.size, 1, none⟩ = some (.slice (some ad1) l1.length c1) := blk_cell ((HZ.out.block _ (lt_of_some HGc.out)).trans HGc.out) 1
                  have hxc2 := (HZ.out.cell (World.block_lt_of_cell? _ _ HXc.out)).trans HXc.out
                  cases gk with
                  | zero => exact absurd HA.out (by simp [spec_l13Search.l2])
                  | succ k2 =>
                    have H := HA.out
                    clear HA
                    rw [spec_l13Search.l2] at H
                    by_cases c8 : j < (p.length : Int)
                    · rw [if_pos c8] at H
                      have c8b0 : decide (j < (p.length : Int)) = true := decide_eq_true c8
                      by_cases c9 : 0 ≤ j
                      · rw [if_pos c9] at H
                        have c9b0 : decide (0 ≤ j) = true := decide_eq_true c9
                        by_cases c10 : j < ((rd_L1 l1 i).length : Int)
                        · rw [if_pos c10] at H
                          have c10b0 : decide (j < ((rd_L1 l1 i).length : Int)) = true := decide_eq_true c10
                          obtain ⟨adp, ep, hxp⟩ := Kd.at_int (Kd.C_below (Kd.R_reads' HOP.out).2.2 HZ.out) j c9 c8
                          cases ep
                          obtain ⟨adq, eq, hxq⟩ := Kd.at_int (Kd.C_below HIC.out (below_step (below_step HB1.out HWc.out) HZ.out)) j c9 c10
                          cases eq
                          replace c8 := eq_true c8
                          replace c9 := eq_true c9
                          replace c10 := eq_true c10
                          by_cases c11 : (rd p j) > (rd (rd_L1 l1 i) j)
                          · rw [if_pos c11] at H
                            have c11b0 : decide ((rd (rd_L1 l1 i) j) < (rd p j)) = true := decide_eq_true c11
                            clear c11
                            have et : true = t := Option.some.inj H
                            subst et
                            clear H
                            have H := HTL.out
                            clear HTL
                            rw [if_pos rfl] at H
                            have eb : true = b := Option.some.inj H
                            subst eb
                            clear H
                            have H := HH.out
                            rw [if_pos rfl] at H
                            have er : l5 = r := Option.some.inj H
                            subst er
                            clear H HH
                            go_wp2_with fail
                            repeat (go_quiet (fail); try go_wp2)
                            go_end0
                            exact ⟨rfl, pw_below_drewN (below_step (below_step HB1.out HWc.out) HZ.out) _, (HV1.out.below (below_step HWc.out HZ.out)).below (pw_below_drewN (Below.refl _ _) _), (((Keep.refl _ _).of_below HBW.out).of_below (below_step HWc.out HZ.out)).of_below (pw_below_drewN (Below.refl _ _) _)⟩
                          · rw [if_neg c11] at H
                            have c11b0 : decide ((rd (rd_L1 l1 i) j) < (rd p j)) = false := decide_eq_false c11
                            clear c11
                            by_cases c12 : j < (wrap64 ((p.length : Int) - 1))
                            · rw [if_pos c12] at H
                              have c12b0 : decide (j < (wrap64 ((p.length : Int) - 1))) = true := decide_eq_true c12
                              have c12b1 : decide (j < (IntKind.i64.wrap ((p.length : Int) - 1))) = true := decide_eq_true (by rw [i64_w]; exact c12)
                              clear c12
                              by_cases c13 : (rd p j) < (rd (rd_L1 l1 i) j)
                              · rw [if_pos c13] at H
                                have c13b0 : decide ((rd p j) < (rd (rd_L1 l1 i) j)) = true := decide_eq_true c13
                                clear c13
                                have et : true = t := Option.some.inj H
                                subst et
                                clear H
                                have H := HTL.out
                                clear HTL
                                rw [if_pos rfl] at H
                                have eb : true = b := Option.some.inj H
                                subst eb
                                clear H
                                have H := HH.out
                                rw [if_pos rfl] at H
                                have er : l5 = r := Option.some.inj H
                                subst er
                                clear H HH
                                go_wp2_with fail
                                repeat (go_quiet (fail); try go_wp2)
                                go_end0
                                exact ⟨rfl, pw_below_drewN (below_step (below_step HB1.out HWc.out) HZ.out) _, (HV1.out.below (below_step HWc.out HZ.out)).below (pw_below_drewN (Below.refl _ _) _), (((Keep.refl _ _).of_below HBW.out).of_below (below_step HWc.out HZ.out)).of_below (pw_below_drewN (Below.refl _ _) _)⟩
                              · rw [if_neg c13] at H
                                have c13b0 : decide ((rd p j) < (rd (rd_L1 l1 i) j)) = false := decide_eq_false c13
                                clear c13
                                have H' := Aside0.mk H
                                clear H
                                go_wp2_with fail
                                repeat (go_quiet (fail); try go_wp2)
                                go_roundg k2
                                case measure => have := HK2.out; omega
                                case rel => exact ⟨wrap64 (j + 1), rfl, H', ⟨by have := HK2.out; omega⟩, ⟨pw_below_drewN HZ.out _⟩⟩
                            · rw [if_neg c12] at H
                              have c12b0 : decide (j < (wrap64 ((p.length : Int) - 1))) = false := decide_eq_false c12
                              have c12b1 : decide (j < (IntKind.i64.wrap ((p.length : Int) - 1))) = false := decide_eq_false (by rw [i64_w]; exact c12)
                              clear c12
                              have H' := Aside0.mk H
                              clear H
                              go_wp2_with fail
                              repeat (go_quiet (fail); try go_wp2)
                              go_roundg k2
                              case measure => have := HK2.out; omega
                              case rel => exact ⟨wrap64 (j + 1), rfl, H', ⟨by have := HK2.out; omega⟩, ⟨pw_below_drewN HZ.out _⟩⟩
                        · rw [if_neg c10] at H
                          exact absurd H (by simp)
                      · rw [if_neg c9] at H
                        exact absurd H (by simp)
                    · rw [if_neg c8] at H
                      have c8b0 : decide (j < (p.length : Int)) = false := decide_eq_false c8
                      clear c8
                      have et : false = t := Option.some.inj H
                      subst et
                      clear H
                      have H := HTL.out
                      clear HTL
                      rw [if_neg (by decide)] at H
                      have H' := Aside0.mk H
                      clear H
                      go_wp2_with fail
                      go_roundg k1
                      case measure => have := HK.out; omega
                      case rel => exact ⟨wrap64 (i + 1), rfl, H', ⟨by have := HK.out; omega⟩, ⟨below_step HWc.out HZ.out⟩⟩
            · rw [if_neg c6] at H
              exact absurd H (by simp)
          · rw [if_neg c5] at H
            have c5b0 : decide (i < (l1.length : Int)) = false := decide_eq_false c5
            clear c5
            have eb : false = b := Option.some.inj H
            subst eb
            clear H
            have H := HH.out
            clear HH
            rw [if_neg (by decide)] at H
            have HL3 := Aside0.mk H
            clear H
            have HBr := Aside0.mk (below_step HB1.out HW.out)
            have HVr := Aside0.mk (HV1.out.below HW.out)
            have HRr := Aside0.mk (Kd.R_below HR4.out HW.out)
            go_wp2_with fail
            go_loopg [13] k (fun kq v13 w' => ∃ (z : List (List (List Bool))) (q : Int), v13 = .int .i64 q ∧ Aside0 (spec_l13Search.l3 kq l0 l1 a2 l4 z q = some r) ∧ Aside0 (kq ≤ k) ∧ Aside0 (Below W0.heap.size W0 w') ∧ Aside0 (Var (Kd.slice 37 (Kd.slice 4 Kd.bool)) 32 74 g W0.heap.size w' z) ∧ Aside0 (Keep [4, 37, 25] wr w'))
            case atStart => exact ⟨l5, 0, rfl, HL3, ⟨Nat.le_refl _⟩, HBr, HVr, ⟨Keep.refl _ _⟩⟩
            case round =>
              clear HL3 HVr HBr HK cb1
              obtain ⟨z, q, rfl, HA, HK, HB2, HV2, HKp⟩ := hrel
              have HGs := Aside0.mk ((HKp.out.2 _ 25 _ (by decide) HGr.out).trans HGr.out)
              have cb0 : wr.cell? ⟨w.heap.size, 0, none⟩ = some (.slice A0 l0.length c0) := blk_cell HGs.out 0
              have cb1 : wr.cell? ⟨w.heap.size, 1, none⟩ = some (.slice A1 l1.length c1) := blk_cell HGs.out 1
              obtain ⟨vz, hzg, hzr⟩ := HV2.out
              obtain ⟨Az, cz, ez⟩ := Kd.R_slice hzr
              subst ez
              have cg : wr.cell? ⟨g, 0, none⟩ = some (.slice Az z.length cz) := blk_cell hzg 0
              clear hzg hzr
              cases gk with
              | zero => exact absurd HA.out (by simp [spec_l13Search.l3])
              | succ k3 =>
                have H := HA.out
                clear HA
                rw [spec_l13Search.l3] at H
                obtain ⟨ji3, hji3⟩ : ∃ j_ : Int, (shl .i64 1 (l1.length : Int)) = j_ := ⟨_, rfl⟩
                rw [hji3] at H
                have hji3_ : (IntKind.i64.wrap (1 * 2 ^ min (l1.length : Int).toNat 64)) = ji3 := hji3
                have hji3p : (IntKind.i64.wrap (1 * 2 ^ min l1.length 64)) = ji3 := hji3_
                have hji3r : (IntKind.i64.wrap (2 ^ min l1.length 64)) = ji3 := by have h_ := hji3p; rw [Int.one_mul] at h_; exact h_
                have hji3u : (IntKind.i64.wrap (2 ^ min (l1.length : Int).toNat 64)) = ji3 := by have h_ := hji3_; rw [Int.one_mul] at h_; exact h_
                have hji3y : (wrap64 (1 * 2 ^ min (l1.length : Int).toNat 64)) = ji3 := (i64_w _).symm.trans hji3_
                by_cases c15 : q < ji3
                · rw [if_pos c15] at H
                  have c15b0 : decide (q < ji3) = true := decide_eq_true c15
                  clear c15
                  by_cases c17 : (z.length : Int) < a2
                  · rw [if_pos c17] at H
                    have c17b0 : decide ((z.length : Int) < a2) = true := decide_eq_true c17
                    clear c17
                    obtain ⟨ln, hln, H⟩ := Option.bind_eq_some_iff.mp H
                    have HLN := Aside0.mk hln
                    clear hln
                    by_cases c14 : (l4.length : Int) < (l0.length : Int)
                    · rw [if_pos c14] at H
                      obtain ⟨t, ht, H⟩ := Option.bind_eq_some_iff.mp H
                      have HT := Aside0.mk ht
                      clear ht
                      obtain ⟨ad0, Ar, cr, er, hxr, hlr, hir⟩ := at_L1 HR0.out (l4.length : Int) (by omega) c14
                      cases er
                      rw [Int.toNat_natCast] at hxr
                      have HXR := Aside0.mk hxr
                      have HLR := Aside0.mk hlr
                      have HIR := Aside0.mk hir
                      clear hlr hir hxr
                      have p14 : ((0 : Int) ≤ (l4.length : Int)) = True := eq_true (by omega)
                      have c14b0 : decide ((l4.length : Int) < (l0.length : Int)) = true := decide_eq_true c14
                      replace c14 := eq_true c14
                      cases t with
                      | false =>
                        rw [if_neg (by decide)] at H
                        have H' := Aside0.mk H
                        clear H
                        go_wp2_with (first | ((with_reducible refine gate_callee (f := 81) rfl ?_); refine goesL_ (some 129) rfl rfl Try.func81 (by kernel_rfl) rfl #[.int .i64 q, .int .i64 (l1.length : Int)] rfl (by (try simp only [List.map_toArray, List.map_cons, List.map_nil]); first | done | rfl) ?_; (with_reducible refine (spec_l12Line.calls k3 q (l1.length : Int) ln _ HLN.out).mono ?_); rintro e wp ⟨v129, rfl, hv129, hd⟩; obtain ⟨A129, c129, e129⟩ := Kd.R_slice hv129; subst e129; have HOL := Aside0.mk hv129; have HQ1 := Aside0.mk hd; have HGp := Aside0.mk ((hd.block _ (lt_of_some HGs.out)).trans HGs.out); have cbp : wp.cell? ⟨w.heap.size, 0, none⟩ = some (.slice (some ad0) l0.length c0) := blk_cell HGp.out 0; have hxrp := ((below_step HB2.out hd).cell (World.block_lt_of_cell? W0 _ HXR.out)).trans HXR.out; clear hv129 hd; refine ⟨_, rfl, ?_⟩) | ((with_reducible refine gate_callee (f := 83) rfl ?_); refine goesL_ (some 136) rfl rfl Try.func83 (by kernel_rfl) rfl #[.slice A129 ln.length c129, .slice Ar (rd_L1 l0 (l4.length : Int)).length cr] rfl (by (try simp only [List.map_toArray, List.map_cons, List.map_nil]); first | done | rfl) ?_; (with_reducible refine (spec_l12Same.calls k3 A129 c129 ln Ar cr (rd_L1 l0 (l4.length : Int)) _ _ (Kd.R_reads' HOL.out).2.2 (Kd.R_reads' HOL.out).2.1 (Kd.C_below HIR.out (below_step HB2.out HQ1.out)) HLR.out HT.out).mono ?_); rintro e wq ⟨rfl, hd⟩; have HQ2 := Aside0.mk (below_step HQ1.out hd); have HOLq := Aside0.mk (Kd.R_below HOL.out hd); clear hd; refine ⟨_, rfl, ?_⟩))
                        go_roundg k3
                        case measure => have := HK.out; omega
                        case rel => exact ⟨z, wrap64 (q + 1), rfl, H', ⟨by have := HK.out; omega⟩, ⟨below_step HB2.out HQ2.out⟩, ⟨HV2.out.below HQ2.out⟩, ⟨HKp.out.of_below HQ2.out⟩⟩
                      | true =>
                        rw [if_pos rfl] at H
                        by_cases c18 : l4.length < 4398046511104
                        · rw [if_pos c18] at H
                          have LM := Aside0.mk c18
                          clear c18
                          obtain ⟨y2, hy2⟩ : ∃ y_ : List (List Bool), y_ = l4 ++ [ln] := ⟨_, rfl⟩
                          rw [← hy2] at H
                          obtain ⟨z2, Hz, H⟩ := Option.bind_eq_some_iff.mp H
                          have Ny := Aside0.mk hy2
                          have HZ := Aside0.mk Hz
                          have HH := Aside0.mk H
                          clear H Hz hy2
                          have HR1' := Aside0.mk (HKp.out.R (by simp [Kd.bool, Kd.slice, Kd.scalar]) HRr.out)
                          go_wp2_with (first | ((with_reducible refine gate_callee (f := 81) rfl ?_); refine goesL_ (some 129) rfl rfl Try.func81 (by kernel_rfl) rfl #[.int .i64 q, .int .i64 (l1.length : Int)] rfl (by (try simp only [List.map_toArray, List.map_cons, List.map_nil]); first | done | rfl) ?_; (with_reducible refine (spec_l12Line.calls k3 q (l1.length : Int) ln _ HLN.out).mono ?_); rintro e wp ⟨v129, rfl, hv129, hd⟩; obtain ⟨A129, c129, e129⟩ := Kd.R_slice hv129; subst e129; have HOL := Aside0.mk hv129; have HQ1 := Aside0.mk hd; have HGp := Aside0.mk ((hd.block _ (lt_of_some HGs.out)).trans HGs.out); have cbp : wp.cell? ⟨w.heap.size, 0, none⟩ = some (.slice (some ad0) l0.length c0) := blk_cell HGp.out 0; have hxrp := ((below_step HB2.out hd).cell (World.block_lt_of_cell? W0 _ HXR.out)).trans HXR.out; clear hv129 hd; refine ⟨_, rfl, ?_⟩) | ((with_reducible refine gate_callee (f := 83) rfl ?_); refine goesL_ (some 136) rfl rfl Try.func83 (by kernel_rfl) rfl #[.slice A129 ln.length c129, .slice Ar (rd_L1 l0 (l4.length : Int)).length cr] rfl (by (try simp only [List.map_toArray, List.map_cons, List.map_nil]); first | done | rfl) ?_; (with_reducible refine (spec_l12Same.calls k3 A129 c129 ln Ar cr (rd_L1 l0 (l4.length : Int)) _ _ (Kd.R_reads' HOL.out).2.2 (Kd.R_reads' HOL.out).2.1 (Kd.C_below HIR.out (below_step HB2.out HQ1.out)) HLR.out HT.out).mono ?_); rintro e wq ⟨rfl, hd⟩; have HQ2 := Aside0.mk (below_step HQ1.out hd); have HOLq := Aside0.mk (Kd.R_below HOL.out hd); clear hd; refine ⟨_, rfl, ?_⟩))
                          clear cb1 cg cbp hxrp cb0
                          have HGq := Aside0.mk ((HQ2.out.block _ (lt_of_some HGs.out)).trans HGs.out)
                          have HRq := Aside0.mk (Kd.R_below HR1'.out HQ2.out)
                          have HBQ := Aside0.mk (below_step HB2.out HQ2.out)
                          have HOLz := Aside0.mk (Kd.R_lower HOLq.out HB2.out.size)
                          have HBd : Aside0 (Below wq.heap.size wq wq.drew) := ⟨below_drew1 (Below.refl _ _)⟩
                          refine start_ (n := 10) (S := fun w' => w'.cell? ⟨w.heap.size, 0, none⟩ = some (.slice (some ad0) l0.length c0) ∧ w'.cell? ⟨w.heap.size, 1, none⟩ = some (.slice A1 l1.length c1)) (ds := []) #[false, false, false, false, false, false, false, false, false, false] (by kernel_rfl) rfl rfl ⟨blk_cell HGq.out 0, blk_cell HGq.out 1⟩ (fun hHeld => ?_)
                          generalize wq.drew = wd at HBd hHeld ⊢
                          refine pure_ (i := 2) (N := some 139) (v := ?_) (a' := ?_) #[false, false, true, false, false, false, false, false, false, false] rfl rfl (by kernel_rfl) (fun _ _ _ h => h) (Or.inl ⟨by rfl, ?_⟩) ?_ ?_
                          rotate_left
                          · intro w'
                            go_simp
                            with_reducible rfl
                          rotate_left
                          · simp only [Act.put, List.setIfInBounds_toArray, List.set_cons_zero, List.set_cons_succ, i64_w, i32_w]
                            rfl
                          refine pure_ (i := 4) (N := some 141) (v := ?_) (a' := ?_) #[false, false, true, false, true, false, false, false, false, false] rfl rfl (by kernel_rfl) (fun _ _ _ h => h) (Or.inl ⟨by rfl, ?_⟩) ?_ ?_
                          rotate_left
                          · intro w'
                            go_simp
                            with_reducible rfl
                          rotate_left
                          · simp only [Act.put, List.setIfInBounds_toArray, List.set_cons_zero, List.set_cons_succ, i64_w, i32_w]
                            rfl
                          refine pure_ (i := 7) (N := some 144) (v := ?_) (a' := ?_) #[false, false, true, false, true, false, false, true, false, false] rfl rfl (by kernel_rfl) (fun _ _ _ h => h) (Or.inl ⟨by rfl, ?_⟩) ?_ ?_
                          rotate_left
                          · intro w'
                            go_simp
                            with_reducible rfl
                          rotate_left
                          · simp only [Act.put, List.setIfInBounds_toArray, List.set_cons_zero, List.set_cons_succ, i64_w, i32_w]
                            rfl
                          refine pure_ (i := 8) (N := some 145) (v := ?_) (a' := ?_) #[false, false, true, false, true, false, false, true, true, false] rfl rfl (by kernel_rfl) (fun _ _ _ h => h) (Or.inl ⟨by rfl, ?_⟩) ?_ ?_
                          rotate_left
                          · intro w'
                            go_simp
                            with_reducible rfl
                          rotate_left
                          · simp only [Act.put, List.setIfInBounds_toArray, List.set_cons_zero, List.set_cons_succ, i64_w, i32_w]
                            rfl
                          refine take_ (i := 0) (N := some 137) (v := ?_) (a' := ?_) #[true, false, true, false, true, false, false, true, true, false] rfl rfl (by kernel_rfl) (fun _ _ _ h => h) (Or.inl ⟨by rfl, ?_⟩) hHeld ?_ ?_
                          rotate_left
                          · rintro w' ⟨s0, s1⟩
                            go_simp
                            with_reducible rfl
                          rotate_left
                          · simp only [Act.put, List.setIfInBounds_toArray, List.set_cons_zero, List.set_cons_succ, i64_w, i32_w]
                            rfl
                          refine two_ (i := 1) (j := 5) (Ni := some 138) (Nj := some 142) #[true, true, true, false, true, false, false, true, true, false] #[true, false, true, false, true, true, false, true, true, false] rfl rfl rfl rfl (by kernel_rfl) (by decide) (by decide) (fun K hK => ?_) (fun K hK => ?_)
                          · refine Kd.R_lit_step (Kd.slice 4 Kd.bool) (w0 := W0) W0.heap.size 37 (by rfl) (N := 138) rfl (xs := ([] : List (List Bool))) (inner := []) (ok := fun _ => True) (okp := fun _ => True) ?hr (Reps.none _ _) (fun _ hk => hk) trivial (below_step HBQ.out HBd.out) (below_step HBQ.out HBd.out).size (by simp) ?_
                            (case hr => first | (go_simp; done) | (go_simp; rfl))
                            intro v138 w3 ho hb hg hat
                            have HN := Aside0.mk (below_new (v := .slice none 0 0) HBd.out hg (by intro k hk; simp [Value.ownBlock] at hk))
                            have HOE := Aside0.mk ho
                            have HAT := Aside0.mk hat
                            have HOB : Aside0 (∀ k, v138.ownBlock = some k → wq.heap.size ≤ k) := ⟨by obtain ⟨b_, hb1, hb2⟩ := hat; intro k hk; rw [hb1] at hk; injection hk with hk; have := HBd.out.size; omega⟩
                            clear ho hb hg hat
                            refine hK.out _ _ ⟨blk_cell ((HN.out.block _ (lt_of_some HGq.out)).trans HGq.out) 0, blk_cell ((HN.out.block _ (lt_of_some HGq.out)).trans HGq.out) 1⟩ (fun hHeld => ?_)
                            clear hK K
                            refine norm_ (a' := ?_) ?_ ?_
                            rotate_left
                            · show Act.put _ (some 138) _ = _
                              simp only [Act.put, List.setIfInBounds_toArray, List.set_cons_zero, List.set_cons_succ, i64_w, i32_w]
                              rfl
                            refine two_ (i := 3) (j := 5) (Ni := some 140) (Nj := some 142) #[true, true, true, true, true, false, false, true, true, false] #[true, true, true, false, true, true, false, true, true, false] rfl rfl rfl rfl (by kernel_rfl) (by decide) (by decide) (fun K hK => ?_) (fun K hK => ?_)
                            · refine rows_new_step (Kd.slice 4 Kd.bool) W0 wq (by rfl) (.tmp 138) (.tmp 139) 32 37 (.slice none 0 0) 24 rfl Try.underlying32 hi37 rfl (by decide) (by omega) v138 [] l4 A4 l4.length c4 rfl rfl HOE.out HOB.out (old_reads HRq.out HN.out _ HOB.out) HBQ.out HN.out (by have := LM.out; simp; omega) ?_
                              intro v140 w4 ho hb hg hv
                              rw [List.nil_append] at ho
                              have HO2 := Aside0.mk ho
                              have HN2 := Aside0.mk hb
                              have HOB2 := Aside0.mk hv
                              clear ho hb hg hv
                              refine hK.out _ _ ⟨blk_cell ((HN2.out.block _ (lt_of_some HGq.out)).trans HGq.out) 0, blk_cell ((HN2.out.block _ (lt_of_some HGq.out)).trans HGq.out) 1⟩ (fun hHeld => ?_)
                              clear hK K
                              refine norm_ (a' := ?_) ?_ ?_
                              rotate_left
                              · show Act.put _ (some 140) _ = _
                                simp only [Act.put, List.setIfInBounds_toArray, List.set_cons_zero, List.set_cons_succ, i64_w, i32_w]
                                rfl
                              refine one_ (i := 5) (N := some 142) #[true, true, true, true, true, true, false, true, true, false] rfl rfl (by kernel_rfl) (by decide) (fun K hK => ?_)
                              refine event_step (v := .slice (some ⟨w4.heap.size, 0, none⟩) 1 1) (w1 := w4.alloc (Obj.cells #[.slice A129 ln.length c129] 37)) (by rfl) ?_ ?_
                              · first | (go_simp; done) | (go_simp; rfl)
                              have HNL := Aside0.mk (blk_new w4 (Obj.cells #[.slice A129 ln.length c129] 37))
                              have HN3 := Aside0.mk (HN2.out.alloc HN2.out.size (Obj.cells #[.slice A129 ln.length c129] 37))
                              have HO22 := Aside0.mk (Kd.R_alloc HO2.out (Obj.cells #[.slice A129 ln.length c129] 37))
                              refine hK.out _ _ ⟨blk_cell ((HN3.out.block _ (lt_of_some HGq.out)).trans HGq.out) 0, blk_cell ((HN3.out.block _ (lt_of_some HGq.out)).trans HGq.out) 1⟩ (fun hHeld => ?_)
                              clear hK K
                              refine norm_ (a' := ?_) ?_ ?_
                              rotate_left
                              · show Act.put _ (some 142) _ = _
                                simp only [Act.put, List.setIfInBounds_toArray, List.set_cons_zero, List.set_cons_succ, i64_w, i32_w]
                                rfl
                              refine one_ (i := 6) (N := some 143) #[true, true, true, true, true, true, true, true, true, false] rfl rfl (by kernel_rfl) (by decide) (fun K hK => ?_)
                              refine rows_new_step (Kd.slice 4 Kd.bool) W0 wq (by rfl) (.tmp 140) (.tmp 142) 32 37 (.slice none 0 0) 24 rfl Try.underlying32 hi37 rfl (by decide) (by omega) v140 l4 [ln] (some ⟨w4.heap.size, 0, none⟩) 1 1 rfl rfl HO22.out HOB2.out (reads_one HOLz.out HN3.out _ HOB2.out HNL.out) HBQ.out HN3.out (by have := LM.out; omega) ?_
                              intro v143 w5 ho hb hg hv
                              rw [← Ny.out] at ho
                              obtain ⟨An, cn, en⟩ := Kd.R_slice ho
                              subst en
                              have HO3 := Aside0.mk ho
                              have HN4 := Aside0.mk hb
                              clear ho hb hg hv
                              refine hK.out _ _ ⟨blk_cell ((HN4.out.block _ (lt_of_some HGq.out)).trans HGq.out) 0, blk_cell ((HN4.out.block _ (lt_of_some HGq.out)).trans HGq.out) 1⟩ (fun hHeld => ?_)
                              clear hK K
                              refine norm_ (a' := ?_) ?_ ?_
                              rotate_left
                              · show Act.put _ (some 143) _ = _
                                simp only [Act.put, List.setIfInBounds_toArray, List.set_cons_zero, List.set_cons_succ, i64_w, i32_w]
                                rfl
                              refine one_ (i := 9) (N := some 146) #[true, true, true, true, true, true, true, true, true, true] rfl rfl (by kernel_rfl) (by decide) (fun K hK => ?_)
                              refine goes_ Try.func89 (by kernel_rfl) rfl #[.agg #[.slice (some ad0) l0.length c0, .slice A1 l1.length c1], .slice An y2.length cn, .int .i64 a2, .pointer (some ⟨g, 0, none⟩)] (by rfl) rfl rfl (by (try simp only [List.map_toArray, List.map_cons, List.map_nil]); first | done | rfl) ?_
                              with_reducible refine (HIH.out k3 (by have := HK.out; omega) An cn y2 z z2 _ (below_step HBQ.out HN4.out) HO3.out (HV2.out.below (below_step HQ2.out HN4.out)) HZ.out).mono ?_
                              rintro e wc ⟨rfl, hd1, hd2, hd3⟩
                              have HB5 := Aside0.mk hd1
                              have HV5 := Aside0.mk hd2
                              have HKp5 := Aside0.mk ((HKp.out.of_below (below_step HQ2.out HN4.out)).trans hd3)
                              have HG5 := Aside0.mk ((HKp5.out.2 _ 25 _ (by decide) HGr.out).trans HGr.out)
                              clear hd1 hd2 hd3
                              refine ⟨_, rfl, ?_⟩
                              refine hK.out _ _ ⟨blk_cell HG5.out 0, blk_cell HG5.out 1⟩ (fun hHeld => ?_)
                              clear hK K
                              refine norm_ (a' := ?_) ?_ ?_
                              rotate_left
                              · show Act.put _ (some 146) _ = _
                                simp only [Act.put, List.setIfInBounds_toArray, List.set_cons_zero, List.set_cons_succ, i64_w, i32_w]
                                rfl
                              refine done_ (by kernel_rfl) ?_
                              go_wp2
                              go_roundg k3
                              case measure => have := HK.out; omega
                              case rel => exact ⟨z2, wrap64 (q + 1), rfl, HH, ⟨by have := HK.out; omega⟩, HB5, HV5, HKp5⟩
                            · refine event_step (v := .slice (some ⟨w3.heap.size, 0, none⟩) 1 1) (w1 := w3.alloc (Obj.cells #[.slice A129 ln.length c129] 37)) (by rfl) ?_ ?_
                              · first | (go_simp; done) | (go_simp; rfl)
                              have HNL := Aside0.mk (blk_new w3 (Obj.cells #[.slice A129 ln.length c129] 37))
                              have HN3 := Aside0.mk (HN.out.alloc HN.out.size (Obj.cells #[.slice A129 ln.length c129] 37))
                              have HOE2 := Aside0.mk (Kd.R_alloc HOE.out (Obj.cells #[.slice A129 ln.length c129] 37))
                              refine hK.out _ _ ⟨blk_cell ((HN3.out.block _ (lt_of_some HGq.out)).trans HGq.out) 0, blk_cell ((HN3.out.block _ (lt_of_some HGq.out)).trans HGq.out) 1⟩ (fun hHeld => ?_)
                              clear hK K
                              refine norm_ (a' := ?_) ?_ ?_
                              rotate_left
                              · show Act.put _ (some 142) _ = _
                                simp only [Act.put, List.setIfInBounds_toArray, List.set_cons_zero, List.set_cons_succ, i64_w, i32_w]
                                rfl
                              refine one_ (i := 3) (N := some 140) #[true, true, true, true, true, true, false, true, true, false] rfl rfl (by kernel_rfl) (by decide) (fun K hK => ?_)
                              refine rows_new_step (Kd.slice 4 Kd.bool) W0 wq (by rfl) (.tmp 138) (.tmp 139) 32 37 (.slice none 0 0) 24 rfl Try.underlying32 hi37 rfl (by decide) (by omega) v138 [] l4 A4 l4.length c4 rfl rfl HOE2.out HOB.out (old_reads HRq.out HN3.out _ HOB.out) HBQ.out HN3.out (by have := LM.out; simp; omega) ?_
                              intro v140 w4 ho hb hg hv
                              rw [List.nil_append] at ho
                              have HO2 := Aside0.mk ho
                              have HN2 := Aside0.mk hb
                              have HOB2 := Aside0.mk hv
                              have HNL2 := Aside0.mk (blk_grown HNL.out hg (fun e1 => by have h1 := own_lt_R HOE.out _ e1.symm; omega))
                              clear ho hb hg hv
                              refine hK.out _ _ ⟨blk_cell ((HN2.out.block _ (lt_of_some HGq.out)).trans HGq.out) 0, blk_cell ((HN2.out.block _ (lt_of_some HGq.out)).trans HGq.out) 1⟩ (fun hHeld => ?_)
                              clear hK K
                              refine norm_ (a' := ?_) ?_ ?_
                              rotate_left
                              · show Act.put _ (some 140) _ = _
                                simp only [Act.put, List.setIfInBounds_toArray, List.set_cons_zero, List.set_cons_succ, i64_w, i32_w]
                                rfl
                              refine one_ (i := 6) (N := some 143) #[true, true, true, true, true, true, true, true, true, false] rfl rfl (by kernel_rfl) (by decide) (fun K hK => ?_)
                              refine rows_new_step (Kd.slice 4 Kd.bool) W0 wq (by rfl) (.tmp 140) (.tmp 142) 32 37 (.slice none 0 0) 24 rfl Try.underlying32 hi37 rfl (by decide) (by omega) v140 l4 [ln] (some ⟨w3.heap.size, 0, none⟩) 1 1 rfl rfl HO2.out HOB2.out (reads_one HOLz.out HN2.out _ HOB2.out HNL2.out) HBQ.out HN2.out (by have := LM.out; omega) ?_
                              intro v143 w5 ho hb hg hv
                              rw [← Ny.out] at ho
                              obtain ⟨An, cn, en⟩ := Kd.R_slice ho
                              subst en
                              have HO3 := Aside0.mk ho
                              have HN4 := Aside0.mk hb
                              clear ho hb hg hv
                              refine hK.out _ _ ⟨blk_cell ((HN4.out.block _ (lt_of_some HGq.out)).trans HGq.out) 0, blk_cell ((HN4.out.block _ (lt_of_some HGq.out)).trans HGq.out) 1⟩ (fun hHeld => ?_)
                              clear hK K
                              refine norm_ (a' := ?_) ?_ ?_
                              rotate_left
                              · show Act.put _ (some 143) _ = _
                                simp only [Act.put, List.setIfInBounds_toArray, List.set_cons_zero, List.set_cons_succ, i64_w, i32_w]
                                rfl
                              refine one_ (i := 9) (N := some 146) #[true, true, true, true, true, true, true, true, true, true] rfl rfl (by kernel_rfl) (by decide) (fun K hK => ?_)
                              refine goes_ Try.func89 (by kernel_rfl) rfl #[.agg #[.slice (some ad0) l0.length c0, .slice A1 l1.length c1], .slice An y2.length cn, .int .i64 a2, .pointer (some ⟨g, 0, none⟩)] (by rfl) rfl rfl (by (try simp only [List.map_toArray, List.map_cons, List.map_nil]); first | done | rfl) ?_
                              with_reducible refine (HIH.out k3 (by have := HK.out; omega) An cn y2 z z2 _ (below_step HBQ.out HN4.out) HO3.out (HV2.out.below (below_step HQ2.out HN4.out)) HZ.out).mono ?_
                              rintro e wc ⟨rfl, hd1, hd2, hd3⟩
                              have HB5 := Aside0.mk hd1
                              have HV5 := Aside0.mk hd2
                              have HKp5 := Aside0.mk ((HKp.out.of_below (below_step HQ2.out HN4.out)).trans hd3)
                              have HG5 := Aside0.mk ((HKp5.out.2 _ 25 _ (by decide) HGr.out).trans HGr.out)
                              clear hd1 hd2 hd3
                              refine ⟨_, rfl, ?_⟩
                              refine hK.out _ _ ⟨blk_cell HG5.out 0, blk_cell HG5.out 1⟩ (fun hHeld => ?_)
                              clear hK K
                              refine norm_ (a' := ?_) ?_ ?_
                              rotate_left
                              · show Act.put _ (some 146) _ = _
                                simp only [Act.put, List.setIfInBounds_toArray, List.set_cons_zero, List.set_cons_succ, i64_w, i32_w]
                                rfl
                              refine done_ (by kernel_rfl) ?_
                              go_wp2
                              go_roundg k3
                              case measure => have := HK.out; omega
                              case rel => exact ⟨z2, wrap64 (q + 1), rfl, HH, ⟨by have := HK.out; omega⟩, HB5, HV5, HKp5⟩
                          · refine event_step (v := .slice (some ⟨wd.heap.size, 0, none⟩) 1 1) (w1 := wd.alloc (Obj.cells #[.slice A129 ln.length c129] 37)) (by rfl) ?_ ?_
                            · first | (go_simp; done) | (go_simp; rfl)
                            have HNL := Aside0.mk (blk_new wd (Obj.cells #[.slice A129 ln.length c129] 37))
                            have HN3 := Aside0.mk (HBd.out.alloc HBd.out.size (Obj.cells #[.slice A129 ln.length c129] 37))
                            
                            refine hK.out _ _ ⟨blk_cell ((HN3.out.block _ (lt_of_some HGq.out)).trans HGq.out) 0, blk_cell ((HN3.out.block _ (lt_of_some HGq.out)).trans HGq.out) 1⟩ (fun hHeld => ?_)
                            clear hK K
                            refine norm_ (a' := ?_) ?_ ?_
                            rotate_left
                            · show Act.put _ (some 142) _ = _
                              simp only [Act.put, List.setIfInBounds_toArray, List.set_cons_zero, List.set_cons_succ, i64_w, i32_w]
                              rfl
                            refine one_ (i := 1) (N := some 138) #[true, true, true, false, true, true, false, true, true, false] rfl rfl (by kernel_rfl) (by decide) (fun K hK => ?_)
                            refine Kd.R_lit_step (Kd.slice 4 Kd.bool) (w0 := W0) W0.heap.size 37 (by rfl) (N := 138) rfl (xs := ([] : List (List Bool))) (inner := []) (ok := fun _ => True) (okp := fun _ => True) ?hr (Reps.none _ _) (fun _ hk => hk) trivial (below_step HBQ.out HN3.out) (below_step HBQ.out HN3.out).size (by simp) ?_
                            (case hr => first | (go_simp; done) | (go_simp; rfl))
                            intro v138 w3 ho hb hg hat
                            have HN0 := Aside0.mk (below_new (v := .slice none 0 0) HN3.out hg (by intro k hk; simp [Value.ownBlock] at hk))
                            have HOE := Aside0.mk ho
                            have HAT := Aside0.mk hat
                            have HOB : Aside0 (∀ k, v138.ownBlock = some k → wq.heap.size ≤ k) := ⟨by obtain ⟨b_, hb1, hb2⟩ := hat; intro k hk; rw [hb1] at hk; injection hk with hk; have := HN3.out.size; omega⟩
                            have HNL1 := Aside0.mk (blk_grown HNL.out hg (by simp))
                            clear ho hb hg hat
                            refine hK.out _ _ ⟨blk_cell ((HN0.out.block _ (lt_of_some HGq.out)).trans HGq.out) 0, blk_cell ((HN0.out.block _ (lt_of_some HGq.out)).trans HGq.out) 1⟩ (fun hHeld => ?_)
                            clear hK K
                            refine norm_ (a' := ?_) ?_ ?_
                            rotate_left
                            · show Act.put _ (some 138) _ = _
                              simp only [Act.put, List.setIfInBounds_toArray, List.set_cons_zero, List.set_cons_succ, i64_w, i32_w]
                              rfl
                            refine one_ (i := 3) (N := some 140) #[true, true, true, true, true, true, false, true, true, false] rfl rfl (by kernel_rfl) (by decide) (fun K hK => ?_)
                            refine rows_new_step (Kd.slice 4 Kd.bool) W0 wq (by rfl) (.tmp 138) (.tmp 139) 32 37 (.slice none 0 0) 24 rfl Try.underlying32 hi37 rfl (by decide) (by omega) v138 [] l4 A4 l4.length c4 rfl rfl HOE.out HOB.out (old_reads HRq.out HN0.out _ HOB.out) HBQ.out HN0.out (by have := LM.out; simp; omega) ?_
                            intro v140 w4 ho hb hg hv
                            rw [List.nil_append] at ho
                            have HO2 := Aside0.mk ho
                            have HN2 := Aside0.mk hb
                            have HOB2 := Aside0.mk hv
                            have HNL2 := Aside0.mk (blk_grown HNL1.out hg (fun e1 => by obtain ⟨b_, hb1, hb2⟩ := HAT.out; rw [hb1] at e1; injection e1 with e1; simp at hb2; omega))
                            clear ho hb hg hv
                            refine hK.out _ _ ⟨blk_cell ((HN2.out.block _ (lt_of_some HGq.out)).trans HGq.out) 0, blk_cell ((HN2.out.block _ (lt_of_some HGq.out)).trans HGq.out) 1⟩ (fun hHeld => ?_)
                            clear hK K
                            refine norm_ (a' := ?_) ?_ ?_
                            rotate_left
                            · show Act.put _ (some 140) _ = _
                              simp only [Act.put, List.setIfInBounds_toArray, List.set_cons_zero, List.set_cons_succ, i64_w, i32_w]
                              rfl
                            refine one_ (i := 6) (N := some 143) #[true, true, true, true, true, true, true, true, true, false] rfl rfl (by kernel_rfl) (by decide) (fun K hK => ?_)
                            refine rows_new_step (Kd.slice 4 Kd.bool) W0 wq (by rfl) (.tmp 140) (.tmp 142) 32 37 (.slice none 0 0) 24 rfl Try.underlying32 hi37 rfl (by decide) (by omega) v140 l4 [ln] (some ⟨wd.heap.size, 0, none⟩) 1 1 rfl rfl HO2.out HOB2.out (reads_one HOLz.out HN2.out _ HOB2.out HNL2.out) HBQ.out HN2.out (by have := LM.out; omega) ?_
                            intro v143 w5 ho hb hg hv
                            rw [← Ny.out] at ho
                            obtain ⟨An, cn, en⟩ := Kd.R_slice ho
                            subst en
                            have HO3 := Aside0.mk ho
                            have HN4 := Aside0.mk hb
                            clear ho hb hg hv
                            refine hK.out _ _ ⟨blk_cell ((HN4.out.block _ (lt_of_some HGq.out)).trans HGq.out) 0, blk_cell ((HN4.out.block _ (lt_of_some HGq.out)).trans HGq.out) 1⟩ (fun hHeld => ?_)
                            clear hK K
                            refine norm_ (a' := ?_) ?_ ?_
                            rotate_left
                            · show Act.put _ (some 143) _ = _
                              simp only [Act.put, List.setIfInBounds_toArray, List.set_cons_zero, List.set_cons_succ, i64_w, i32_w]
                              rfl
                            refine one_ (i := 9) (N := some 146) #[true, true, true, true, true, true, true, true, true, true] rfl rfl (by kernel_rfl) (by decide) (fun K hK => ?_)
                            refine goes_ Try.func89 (by kernel_rfl) rfl #[.agg #[.slice (some ad0) l0.length c0, .slice A1 l1.length c1], .slice An y2.length cn, .int .i64 a2, .pointer (some ⟨g, 0, none⟩)] (by rfl) rfl rfl (by (try simp only [List.map_toArray, List.map_cons, List.map_nil]); first | done | rfl) ?_
                            with_reducible refine (HIH.out k3 (by have := HK.out; omega) An cn y2 z z2 _ (below_step HBQ.out HN4.out) HO3.out (HV2.out.below (below_step HQ2.out HN4.out)) HZ.out).mono ?_
                            rintro e wc ⟨rfl, hd1, hd2, hd3⟩
                            have HB5 := Aside0.mk hd1
                            have HV5 := Aside0.mk hd2
                            have HKp5 := Aside0.mk ((HKp.out.of_below (below_step HQ2.out HN4.out)).trans hd3)
                            have HG5 := Aside0.mk ((HKp5.out.2 _ 25 _ (by decide) HGr.out).trans HGr.out)
                            clear hd1 hd2 hd3
                            refine ⟨_, rfl, ?_⟩
                            refine hK.out _ _ ⟨blk_cell HG5.out 0, blk_cell HG5.out 1⟩ (fun hHeld => ?_)
                            clear hK K
                            refine norm_ (a' := ?_) ?_ ?_
                            rotate_left
                            · show Act.put _ (some 146) _ = _
                              simp only [Act.put, List.setIfInBounds_toArray, List.set_cons_zero, List.set_cons_succ, i64_w, i32_w]
                              rfl
                            refine done_ (by kernel_rfl) ?_
                            go_wp2
                            go_roundg k3
                            case measure => have := HK.out; omega
                            case rel => exact ⟨z2, wrap64 (q + 1), rfl, HH, ⟨by have := HK.out; omega⟩, HB5, HV5, HKp5⟩
                        · rw [if_neg c18] at H
                          exact absurd H (by simp)
                    · rw [if_neg c14] at H
                      exact absurd H (by simp)
                  · rw [if_neg c17] at H
                    have c17b0 : decide ((z.length : Int) < a2) = false := decide_eq_false c17
                    clear c17
                    have e0 : z = r := Option.some.inj H
                    subst e0
                    go_wp2_with fail
                    go_end0
                    exact ⟨rfl, HB2.out, HV2.out, (((Keep.refl _ _).of_below HBW.out).of_below HW.out).trans HKp.out⟩
                · rw [if_neg c15] at H
                  have c15b0 : decide (q < ji3) = false := decide_eq_false c15
                  clear c15
                  have e0 : z = r := Option.some.inj H
                  subst e0
                  go_wp2_with fail
                  go_end0
                  exact ⟨rfl, HB2.out, HV2.out, (((Keep.refl _ _).of_below HBW.out).of_below HW.out).trans HKp.out⟩
--@import Derived.Laws.EntriesVeiled
def spec_l13All.f (k : Nat) (l0 : List (List Int)) (l1 : List (List Int)) (a1 : Int) : Option (List (List (List Bool))) := spec_l13Search.f k l0 l1 a1 [] []
theorem spec_l13All.mono : ∀ a0 a1 a2 k, LeO (spec_l13All.f k a0 a1 a2) (spec_l13All.f (k + 1) a0 a1 a2) := by
  intro a0 a1 a2 k
  unfold spec_l13All.f
  repeat' first
      | (with_reducible exact spec_l13Search.mono _ _ _ _ _ _)
      | (with_reducible exact LeO.refl _)
      | (with_reducible exact LeO.none _)
      | (with_reducible refine LeO.ite ?_ ?_)
      | (with_reducible refine LeO.bind ?_ (fun _ => ?_))
      | exact spec_l13Search.mono _ _ _ _ _ _
      | exact LeO.none _
      | refine LeO.ite ?_ ?_
      | refine LeO.bind ?_ (fun _ => ?_)
set_option maxHeartbeats 8000000 in
set_option maxRecDepth 100000 in
theorem spec_l13All.calls (k : Nat) (A0_0 : Option Addr) (c0_0 : Nat) (l0_0 : List (List Int)) (A0_1 : Option Addr) (c0_1 : Nat) (l0_1 : List (List Int)) (a1 : Int) (r : List (List (List Bool))) (w : World) (hr0_0 : Kd.C (Kd.slice 3 (Kd.int .i64)) w A0_0 l0_0.length l0_0) (hc0_0 : l0_0.length ≤ c0_0) (hr0_1 : Kd.C (Kd.slice 3 (Kd.int .i64)) w A0_1 l0_1.length l0_1) (hc0_1 : l0_1.length ≤ c0_1) (h : spec_l13All.f k l0_0 l0_1 a1 = some r) :
    Calls Try.prog 69 #[.agg #[.slice A0_0 l0_0.length c0_0, .slice A0_1 l0_1.length c0_1], .int .i64 a1] w fun e w' => ∃ v0_ : Value, e = .returned (v0_) ∧ Kd.R (Kd.slice 37 (Kd.slice 4 Kd.bool)) 32 w' w.heap.size (fun _ => True) v0_ r ∧ Below w.heap.size w w' := by
  have hu25 := Try.underlying25
  have HZ : Aside0 (spec_l13Search.f k l0_0 l0_1 a1 [] [] = some r) := ⟨h⟩
  clear h
  obtain ⟨W1, hW1⟩ : ∃ W1 : World, W1 = w.alloc (Obj.cells #[.slice A0_0 l0_0.length c0_0, .slice A0_1 l0_1.length c0_1] 25) := ⟨_, rfl⟩
  have HW1 := Aside0.mk hW1
  have HGP : Aside0 (W1.heap[w.heap.size]? = some (Obj.cells #[.slice A0_0 l0_0.length c0_0, .slice A0_1 l0_1.length c0_1] 25 (0, 0))) := ⟨by rw [hW1]; exact blk_new _ _⟩
  have HB0 : Aside0 (Below w.heap.size w W1) := ⟨by rw [hW1]; exact (Below.refl _ _).alloc (Nat.le_refl _) _⟩
  have HR0 := Aside0.mk hr0_0
  have HR1 := Aside0.mk hr0_1
  clear hW1 hr0_0 hr0_1
  go_enter Try.func69, Try.ntmps69
  go_wp2_with (first | ((with_reducible refine gate_dst (N := 6) rfl ?_); rw [← HW1.out]; refine Kd.R_lit (Kd.slice 37 (Kd.slice 4 Kd.bool)) (w0 := w) w.heap.size 32 ?hg (N := 6) ?hd (xs := ([] : List (List (List Bool)))) (inner := []) (ok := fun _ => True) (okp := fun _ => True) ?hr ?hp (fun _ hk => hk) trivial HB0.out HB0.out.size (by simp) ?_; (case hd => rfl); (case hg => rfl); (case hr => first | (go_simp; done) | (go_simp; rfl)); (case hp => exact Reps.none _ _); intro v6 w1 ho hb hg_ hnew_; obtain ⟨Ad6, cd6, ev6⟩ := Kd.R_slice ho; subst ev6; have HV6 : Aside0 (Var (Kd.slice 37 (Kd.slice 4 Kd.bool)) 32 74 w1.heap.size w.heap.size (w1.alloc (Obj.cells #[Value.slice Ad6 0 cd6] 74)) []) := ⟨_, blk_new _ _, Kd.R_alloc ho _⟩; have HGP1 := Aside0.mk (blk_alloc (blk_grown HGP.out hg_ (by simp)) (Obj.cells #[Value.slice Ad6 0 cd6] 74)); have cp0 : (w1.alloc (Obj.cells #[Value.slice Ad6 0 cd6] 74)).cell? ⟨w.heap.size, 0, none⟩ = some (.slice A0_0 l0_0.length c0_0) := blk_cell HGP1.out 0; have cp1 : (w1.alloc (Obj.cells #[Value.slice Ad6 0 cd6] 74)).cell? ⟨w.heap.size, 1, none⟩ = some (.slice A0_1 l0_1.length c0_1) := blk_cell HGP1.out 1; have n1_ := Aside0.mk (hb.alloc hb.size (Obj.cells #[Value.slice Ad6 0 cd6] 74)); have GE := Aside0.mk hb.size; clear HB0; have HB0 := n1_; clear n1_ ho hb hg_ hnew_) | ((with_reducible refine gate_dst (N := 8) rfl ?_); refine Kd.R_lit (Kd.slice 4 Kd.bool) (w0 := w) w.heap.size 37 ?hg (N := 8) ?hd (xs := ([] : List (List Bool))) (inner := []) (ok := fun _ => True) (okp := fun _ => True) ?hr ?hp (fun _ hk => hk) trivial HB0.out HB0.out.size (by simp) ?_; (case hd => rfl); (case hg => rfl); (case hr => first | (go_simp; done) | (go_simp; rfl)); (case hp => exact Reps.none _ _); intro v8 w2 ho hb hg_ hnew_; obtain ⟨Ad8, cd8, ev8⟩ := Kd.R_slice ho; subst ev8; have HO8 := Aside0.mk ho; have n2_ := Aside0.mk (HV6.out.grown0 hg_); have n1_ := Aside0.mk hb; clear HB0 HV6; have HB0 := n1_; have HV6 := n2_; clear n1_ n2_ ho hb hg_ hnew_) | ((with_reducible refine gate_callee (f := 89) rfl ?_); refine goesL_ (some 10) rfl rfl Try.func89 (by kernel_rfl) rfl #[.agg #[.slice A0_0 l0_0.length c0_0, .slice A0_1 l0_1.length c0_1], .slice Ad8 0 cd8, .int .i64 a1, .pointer (some ⟨w1.heap.size, 0, none⟩)] rfl (by (try simp only [List.map_toArray, List.map_cons, List.map_nil]); first | done | rfl) ?_; (refine (spec_l13Search.calls w w1.heap.size GE.out A0_0 c0_0 l0_0 A0_1 c0_1 l0_1 a1 HR0.out hc0_0 HR1.out hc0_1 k Ad8 cd8 [] [] r _ HB0.out HO8.out HV6.out HZ.out).mono ?_); rintro e wb ⟨rfl, hd1, ⟨vz, hz, hrz⟩, _⟩; have hcz : wb.cell? ⟨w1.heap.size, 0, none⟩ = some vz := blk_cell hz 0; have HB1 := Aside0.mk hd1; have HVz := Aside0.mk hrz; clear hd1 hz hrz; refine ⟨_, rfl, ?_⟩))
  go_ret
  exact ⟨_, rfl, HVz.out, HB1.out⟩

end Go.Proofs.Ytapnohcfnclleaa.PFnExactPictureFirst
