-- Made by a program of this session (a changed copy of the kit print): the kit print itself does not give this text
import Derived.Test.YtcghheaelgjnfaaPFnStarsFirstx0
import Derived.Test.YtcghheaelgjnfaaPFnStarsFirstx1
import Derived.Test.YtcghheaelgjnfaaPFnStarsFirstx2
import Derived.Deep.RegionHeld3
import Derived.Laws.EntriesVeiled
import Derived.Lib.LazyBuf
import Derived.Test.YtcghheaelgjnfaaV0
namespace Go.Proofs.Ytcghheaelgjnfaa.PFnStarsFirst
open Go.RowKit Go.Proofs.YtcghheaelgjnfaaW.PrintWords Go.Proofs.YtcghheaelgjnfaaW.PrintLast Go.Proofs.YtcghheaelgjnfaaW.PrintMore
attribute [local go_sem] max2_int min2_int max_two min_two max_three min_three max_four min_four   -- for this text's walks alone
set_option linter.unusedVariables false
set_option linter.unusedSimpArgs false

-- NOT PRINTED: function 34 (spec_l15Search)

/-! ### spec_l15All: function 28 -/
--@import Derived.Test.YtcghheaelgjnfaaV0
open Go.Proofs.Ytcghheaelgjnfaa.My
mutual
def spec_l15Search.f : Nat → List Int → Int → List Int → List (List Int) → Option (List (List Int))
  | 0, _, _, _, _ => none
  | k + 1, x0, x1, x2, x3 => if (x2.length : Int) = x1 then (if x3.length < 4398046511104 then (some (x3 ++ [x2])) else none) else (spec_l15Search.l0 k x0 x1 x2 x3 0)
def spec_l15Search.l0 : Nat → List Int → Int → List Int → List (List Int) → Int → Option (List (List Int))
  | 0, _, _, _, _, _ => none
  | k + 1, x0, x1, x2, x3, x8 => if x8 < x1 then (if x2.length < 4398046511104 then ((spec_StarsFit.f k x0 x1 (x2 ++ [x8])).bind fun b => (if b = true then ((spec_l15Search.f k x0 x1 (x2 ++ [x8]) x3).bind fun z => (spec_l15Search.l0 k x0 x1 x2 z (wrap64 (x8 + 1)))) else (spec_l15Search.l0 k x0 x1 x2 x3 (wrap64 (x8 + 1))))) else none) else (some x3)
end
theorem spec_l15Search.mono_l : ∀ k, (∀ y0 y1 y2 y3, LeO (spec_l15Search.f k y0 y1 y2 y3) (spec_l15Search.f (k + 1) y0 y1 y2 y3)) ∧ (∀ y0 y1 y2 y3 y4, LeO (spec_l15Search.l0 k y0 y1 y2 y3 y4) (spec_l15Search.l0 (k + 1) y0 y1 y2 y3 y4))
  | 0 => ⟨fun _ _ _ _ r h => by simp [spec_l15Search.f] at h, fun _ _ _ _ _ r h => by simp [spec_l15Search.l0] at h⟩
  | k + 1 => by
    obtain ⟨ih0, ih1⟩ := spec_l15Search.mono_l k
    refine ⟨?_, ?_⟩
    · intro y0 y1 y2 y3
      unfold spec_l15Search.f
      repeat' first
      | (with_reducible exact ih0 _ _ _ _)
      | (with_reducible exact ih1 _ _ _ _ _)
      | (with_reducible exact spec_StarsFit.mono _ _ _ _)
      | (with_reducible exact LeO.refl _)
      | (with_reducible exact LeO.none _)
      | (with_reducible refine LeO.ite ?_ ?_)
      | (with_reducible refine LeO.bind ?_ (fun _ => ?_))
      | exact ih0 _ _ _ _
      | exact ih1 _ _ _ _ _
      | exact spec_StarsFit.mono _ _ _ _
      | exact LeO.none _
      | refine LeO.ite ?_ ?_
      | refine LeO.bind ?_ (fun _ => ?_)
    · intro y0 y1 y2 y3 y4
      unfold spec_l15Search.l0
      repeat' first
      | (with_reducible exact ih0 _ _ _ _)
      | (with_reducible exact ih1 _ _ _ _ _)
      | (with_reducible exact spec_StarsFit.mono _ _ _ _)
      | (with_reducible exact LeO.refl _)
      | (with_reducible exact LeO.none _)
      | (with_reducible refine LeO.ite ?_ ?_)
      | (with_reducible refine LeO.bind ?_ (fun _ => ?_))
      | exact ih0 _ _ _ _
      | exact ih1 _ _ _ _ _
      | exact spec_StarsFit.mono _ _ _ _
      | exact LeO.none _
      | refine LeO.ite ?_ ?_
      | refine LeO.bind ?_ (fun _ => ?_)
theorem spec_l15Search.mono : ∀ a0 a1 a2 a3 k, LeO (spec_l15Search.f k a0 a1 a2 a3) (spec_l15Search.f (k + 1) a0 a1 a2 a3) := by
  intro a0 a1 a2 a3 k
  obtain ⟨ih0, ih1⟩ := spec_l15Search.mono_l k
  exact ih0 a0 a1 a2 a3
/-- What a call of l15Search leaves. -/
def SearchPost (W0 : World) (g : Nat) (w : World) (r : List (List Int)) (e : Ending) (w' : World) : Prop :=
  e = .returned (.tuple #[]) ∧ Below W0.heap.size W0 w' ∧ Var (Kd.slice 3 (Kd.int .i64)) 22 40 g W0.heap.size w' r ∧ Keep [3] w w'
set_option maxHeartbeats 8000000 in
set_option maxRecDepth 100000 in
theorem spec_l15Search.calls (W0 : World) (g : Nat) (hg0 : W0.heap.size ≤ g) (A0 : Option Addr) (c0 : Nat) (l0 : List Int) (a1 : Int) (hr0 : Kd.C (Kd.int .i64) W0 A0 l0.length l0) (hc0 : l0.length ≤ c0) (k : Nat) : ∀ (A2 : Option Addr) (c2 : Nat) (l2 : List Int) (l3 r : List (List Int)) (w : World) (hb : Below W0.heap.size W0 w)
    (hr2 : Kd.R (Kd.int .i64) 3 w W0.heap.size (fun _ => True) (.slice A2 l2.length c2) l2) (hv : Var (Kd.slice 3 (Kd.int .i64)) 22 40 g W0.heap.size w l3) (h : spec_l15Search.f k l0 a1 l2 l3 = some r),
    Calls Try.prog 34 #[.slice A0 l0.length c0, .int .i64 a1, .slice A2 l2.length c2, .pointer (some ⟨g, 0, none⟩)] w (SearchPost W0 g w r) := by
  induction k using Nat.strongRecOn with
  | _ k ih =>
  cases k with
  | zero => intro A2 c2 l2 l3 r w hb hr2 hv h; exact absurd h (by simp [spec_l15Search.f])
  | succ k =>
    intro A2 c2 l2 l3 r w hb hr2 hv h
    simp only [spec_l15Search.f] at h
    have HB := Aside0.mk hb
    have HR := Aside0.mk hr2
    have hi22 : (Try.prog.info? 22).map (fun i => (i.zero, i.size, i.bytes)) = some (some (.slice none 0 0), 1, 24) := by kernel_rfl
    by_cases c1 : (l2.length : Int) = a1
    · rw [if_pos c1] at h
      by_cases c2' : l3.length < 4398046511104
      · rw [if_pos c2'] at h
        have LM := Aside0.mk c2'
        obtain rfl := Option.some.inj h
        have b1 : ((l2.length : Int) == a1) = true := beq_iff_eq.mpr c1
        obtain ⟨v, hg, hr⟩ := hv
        obtain ⟨Ad, cd, ev⟩ := Kd.R_slice hr
        subst ev
        have hcell : w.cell? ⟨g, 0, none⟩ = some (.slice Ad l3.length cd) := blk_cell hg 0
        have hfz : w.frozen? ⟨g, 0, none⟩ = false := blk_frozen hg 0
        have HG := Aside0.mk hg
        have HV := Aside0.mk hr
        clear hb hr2 hg hr h c1 c2'
        have HIH := Aside0.mk ih
        clear ih
        go_enter Try.func34, Try.ntmps34
        go_wp2_with ((with_reducible refine gate_builtin (b := .append) (xs := #[.tmp 17, .tmp 19]) rfl ?_); at_builtin; refine Kd.R_append (Kd.slice 3 (Kd.int .i64)) (w0 := W0) W0.heap.size rfl (.tmp 17) (.tmp 19) 40 22 (.slice none 0 0) 24 rfl Try.underlying40 hi22 rfl (by decide) (by omega) (.slice Ad l3.length cd) l3 l2 [.slice A2 l2.length c2] (fun _ => True) (fun k => True ∧ some k ≠ (Value.slice Ad l3.length cd).ownBlock) rfl rfl ?aP (fun _ hk => hk) ?aF ?aO ?aB ?aS ?aL ?_; (case aP => exact ⟨_, rfl, R_apart HR.out HV.out (by simp [Kd.int, Kd.scalar])⟩); (case aF => exact fun _ _ => trivial); (case aO => exact HV.out); (case aB => exact HB.out); (case aS => exact HB.out.size); (case aL => have := LM.out; omega); intro v1 w1 ho hb hgr hat; obtain ⟨Ad1, cd1, ev1⟩ := Kd.R_slice ho; subst ev1; have HO := Aside0.mk ho; have HB1 := Aside0.mk hb; have HG1 := Aside0.mk hgr; have hg1 := blk_grown HG.out hgr (Kd.R_ne HV.out HG.out (by decide)); have HGG := Aside0.mk hg1; have hfz1 := blk_frozen hg1 0; have hcell1 := blk_cell hg1 0; clear hg1 ho hb hgr hat)
        go_end0
        refine ⟨rfl, ?_, ⟨_, blk_put HGG.out 0 _ rfl, ?_⟩, ?_⟩
        · exact HB1.out.setCell hg0 _
        · have h1 := Kd.R_set HO.out HGG.out (by simp [Kd.int, Kd.scalar, Kd.slice]) 0 (.slice Ad1 (l3.length + 1) cd1)
          rw [List.length_append, List.length_singleton] at h1
          exact h1
        · exact ((Keep.refl [3] w).grown HV.out (by decide) HG1.out).set HGG.out (by decide) 0 _
      · rw [if_neg c2'] at h
        exact absurd h (by simp)
    · rw [if_neg c1] at h
      have b1 : ((l2.length : Int) == a1) = false := beq_eq_false_iff_ne.mpr c1
      have HH := Aside0.mk h
      have HV := Aside0.mk hv
      have HIH := Aside0.mk ih
      clear hb hr2 hv h c1 ih
      go_enter Try.func34, Try.ntmps34
      go_wp2_with fail
      go_loopg [8] k (fun kq v8 w' => ∃ (z : List (List Int)) (i : Int), v8 = .int .i64 i ∧ Aside0 (spec_l15Search.l0 kq l0 a1 l2 z i = some r) ∧ Aside0 (kq ≤ k) ∧ Aside0 (Below W0.heap.size W0 w') ∧ Aside0 (Var (Kd.slice 3 (Kd.int .i64)) 22 40 g W0.heap.size w' z) ∧ Aside0 (Keep [3] w w'))
      case atStart => exact ⟨l3, 0, rfl, HH, ⟨Nat.le_refl _⟩, HB, HV, ⟨Keep.refl _ _⟩⟩
      case round =>
        clear HH HB HV
        obtain ⟨z, i, rfl, HA, HK, HB, HV, HKp⟩ := hrel
        cases gk with
        | zero => exact absurd HA.out (by simp [spec_l15Search.l0])
        | succ k1 =>
          have H := HA.out
          clear HA
          simp only [spec_l15Search.l0] at H
          by_cases c5 : i < a1
          · rw [if_pos c5] at H
            have c5b0 : decide (i < a1) = true := decide_eq_true c5
            clear c5
            by_cases c6 : l2.length < 4398046511104
            · rw [if_pos c6] at H
              have LM := Aside0.mk c6
              clear c6
              obtain ⟨b, Hb, H⟩ := Option.bind_eq_some_iff.mp H
              have HR1 := Aside0.mk (HKp.out.R (by simp [Kd.int, Kd.scalar]) HR.out)
              obtain ⟨y, hy⟩ : ∃ y_ : List Int, y_ = l2 ++ [i] := ⟨_, rfl⟩
              rw [← hy] at Hb H
              have Ny := Aside0.mk hy
              have HS := Aside0.mk Hb
              have HB0 := Aside0.mk (Below.refl wr.heap.size wr)
              have hi3 : (Try.prog.info? 3).map (fun i => (i.zero, i.size, i.bytes)) = some (some (.int .i64 0), 1, 8) := by kernel_rfl
              clear Hb hy
              cases b with
              | false =>
                replace H : spec_l15Search.l0 k1 l0 a1 l2 z (wrap64 (i + 1)) = some r := H
                have HH := Aside0.mk H
                clear H
                go_wp2_with (first | ((with_reducible refine gate_dst (N := 27) rfl ?_); refine Kd.R_lit (Kd.int .i64) (w0 := wr) wr.heap.size 3 ?hg (N := 27) ?hd (xs := ([] : List Int)) (inner := []) (ok := fun _ => True) (okp := fun _ => True) ?hr ?hp (fun _ hk => hk) trivial HB0.out (Nat.le_refl _) (by simp) ?_; (case hd => rfl); (case hg => rfl); (case hr => first | (go_simp; done) | (go_simp; rfl)); (case hp => exact Reps.none _ _); intro v27 w1 ho hb hg_ hnew_; have HO27 := Aside0.mk ho; have n1_ := Aside0.mk hb; clear HB0; have HB0 := n1_; clear n1_ ho hb hg_ hnew_) | ((with_reducible refine gate_builtin (b := .append) (xs := #[.tmp 27, .tmp 28]) rfl ?_); at_builtin; refine Kd.R_append_rows (Kd.int .i64) (w0 := wr) wr.heap.size rfl (.tmp 27) (.tmp 28) 22 3 (.int .i64 0) 8 rfl Try.underlying22 hi3 rfl (by decide) (by omega) v27 [] l2 _ _ _ (fun _ => True) (fun _ => False) rfl rfl ?aO ?aR (fun _ _ h => h) (fun _ h => h.elim) ?aF ?aB ?aS ?aL ?_; (case aR => exact Kd.C_below (Kd.R_reads' HR1.out).2.2 HB0.out); (case aB => exact HB0.out); (case aF => exact fun _ _ => trivial); (case aO => exact HO27.out); (case aS => exact HB0.out.size); (case aL => have := LM.out; simp; omega); intro v29 w2 ho hb hg hat; rw [List.nil_append] at ho; have HO29 := Aside0.mk ho; have n1_ := Aside0.mk hb; clear HB0; have HB0 := n1_; clear n1_ ho hb hg hat) | ((with_reducible refine gate_builtin (b := .append) (xs := #[.tmp 29, .tmp 31]) rfl ?_); at_builtin; refine Kd.R_append (Kd.int .i64) (w0 := wr) wr.heap.size rfl (.tmp 29) (.tmp 31) 22 3 (.int .i64 0) 8 rfl Try.underlying22 hi3 rfl (by decide) (by omega) v29 l2 i [.int .i64 i] (fun _ => True) (fun _ => False) rfl rfl ?aP (fun _ hk => hk.elim) ?aF ?aO ?aB ?aS ?aL ?_; (case aP => exact rfl); (case aB => exact HB0.out); (case aF => exact fun _ _ => trivial); (case aO => exact HO29.out); (case aS => exact HB0.out.size); (case aL => have := LM.out; omega); intro v32 w3 ho hb hg hat; rw [← Ny.out] at ho; obtain ⟨An, cn, en⟩ := Kd.R_slice ho; subst en; have HO32 := Aside0.mk ho; have n1_ := Aside0.mk hb; clear HB0; have HB0 := n1_; clear n1_ ho hb hg hat) | ((with_reducible refine gate_callee (f := 10) rfl ?_); refine goesL_ (some 36) rfl rfl Try.func10 (by kernel_rfl) rfl #[.slice A0 l0.length c0, .int .i64 a1, .slice An y.length cn] rfl (by (try simp only [List.map_toArray, List.map_cons, List.map_nil]); first | done | rfl) ?_; (with_reducible refine (spec_StarsFit.calls k1 A0 c0 l0 a1 An cn y _ _ (Kd.C_below hr0 (below_step HB.out HB0.out)) hc0 (Kd.R_reads' HO32.out).2.2 (Kd.R_reads' HO32.out).2.1 HS.out).mono ?_); rintro e wb ⟨rfl, hd⟩; have n1_ := Aside0.mk (below_step HB0.out hd); have n2_ := Aside0.mk (Kd.R_below HO32.out hd); clear HB0 HO32; have HB0 := n1_; have HO32 := n2_; clear n1_ n2_ hd; refine ⟨_, rfl, ?_⟩))
                go_roundg k1
                case measure => have := HK.out; omega
                case rel => exact ⟨z, wrap64 (i + 1), rfl, HH, ⟨by have := HK.out; omega⟩, ⟨below_step HB.out HB0.out⟩, ⟨HV.out.below HB0.out⟩, ⟨HKp.out.of_below HB0.out⟩⟩
              | true =>
                obtain ⟨z2, Hz, H⟩ := Option.bind_eq_some_iff.mp H
                have HZ := Aside0.mk Hz
                have HH := Aside0.mk H
                clear H Hz
                go_wp2_with (first | ((with_reducible refine gate_dst (N := 27) rfl ?_); refine Kd.R_lit (Kd.int .i64) (w0 := wr) wr.heap.size 3 ?hg (N := 27) ?hd (xs := ([] : List Int)) (inner := []) (ok := fun _ => True) (okp := fun _ => True) ?hr ?hp (fun _ hk => hk) trivial HB0.out (Nat.le_refl _) (by simp) ?_; (case hd => rfl); (case hg => rfl); (case hr => first | (go_simp; done) | (go_simp; rfl)); (case hp => exact Reps.none _ _); intro v27 w1 ho hb hg_ hnew_; have HO27 := Aside0.mk ho; have n1_ := Aside0.mk hb; clear HB0; have HB0 := n1_; clear n1_ ho hb hg_ hnew_) | ((with_reducible refine gate_builtin (b := .append) (xs := #[.tmp 27, .tmp 28]) rfl ?_); at_builtin; refine Kd.R_append_rows (Kd.int .i64) (w0 := wr) wr.heap.size rfl (.tmp 27) (.tmp 28) 22 3 (.int .i64 0) 8 rfl Try.underlying22 hi3 rfl (by decide) (by omega) v27 [] l2 _ _ _ (fun _ => True) (fun _ => False) rfl rfl ?aO ?aR (fun _ _ h => h) (fun _ h => h.elim) ?aF ?aB ?aS ?aL ?_; (case aR => exact Kd.C_below (Kd.R_reads' HR1.out).2.2 HB0.out); (case aB => exact HB0.out); (case aF => exact fun _ _ => trivial); (case aO => exact HO27.out); (case aS => exact HB0.out.size); (case aL => have := LM.out; simp; omega); intro v29 w2 ho hb hg hat; rw [List.nil_append] at ho; have HO29 := Aside0.mk ho; have n1_ := Aside0.mk hb; clear HB0; have HB0 := n1_; clear n1_ ho hb hg hat) | ((with_reducible refine gate_builtin (b := .append) (xs := #[.tmp 29, .tmp 31]) rfl ?_); at_builtin; refine Kd.R_append (Kd.int .i64) (w0 := wr) wr.heap.size rfl (.tmp 29) (.tmp 31) 22 3 (.int .i64 0) 8 rfl Try.underlying22 hi3 rfl (by decide) (by omega) v29 l2 i [.int .i64 i] (fun _ => True) (fun _ => False) rfl rfl ?aP (fun _ hk => hk.elim) ?aF ?aO ?aB ?aS ?aL ?_; (case aP => exact rfl); (case aB => exact HB0.out); (case aF => exact fun _ _ => trivial); (case aO => exact HO29.out); (case aS => exact HB0.out.size); (case aL => have := LM.out; omega); intro v32 w3 ho hb hg hat; rw [← Ny.out] at ho; obtain ⟨An, cn, en⟩ := Kd.R_slice ho; subst en; have HO32 := Aside0.mk ho; have n1_ := Aside0.mk hb; clear HB0; have HB0 := n1_; clear n1_ ho hb hg hat) | ((with_reducible refine gate_callee (f := 10) rfl ?_); refine goesL_ (some 36) rfl rfl Try.func10 (by kernel_rfl) rfl #[.slice A0 l0.length c0, .int .i64 a1, .slice An y.length cn] rfl (by (try simp only [List.map_toArray, List.map_cons, List.map_nil]); first | done | rfl) ?_; (with_reducible refine (spec_StarsFit.calls k1 A0 c0 l0 a1 An cn y _ _ (Kd.C_below hr0 (below_step HB.out HB0.out)) hc0 (Kd.R_reads' HO32.out).2.2 (Kd.R_reads' HO32.out).2.1 HS.out).mono ?_); rintro e wb ⟨rfl, hd⟩; have n1_ := Aside0.mk (below_step HB0.out hd); have n2_ := Aside0.mk (Kd.R_below HO32.out hd); clear HB0 HO32; have HB0 := n1_; have HO32 := n2_; clear n1_ n2_ hd; refine ⟨_, rfl, ?_⟩) | ((with_reducible refine gate_callee (f := 34) rfl ?_); refine goesL_ (some 41) rfl rfl Try.func34 (by kernel_rfl) rfl #[.slice A0 l0.length c0, .int .i64 a1, .slice An y.length cn, .pointer (some ⟨g, 0, none⟩)] rfl (by (try simp only [List.map_toArray, List.map_cons, List.map_nil]); first | done | rfl) ?_; (with_reducible refine (HIH.out k1 (by have := HK.out; omega) An cn y z z2 _ (below_step HB.out HB0.out) (Kd.R_lower HO32.out HB.out.size) (HV.out.below HB0.out) HZ.out).mono ?_); rintro e wb ⟨rfl, hd1, hd2, hd3⟩; have HB2 := Aside0.mk hd1; have HV2 := Aside0.mk hd2; have HKp2 := Aside0.mk ((HKp.out.of_below HB0.out).trans hd3); clear hd1 hd2 hd3; refine ⟨_, rfl, ?_⟩))
                go_roundg k1
                case measure => have := HK.out; omega
                case rel => exact ⟨z2, wrap64 (i + 1), rfl, HH, ⟨by have := HK.out; omega⟩, ⟨HB2.out⟩, ⟨HV2.out⟩, ⟨HKp2.out⟩⟩
            · rw [if_neg c6] at H
              exact absurd H (by simp)
          · rw [if_neg c5] at H
            have c5b0 : decide (i < a1) = false := decide_eq_false c5
            clear c5
            obtain rfl := Option.some.inj H
            go_wp2_with fail
            go_end0
            exact ⟨rfl, HB.out, HV.out, HKp.out⟩
def spec_l15All.f (k : Nat) (l0 : List Int) (a1 : Int) : Option (List (List Int)) := (spec_AreasValid.f k l0 a1).bind fun b => (if b = true then (spec_l15Search.f k l0 a1 [] []) else some [])
theorem spec_l15All.mono : ∀ a0 a1 k, LeO (spec_l15All.f k a0 a1) (spec_l15All.f (k + 1) a0 a1) := by
  intro a0 a1 k
  unfold spec_l15All.f
  repeat' first
      | (with_reducible exact spec_AreasValid.mono _ _ _)
      | (with_reducible exact spec_l15Search.mono _ _ _ _ _)
      | (with_reducible exact LeO.refl _)
      | (with_reducible exact LeO.none _)
      | (with_reducible refine LeO.ite ?_ ?_)
      | (with_reducible refine LeO.bind ?_ (fun _ => ?_))
      | exact spec_AreasValid.mono _ _ _
      | exact spec_l15Search.mono _ _ _ _ _
      | exact LeO.none _
      | refine LeO.ite ?_ ?_
      | refine LeO.bind ?_ (fun _ => ?_)
set_option maxHeartbeats 8000000 in
set_option maxRecDepth 100000 in
theorem spec_l15All.calls (k : Nat) (A0 : Option Addr) (c0 : Nat) (l0 : List Int) (a1 : Int) (r : List (List Int)) (w : World) (hr0 : Kd.C (Kd.int .i64) w A0 l0.length l0) (hc0 : l0.length ≤ c0) (h : spec_l15All.f k l0 a1 = some r) :
    Calls Try.prog 28 #[.slice A0 l0.length c0, .int .i64 a1] w fun e w' => ∃ v0_ : Value, e = .returned (v0_) ∧ Kd.R (Kd.slice 3 (Kd.int .i64)) 22 w' w.heap.size (fun _ => True) v0_ r ∧ Below w.heap.size w w' := by
  unfold spec_l15All.f at h
  obtain ⟨b, hb, h⟩ := Option.bind_eq_some_iff.mp h
  have HA := Aside0.mk hb
  have H := Aside0.mk h
  have HB0 := Aside0.mk (Below.refl w.heap.size w)
  clear hb h
  cases b with
  | true =>
    have HZ : Aside0 (spec_l15Search.f k l0 a1 [] [] = some r) := ⟨H.out⟩
    clear H
    go_enter Try.func28, Try.ntmps28
    go_wp2_with (first | ((with_reducible refine gate_dst (N := 6) rfl ?_); refine Kd.R_lit (Kd.slice 3 (Kd.int .i64)) (w0 := w) w.heap.size 22 ?hg (N := 6) ?hd (xs := ([] : List (List Int))) (inner := []) (ok := fun _ => True) (okp := fun _ => True) ?hr ?hp (fun _ hk => hk) trivial HB0.out (Nat.le_refl _) (by simp) ?_; (case hd => rfl); (case hg => rfl); (case hr => first | (go_simp; done) | (go_simp; rfl)); (case hp => exact Reps.none _ _); intro v6 w1 ho hb hg_ hnew_; obtain ⟨Ad6, cd6, ev6⟩ := Kd.R_slice ho; subst ev6; have HV6 : Aside0 (Var (Kd.slice 3 (Kd.int .i64)) 22 40 w1.heap.size w.heap.size (w1.alloc (Obj.cells #[Value.slice Ad6 0 cd6] 40)) []) := ⟨_, blk_new _ _, Kd.R_alloc ho _⟩; have n1_ := Aside0.mk (hb.alloc hb.size (Obj.cells #[Value.slice Ad6 0 cd6] 40)); have GE := Aside0.mk hb.size; clear HB0; have HB0 := n1_; clear n1_ ho hb hg_ hnew_) | ((with_reducible refine gate_callee (f := 25) rfl ?_); refine goesL_ (some 9) rfl rfl Try.func25 (by kernel_rfl) rfl #[.slice A0 l0.length c0, .int .i64 a1] rfl (by (try simp only [List.map_toArray, List.map_cons, List.map_nil]); first | done | rfl) ?_; (with_reducible refine (spec_AreasValid.calls k A0 c0 l0 a1 _ _ (Kd.C_below hr0 HB0.out) hc0 HA.out).mono ?_); rintro e wb ⟨rfl, hd'⟩; have hd := drawn_below hd'; clear hd'; have n1_ := Aside0.mk (below_step HB0.out hd); have n2_ := Aside0.mk (HV6.out.below hd); clear HB0 HV6; have HB0 := n1_; have HV6 := n2_; clear n1_ n2_ hd; refine ⟨_, rfl, ?_⟩) | ((with_reducible refine gate_dst (N := 12) rfl ?_); refine Kd.R_lit (Kd.int .i64) (w0 := w) w.heap.size 3 ?hg (N := 12) ?hd (xs := ([] : List Int)) (inner := []) (ok := fun _ => True) (okp := fun _ => True) ?hr ?hp (fun _ hk => hk) trivial HB0.out HB0.out.size (by simp) ?_; (case hd => rfl); (case hg => rfl); (case hr => first | (go_simp; done) | (go_simp; rfl)); (case hp => exact Reps.none _ _); intro v12 w2 ho hb hg_ hnew_; obtain ⟨Ad12, cd12, ev12⟩ := Kd.R_slice ho; subst ev12; have HO12 := Aside0.mk ho; have n2_ := Aside0.mk (HV6.out.grown0 hg_); have n1_ := Aside0.mk hb; clear HB0 HV6; have HB0 := n1_; have HV6 := n2_; clear n1_ n2_ ho hb hg_ hnew_) | ((with_reducible refine gate_callee (f := 34) rfl ?_); refine goesL_ (some 13) rfl rfl Try.func34 (by kernel_rfl) rfl #[.slice A0 l0.length c0, .int .i64 a1, .slice Ad12 0 cd12, .pointer (some ⟨w1.heap.size, 0, none⟩)] rfl (by (try simp only [List.map_toArray, List.map_cons, List.map_nil]); first | done | rfl) ?_; (refine (spec_l15Search.calls w w1.heap.size GE.out A0 c0 l0 a1 hr0 hc0 k Ad12 cd12 [] [] r _ HB0.out HO12.out HV6.out HZ.out).mono ?_); rintro e wb ⟨rfl, hd1, ⟨vz, hz, hrz⟩, _⟩; have hcz : wb.cell? ⟨w1.heap.size, 0, none⟩ = some vz := blk_cell hz 0; have HB1 := Aside0.mk hd1; have HVz := Aside0.mk hrz; clear hd1 hz hrz; refine ⟨_, rfl, ?_⟩))
    go_ret
    exact ⟨_, rfl, HVz.out, HB1.out⟩
  | false =>
    have e0 : [] = r := Option.some.inj H.out
    subst e0
    clear H
    go_enter Try.func28, Try.ntmps28
    go_wp2_with (first | ((with_reducible refine gate_dst (N := 6) rfl ?_); refine Kd.R_lit (Kd.slice 3 (Kd.int .i64)) (w0 := w) w.heap.size 22 ?hg (N := 6) ?hd (xs := ([] : List (List Int))) (inner := []) (ok := fun _ => True) (okp := fun _ => True) ?hr ?hp (fun _ hk => hk) trivial HB0.out (Nat.le_refl _) (by simp) ?_; (case hd => rfl); (case hg => rfl); (case hr => first | (go_simp; done) | (go_simp; rfl)); (case hp => exact Reps.none _ _); intro v6 w1 ho hb hg_ hnew_; obtain ⟨Ad6, cd6, ev6⟩ := Kd.R_slice ho; subst ev6; have HV6 : Aside0 (Var (Kd.slice 3 (Kd.int .i64)) 22 40 w1.heap.size w.heap.size (w1.alloc (Obj.cells #[Value.slice Ad6 0 cd6] 40)) []) := ⟨_, blk_new _ _, Kd.R_alloc ho _⟩; have n1_ := Aside0.mk (hb.alloc hb.size (Obj.cells #[Value.slice Ad6 0 cd6] 40)); have GE := Aside0.mk hb.size; clear HB0; have HB0 := n1_; clear n1_ ho hb hg_ hnew_) | ((with_reducible refine gate_callee (f := 25) rfl ?_); refine goesL_ (some 9) rfl rfl Try.func25 (by kernel_rfl) rfl #[.slice A0 l0.length c0, .int .i64 a1] rfl (by (try simp only [List.map_toArray, List.map_cons, List.map_nil]); first | done | rfl) ?_; (with_reducible refine (spec_AreasValid.calls k A0 c0 l0 a1 _ _ (Kd.C_below hr0 HB0.out) hc0 HA.out).mono ?_); rintro e wb ⟨rfl, hd'⟩; have hd := drawn_below hd'; clear hd'; have n1_ := Aside0.mk (below_step HB0.out hd); have n2_ := Aside0.mk (HV6.out.below hd); clear HB0 HV6; have HB0 := n1_; have HV6 := n2_; clear n1_ n2_ hd; obtain ⟨vz, hz, hrz⟩ := HV6.out; have hcz : wb.cell? ⟨w1.heap.size, 0, none⟩ = some vz := blk_cell hz 0; have HVz := Aside0.mk hrz; clear hz hrz; refine ⟨_, rfl, ?_⟩))
    go_ret
    exact ⟨_, rfl, HVz.out, HB0.out⟩

/-! ### spec_StarsFirst: function 16 -/
def spec_StarsFirst.f (k : Nat) (l0 : List Int) (a1 : Int) : Option (List Int × Bool) := (spec_l15All.f k l0 a1).bind fun t117 => (if (t117.length : Int) = 0 then (some ((([] : List Int)), false)) else (if 0 < (t117.length : Int) then (some (rd_L1 t117 0, true)) else (none)))
theorem spec_StarsFirst.mono : ∀ a0 a1 k, LeO (spec_StarsFirst.f k a0 a1) (spec_StarsFirst.f (k + 1) a0 a1) := by
  intro a0 a1 k
  unfold spec_StarsFirst.f
  repeat' first
      | (with_reducible exact spec_l15All.mono _ _ _)
      | (with_reducible exact LeO.refl _)
      | (with_reducible exact LeO.none _)
      | (with_reducible refine LeO.ite ?_ ?_)
      | (with_reducible refine LeO.bind ?_ (fun _ => ?_))
      | exact spec_l15All.mono _ _ _
      | exact LeO.none _
      | refine LeO.ite ?_ ?_
      | refine LeO.bind ?_ (fun _ => ?_)
set_option maxHeartbeats 8000000 in
set_option maxRecDepth 100000 in
theorem spec_StarsFirst.calls (k : Nat) (A0 : Option Addr) (c0 : Nat) (l0 : List Int) (a1 : Int) (r1 : List Int) (r2 : Bool) (w : World) (hr0 : Kd.C (Kd.int .i64) w A0 l0.length l0) (hc0 : l0.length ≤ c0) (h : spec_StarsFirst.f k l0 a1 = some (r1, r2)) :
    Calls Try.prog 16 #[.slice A0 l0.length c0, .int .i64 a1] w fun e w' => ∃ v0_ : Value, e = .returned (.tuple #[v0_, .bool r2]) ∧ Kd.R (Kd.int .i64) 3 w' w.heap.size (fun _ => True) v0_ r1 ∧ Below w.heap.size w w' := by
  have HR0 := Aside0.mk hr0
  have HC0 := Aside0.mk hc0
  clear hr0 hc0
  have HB := Aside0.mk (Below.refl w.heap.size w)
  have H : ((spec_l15All.f k l0 a1).bind fun t117 => (if (t117.length : Int) = 0 then (some ((([] : List Int)), false)) else (if 0 < (t117.length : Int) then (some (rd_L1 t117 0, true)) else (none)))) = some (r1, r2) := h
  clear h
  replace H := Option.bind_eq_some_iff.mp H
  obtain ⟨t117, A30, H⟩ := H
  replace H : (if (t117.length : Int) = 0 then (some ((([] : List Int)), false)) else (if 0 < (t117.length : Int) then (some (rd_L1 t117 0, true)) else (none))) = some (r1, r2) := H
  have A3 := Aside0.mk A30
  clear A30
  by_cases c4 : (t117.length : Int) = 0
  · rw [if_pos c4] at H
    have c4b0 : ((t117.length : Int) == 0) = true := beq_iff_eq.mpr c4
    have c4b1 : ((t117.length : Int) != 0) = false := bne_eq_false_iff_eq.mpr c4
    clear c4
    obtain ⟨y120, hy120⟩ : ∃ y_ : List Int, y_ = (([] : List Int)) := ⟨_, rfl⟩
    replace H : (some (y120, false)) = some (r1, r2) := by first | (rw [hy120]; with_reducible exact H) | (have H2_ := (Option.bind_some _ _).symm.trans H; rw [hy120]; with_reducible exact H2_) | (have H2_ := (Option.bind_some _ _).symm.trans H; with_reducible exact H2_) | with_reducible exact H | (rw [hy120]; exact H) | exact H
    have Ny120 := Aside0.mk hy120
    clear hy120
    simp only [Option.some.injEq, Prod.mk.injEq] at H
    obtain ⟨rfl, rfl⟩ := H
    go_enter Try.func16, Try.ntmps16
    go_wp2_with (first | ((with_reducible refine gate_callee (f := 28) rfl ?_); refine goesL_ (some 9) rfl rfl Try.func28 (by kernel_rfl) rfl #[.slice A0 l0.length c0, .int .i64 a1] rfl (by (try simp only [List.map_toArray, List.map_cons, List.map_nil]); first | done | rfl | (simp only [List.length_drop, List.length_take]; rfl)) ?_; (with_reducible refine (spec_l15All.calls k _ _ l0 a1 t117 _ ?side1 ?side2 A3.out).mono ?_); (case side1 => repeat (first | exact HR0.out | (with_reducible refine Kd.C_alloc ?_ _) | (with_reducible refine Kd.C_drewN ?_ _) | (with_reducible refine Kd.C_drew ?_))); (case side2 => exact HC0.out); rintro e w5 ⟨v118, rfl, ho0, hb⟩; refine ⟨_, rfl, ?_⟩; have n0_ := Aside0.mk (Kd.R_lower ho0 (below_size (by repeat (first | (with_reducible first | exact HB.out | apply below_alloc | apply pw_below_drewN | apply below_drew1) | exact HB.out)))); have n1_ := Aside0.mk (below_step (by repeat (first | (with_reducible first | exact HB.out | apply below_alloc | apply pw_below_drewN | apply below_drew1) | exact HB.out)) hb); clear HB; have HO119 := n0_; have HB := n1_; clear n0_ n1_; (try clear hb); (try clear hb2); (try clear hk); (try clear hi); (try clear ho0); obtain ⟨Ao6, co6, eo6⟩ := Kd.R_slice HO119.out; subst eo6) | ((with_reducible refine gate_dst (N := 13) rfl ?_); refine Kd.R_lit (Kd.int .i64) _ 3 ?hg (N := 13) ?hd (xs := ([] : List Int)) (inner := []) (ok := fun _ => True) (okp := fun _ => True) ?hr ?hp (fun _ hk => hk) trivial (Below.refl _ _) (Nat.le_refl _) (by simp) ?_; (case hd => rfl); (case hg => rfl); (case hr => first | (go_simp; done) | (go_simp; rfl)); (case hp => exact (Reps.none _ _)); intro v121 w7 ho8 hb hg_ hnew_; clear hg_ hnew_; (first | rw [← Ny120.out] at ho8 | (simp only [Int.reduceToNat] at ho8; rw [← Ny120.out] at ho8)); have n0_ := Aside0.mk (Kd.R_elder' (by (with_reducible repeat (first | apply Kd.R_alloc | apply Kd.R_drewN | apply Kd.R_drew)); exact HO119.out) (Kd.R_base ho8) hb); have n1_ := Aside0.mk (Kd.R_lower ho8 (below_size (by repeat (first | (with_reducible first | exact HB.out | apply below_alloc | apply pw_below_drewN | apply below_drew1) | exact HB.out)))); have n2_ := Aside0.mk (below_step (by repeat (first | (with_reducible first | exact HB.out | apply below_alloc | apply pw_below_drewN | apply below_drew1) | exact HB.out)) hb); clear HO119; clear HB; have HO119 := n0_; have HO122 := n1_; have HB := n2_; clear n0_ n1_ n2_; clear hb ho8))
    go_ret2
    exact ⟨_, by first | rfl | (simp [errW_none, errW_some] <;> rfl) | (simp [*, errW_none, errW_some] <;> rfl), by (with_reducible repeat (first | apply Kd.R_alloc | apply Kd.R_drewN | apply Kd.R_drew)); exact HO122.out, by repeat (first | (with_reducible first | exact HB.out | apply below_alloc | apply pw_below_drewN | apply below_drew1) | exact HB.out)⟩
  · rw [if_neg c4] at H
    have c4b0 : ((t117.length : Int) == 0) = false := beq_eq_false_iff_ne.mpr c4
    have c4b1 : ((t117.length : Int) != 0) = true := bne_iff_ne.mpr c4
    have c4b2 : ¬ (t117 = []) := fun h_ => c4 (by rw [h_]; rfl)
    by_cases c9 : 0 < (t117.length : Int)
    · rw [if_pos c9] at H
      have c9b0 : decide (0 < (t117.length : Int)) = true := decide_eq_true c9
      have c9b1 : decide (0 < t117.length) = true := decide_eq_true (by omega)
      clear c9
      simp only [Option.some.injEq, Prod.mk.injEq] at H
      obtain ⟨rfl, rfl⟩ := H
      go_enter Try.func16, Try.ntmps16
      go_wp2_with (first | ((with_reducible refine gate_callee (f := 28) rfl ?_); refine goesL_ (some 9) rfl rfl Try.func28 (by kernel_rfl) rfl #[.slice A0 l0.length c0, .int .i64 a1] rfl (by (try simp only [List.map_toArray, List.map_cons, List.map_nil]); first | done | rfl | (simp only [List.length_drop, List.length_take]; rfl)) ?_; (with_reducible refine (spec_l15All.calls k _ _ l0 a1 t117 _ ?side1 ?side2 A3.out).mono ?_); (case side1 => repeat (first | exact HR0.out | (with_reducible refine Kd.C_alloc ?_ _) | (with_reducible refine Kd.C_drewN ?_ _) | (with_reducible refine Kd.C_drew ?_))); (case side2 => exact HC0.out); rintro e w10 ⟨v118, rfl, ho0, hb⟩; refine ⟨_, rfl, ?_⟩; have n0_ := Aside0.mk (Kd.R_lower ho0 (below_size (by repeat (first | (with_reducible first | exact HB.out | apply below_alloc | apply pw_below_drewN | apply below_drew1) | exact HB.out)))); have n1_ := Aside0.mk (below_step (by repeat (first | (with_reducible first | exact HB.out | apply below_alloc | apply pw_below_drewN | apply below_drew1) | exact HB.out)) hb); clear HB; have HO119 := n0_; have HB := n1_; clear n0_ n1_; (try clear hb); (try clear hb2); (try clear hk); (try clear hi); (try clear ho0); obtain ⟨Ao11, co11, eo11⟩ := Kd.R_slice HO119.out; subst eo11; have p123 : 0 ≤ (0 : Int) := (by omega); have q123 : 0 < (t117.length : Int) := of_decide_eq_true (by first | (with_reducible assumption) | assumption); obtain ⟨ad123, A123_0, c123_0, e123, hx123_0, hl123_0, hi123_0⟩ := at_L1 (Kd.R_reads' HO119.out).2.2 0 p123 q123; cases e123; obtain ⟨ce123, hce123, hMe123, hcc123⟩ := Kd.R_get HO119.out [] 0 p123 (by first | exact q123 | exact of_decide_eq_true (by first | (with_reducible assumption) | assumption) | (have e_ := (Kd.R_reads' HO119.out).1; omega)); obtain ⟨ve123_0, rfl, ge123_0⟩ := hMe123; have hv123_0 := hcc123 0 _ rfl; rw [Nat.add_zero, show ((Kd.slice 3 (Kd.int .i64))).sz = 1 from rfl, Nat.mul_one] at hv123_0; replace hv123_0 := Option.some.inj (hv123_0.symm.trans hx123_0); rw [hv123_0] at ge123_0; have HL123_0 := Aside0.mk (show Kd.R (Kd.int .i64) 3 _ _ _ _ (rd_L1 t117 0) from ge123_0); clear hv123_0 ge123_0; clear hcc123 hce123; have qi123 : (0 < t117.length) = True := eq_true (by omega); (try rw [show ((0 : Int)).toNat = 0 from rfl] at hx123_0); (try rw [Addr.add_zero'] at hx123_0); have HR123_0 := Aside0.mk hi123_0; have HC123_0 := Aside0.mk hl123_0; clear hi123_0 hl123_0; replace p123 := eq_true p123; replace q123 := eq_true q123))
      go_ret2
      exact ⟨_, by first | rfl | (simp [errW_none, errW_some] <;> rfl) | (simp [*, errW_none, errW_some] <;> rfl), by (with_reducible repeat (first | apply Kd.R_alloc | apply Kd.R_drewN | apply Kd.R_drew)); exact Kd.R_mono HL123_0.out (fun _ hk => trivial), by repeat (first | (with_reducible first | exact HB.out | apply below_alloc | apply pw_below_drewN | apply below_drew1) | exact HB.out)⟩
    · rw [if_neg c9] at H
      exact absurd H (by simp)

--@import Derived.Lib.LazyBuf
/-! ### slices_Clone_int_int: function 36 -/
def slices_Clone_int_int.f (l0 : List Int) : Option (List Int) := (some (([] : List Int) : List Int)).bind fun y124 => (if y124.length + l0.length < 17592186044416 then (some (y124 ++ l0)) else (none))
set_option maxHeartbeats 8000000 in
set_option maxRecDepth 100000 in
theorem slices_Clone_int_int.calls (A0 : Option Addr) (c0 : Nat) (l0 : List Int) (r : List Int) (w : World) (hr0 : Kd.C (Kd.int .i64) w A0 l0.length l0) (hc0 : l0.length ≤ c0) (h : slices_Clone_int_int.f l0 = some r) :
    Calls Try.prog 36 #[.slice A0 l0.length c0] w fun e w' => ∃ v0_ : Value, e = .returned (v0_) ∧ Kd.R (Kd.int .i64) 3 w' w.heap.size (fun _ => True) v0_ r ∧ Below w.heap.size w w' := by
  cases A0 with
  | none =>
    have hl : l0 = [] := by
      rcases Nat.eq_zero_or_pos l0.length with h0 | h0
      · exact List.eq_nil_of_length_eq_zero h0
      · obtain ⟨ad, e, _⟩ := hr0.2.2 h0
        cases e
    subst hl
    have HB := Aside0.mk (Below.refl w.heap.size w)
    have hr : r = [] := by
      have H : some ([] : List Int) = some r := h
      exact (Option.some.inj H).symm
    subst hr
    clear h hr0 hc0
    have hnil := fun (w_ : World) (a_ : Option Addr) (l_ c_ : Nat) => Go.run_eql_slice_nil (P := Try.prog) w_ 22 3 a_ l_ c_ Try.underlying22
    go_enter Try.func36, Try.ntmps36
    go_wp2
    go_ret
    exact ⟨_, by first | rfl | (simp; done), Kd.R_nil _ _ _ _ _, by repeat (first | (with_reducible first | exact HB.out | apply below_alloc | apply pw_below_drewN | apply below_drew1) | exact HB.out)⟩
  | some ad0 =>
    have HR0 := Aside0.mk hr0
    have HC0 := Aside0.mk hc0
    clear hr0 hc0
    have HB := Aside0.mk (Below.refl w.heap.size w)
    have H : ((some (([] : List Int) : List Int)).bind fun y124 => (if y124.length + l0.length < 17592186044416 then (some (y124 ++ l0)) else (none))) = some r := h
    clear h
    obtain ⟨y124, hy124⟩ : ∃ y_ : List Int, y_ = (([] : List Int)) := ⟨_, rfl⟩
    replace H : (if y124.length + l0.length < 17592186044416 then (some (y124 ++ l0)) else (none)) = some r := by first | (rw [hy124]; with_reducible exact H) | (have H2_ := (Option.bind_some _ _).symm.trans H; rw [hy124]; with_reducible exact H2_) | (have H2_ := (Option.bind_some _ _).symm.trans H; with_reducible exact H2_) | with_reducible exact H | (rw [hy124]; exact H) | exact H
    have Ny124 := Aside0.mk hy124
    clear hy124
    by_cases c2 : y124.length + l0.length < 17592186044416
    · rw [if_pos c2] at H
      have LMc2 := Aside0.mk c2
      clear c2
      obtain ⟨y127, hy127⟩ : ∃ y_ : List Int, y_ = (y124 ++ l0) := ⟨_, rfl⟩
      replace H : (some y127) = some r := by first | (rw [hy127]; with_reducible exact H) | (have H2_ := (Option.bind_some _ _).symm.trans H; rw [hy127]; with_reducible exact H2_) | (have H2_ := (Option.bind_some _ _).symm.trans H; with_reducible exact H2_) | with_reducible exact H | (rw [hy127]; exact H) | exact H
      have Ny127 := Aside0.mk hy127
      clear hy127
      obtain rfl := Option.some.inj H
      have hnil := fun (w_ : World) (a_ : Option Addr) (l_ c_ : Nat) => Go.run_eql_slice_nil (P := Try.prog) w_ 22 3 a_ l_ c_ Try.underlying22
      go_enter Try.func36, Try.ntmps36
      go_wp2_with (first | ((with_reducible refine gate_dst (N := 5) rfl ?_); refine Kd.R_lit (Kd.int .i64) _ 3 ?hg (N := 5) ?hd (xs := ([] : List Int)) (inner := []) (ok := fun _ => True) (okp := fun _ => True) ?hr ?hp (fun _ hk => hk) trivial (Below.refl _ _) (Nat.le_refl _) (by simp) ?_; (case hd => rfl); (case hg => rfl); (case hr => first | (go_simp; done) | (go_simp; rfl)); (case hp => exact (Reps.none _ _)); intro v125 w3 ho4 hb hg_ hnew_; clear hg_ hnew_; (first | rw [← Ny124.out] at ho4 | (simp only [Int.reduceToNat] at ho4; rw [← Ny124.out] at ho4)); have n0_ := Aside0.mk (Kd.R_lower ho4 (below_size (by repeat (first | (with_reducible first | exact HB.out | apply below_alloc | apply pw_below_drewN | apply below_drew1) | exact HB.out)))); have n1_ := Aside0.mk (below_step (by repeat (first | (with_reducible first | exact HB.out | apply below_alloc | apply pw_below_drewN | apply below_drew1) | exact HB.out)) hb); clear HB; have HO126 := n0_; have HB := n1_; clear n0_ n1_; clear hb ho4) | ((with_reducible refine gate_builtin (b := .append) (xs := #[.tmp 5, .tmp 6]) rfl ?_); at_builtin; refine Kd.R_append_rows (Kd.int .i64) (w0 := w) w.heap.size rfl (.tmp 5) (.tmp 6) 22 3 (.int .i64 0) 8 rfl Try.underlying22 info3 rfl (by decide) (by omega) v125 y124 l0 _ _ _ (fun _ => True) (fun _ => False) rfl rfl ?aO ?aR (fun _ _ h => h) (fun _ h => h.elim) ?aF ?aB ?aS ?aL ?_; (case aR => repeat (first | exact (Kd.C_below HR0.out HB.out) | (with_reducible refine Kd.C_alloc ?_ _) | (with_reducible refine Kd.C_drewN ?_ _) | (with_reducible refine Kd.C_drew ?_))); (case aB => exact (by repeat (first | (with_reducible first | exact HB.out | apply below_alloc | apply pw_below_drewN | apply below_drew1) | exact HB.out))); (case aF => exact (fun _ _ => trivial)); (case aO => exact (by (with_reducible repeat (first | apply Kd.R_alloc | apply Kd.R_drewN | apply Kd.R_drew)); exact HO126.out)); (case aS => exact (below_size (by repeat (first | (with_reducible first | exact HB.out | apply below_alloc | apply pw_below_drewN | apply below_drew1) | exact HB.out)))); (case aL => have := LMc2.out; omega); intro v128 w5 ho hb hg hat; rw [← Ny127.out] at ho; have n0_ := Aside0.mk (hb); have n1_ := Aside0.mk (ho); clear HB; clear HO126; have HB := n0_; have HO129 := n1_; clear n0_ n1_; clear ho hb hg hat))
      go_ret
      exact ⟨_, by first | rfl | (simp [errW_none, errW_some] <;> rfl) | (simp [*, errW_none, errW_some] <;> rfl), by (with_reducible repeat (first | apply Kd.R_alloc | apply Kd.R_drewN | apply Kd.R_drew)); exact HO129.out, by repeat (first | (with_reducible first | exact HB.out | apply below_alloc | apply pw_below_drewN | apply below_drew1) | exact HB.out)⟩
    · rw [if_neg c2] at H
      exact absurd H (by simp)

-- NOT PRINTED: function 35 (impl_starWays_1)

/-! ### impl_starWays: function 29 -/
--@import Derived.Test.YtcghheaelgjnfaaV0
open Go.Proofs.Ytcghheaelgjnfaa.My
--@import Derived.Deep.RegionHeld3

mutual
def impl_starWays_1.f : Nat → List Int → Int → List Int → List (List Int) → Option (List (List Int))
  | 0, _, _, _, _ => none
  | k + 1, x0, x1, x2, x3 => (impl_StarsFit.f k x0 x1 x2).bind fun b => (if b = true then (if (x2.length : Int) = x1 then (if x3.length < 4398046511104 then (some (x3 ++ [x2])) else none) else (impl_starWays_1.l0 k x0 x1 x2 x3 0)) else some x3)
def impl_starWays_1.l0 : Nat → List Int → Int → List Int → List (List Int) → Int → Option (List (List Int))
  | 0, _, _, _, _, _ => none
  | k + 1, x0, x1, x2, x3, x8 => if x8 < x1 then (if x2.length < 4398046511104 then ((impl_starWays_1.f k x0 x1 (x2 ++ [x8]) x3).bind fun z => (impl_starWays_1.l0 k x0 x1 x2 z (wrap64 (x8 + 1)))) else none) else (some x3)
end
theorem impl_starWays_1.mono_l : ∀ k, (∀ y0 y1 y2 y3, LeO (impl_starWays_1.f k y0 y1 y2 y3) (impl_starWays_1.f (k + 1) y0 y1 y2 y3)) ∧ (∀ y0 y1 y2 y3 y4, LeO (impl_starWays_1.l0 k y0 y1 y2 y3 y4) (impl_starWays_1.l0 (k + 1) y0 y1 y2 y3 y4))
  | 0 => ⟨fun _ _ _ _ r h => by simp [impl_starWays_1.f] at h, fun _ _ _ _ _ r h => by simp [impl_starWays_1.l0] at h⟩
  | k + 1 => by
    obtain ⟨ih0, ih1⟩ := impl_starWays_1.mono_l k
    refine ⟨?_, ?_⟩
    · intro y0 y1 y2 y3
      unfold impl_starWays_1.f
      repeat' first
      | (with_reducible exact ih0 _ _ _ _)
      | (with_reducible exact ih1 _ _ _ _ _)
      | (with_reducible exact impl_StarsFit.mono _ _ _ _)
      | (with_reducible exact LeO.refl _)
      | (with_reducible exact LeO.none _)
      | (with_reducible refine LeO.ite ?_ ?_)
      | (with_reducible refine LeO.bind ?_ (fun _ => ?_))
      | exact ih0 _ _ _ _
      | exact ih1 _ _ _ _ _
      | exact impl_StarsFit.mono _ _ _ _
      | exact LeO.none _
      | refine LeO.ite ?_ ?_
      | refine LeO.bind ?_ (fun _ => ?_)
    · intro y0 y1 y2 y3 y4
      unfold impl_starWays_1.l0
      repeat' first
      | (with_reducible exact ih0 _ _ _ _)
      | (with_reducible exact ih1 _ _ _ _ _)
      | (with_reducible exact impl_StarsFit.mono _ _ _ _)
      | (with_reducible exact LeO.refl _)
      | (with_reducible exact LeO.none _)
      | (with_reducible refine LeO.ite ?_ ?_)
      | (with_reducible refine LeO.bind ?_ (fun _ => ?_))
      | exact ih0 _ _ _ _
      | exact ih1 _ _ _ _ _
      | exact impl_StarsFit.mono _ _ _ _
      | exact LeO.none _
      | refine LeO.ite ?_ ?_
      | refine LeO.bind ?_ (fun _ => ?_)
theorem impl_starWays_1.mono : ∀ a0 a1 a2 a3 k, LeO (impl_starWays_1.f k a0 a1 a2 a3) (impl_starWays_1.f (k + 1) a0 a1 a2 a3) := by
  intro a0 a1 a2 a3 k
  obtain ⟨ih0, ih1⟩ := impl_starWays_1.mono_l k
  exact ih0 a0 a1 a2 a3
/-- What a call of the literal leaves. -/
def WaysPost (W0 : World) (g : Nat) (w : World) (r : List (List Int)) (e : Ending) (w' : World) : Prop :=
  e = .returned (.tuple #[]) ∧ Below W0.heap.size W0 w' ∧ Var (Kd.slice 3 (Kd.int .i64)) 22 40 g W0.heap.size w' r ∧ Keep [3, 48] w w'
set_option maxHeartbeats 8000000 in
set_option maxRecDepth 100000 in
theorem impl_starWays_1.calls (W0 : World) (ga gs g gt : Nat) (hg0 : W0.heap.size ≤ g) (A0 : Option Addr) (c0 : Nat) (l0 : List Int) (a1 : Int) (hr0 : Kd.C (Kd.int .i64) W0 A0 l0.length l0) (hc0 : l0.length ≤ c0)
    (hga : W0.heap[ga]? = some (.cells #[.slice A0 l0.length c0] 22 (0, 0))) (hgs : W0.heap[gs]? = some (.cells #[.int .i64 a1] 3 (0, 0))) (k : Nat) : ∀ (A2 : Option Addr) (c2 : Nat) (l2 : List Int) (l3 r : List (List Int)) (w : World) (hb : Below W0.heap.size W0 w)
    (hgt : w.heap[gt]? = some (.cells #[.func (.func 35) #[] #[.pointer (some ⟨ga, 0, none⟩), .pointer (some ⟨gs, 0, none⟩), .pointer (some ⟨g, 0, none⟩), .pointer (some ⟨gt, 0, none⟩)]] 48 (0, 0)))
    (hr2 : Kd.R (Kd.int .i64) 3 w W0.heap.size (fun _ => True) (.slice A2 l2.length c2) l2) (hv : Var (Kd.slice 3 (Kd.int .i64)) 22 40 g W0.heap.size w l3) (h : impl_starWays_1.f k l0 a1 l2 l3 = some r),
    Calls Try.prog 35 #[.slice A2 l2.length c2, .pointer (some ⟨ga, 0, none⟩), .pointer (some ⟨gs, 0, none⟩), .pointer (some ⟨g, 0, none⟩), .pointer (some ⟨gt, 0, none⟩)] w (WaysPost W0 g w r) := by
  induction k using Nat.strongRecOn with
  | _ k ih =>
  cases k with
  | zero => intro A2 c2 l2 l3 r w hb hgt hr2 hv h; exact absurd h (by simp [impl_starWays_1.f])
  | succ k =>
    intro A2 c2 l2 l3 r w hb hgt hr2 hv h
    rw [impl_starWays_1.f] at h
    have hi22 : (Try.prog.info? 22).map (fun i => (i.zero, i.size, i.bytes)) = some (some (.slice none 0 0), 1, 24) := by kernel_rfl
    have hi3 : (Try.prog.info? 3).map (fun i => (i.zero, i.size, i.bytes)) = some (some (.int .i64 0), 1, 8) := by kernel_rfl
    obtain ⟨b, h0, h⟩ := Option.bind_eq_some_iff.mp h
    have HF := Aside0.mk h0
    clear h0
    have HIH := Aside0.mk ih
    clear ih
    have HB := Aside0.mk hb
    have HGT := Aside0.mk hgt
    have HR := Aside0.mk hr2
    have HV := Aside0.mk hv
    have HGA := Aside0.mk hga
    have HGS := Aside0.mk hgs
    have HG0 := Aside0.mk hg0
    have ca : w.cell? ⟨ga, 0, none⟩ = some (.slice A0 l0.length c0) := blk_cell ((hb.block ga (lt_of_some hga)).trans hga) 0
    have cs : w.cell? ⟨gs, 0, none⟩ = some (.int .i64 a1) := blk_cell ((hb.block gs (lt_of_some hgs)).trans hgs) 0
    clear hb hgt hr2 hv hga hgs hg0
    cases b with
    | false =>
      rw [if_neg (by decide)] at h
      have e0 : l3 = r := Option.some.inj h
      subst e0
      clear h
      go_enter Try.func35, Try.ntmps35
      go_wp2_with (((with_reducible refine gate_callee (f := 12) rfl ?_); refine goesL_ (some 10) rfl rfl Try.func12 (by kernel_rfl) rfl #[.slice A0 l0.length c0, .int .i64 a1, .slice A2 l2.length c2] rfl (by (try simp only [List.map_toArray, List.map_cons, List.map_nil]); first | done | rfl) ?_; (with_reducible refine (impl_StarsFit.calls k A0 c0 l0 a1 A2 c2 l2 _ _ (Kd.C_below hr0 HB.out) hc0 (Kd.R_reads' HR.out).2.2 (Kd.R_reads' HR.out).2.1 HF.out).mono ?_); rintro e wb ⟨rfl, hd⟩; have HB0 := Aside0.mk hd; clear hd; refine ⟨_, rfl, ?_⟩))
      go_end0
      exact ⟨rfl, below_step HB.out HB0.out, HV.out.below HB0.out, (Keep.refl _ _).of_below HB0.out⟩
    | true =>
      rw [if_pos rfl] at h
      by_cases c1 : (l2.length : Int) = a1
      · rw [if_pos c1] at h
        by_cases c2' : l3.length < 4398046511104
        · rw [if_pos c2'] at h
          have LM := Aside0.mk c2'
          have e0 : l3 ++ [l2] = r := Option.some.inj h
          subst e0
          have b1 : ((l2.length : Int) == a1) = true := beq_iff_eq.mpr c1
          clear h c1 c2'
          go_enter Try.func35, Try.ntmps35
          go_wp2_with (first | ((with_reducible refine gate_callee (f := 12) rfl ?_); refine goesL_ (some 10) rfl rfl Try.func12 (by kernel_rfl) rfl #[.slice A0 l0.length c0, .int .i64 a1, .slice A2 l2.length c2] rfl (by (try simp only [List.map_toArray, List.map_cons, List.map_nil]); first | done | rfl) ?_; (with_reducible refine (impl_StarsFit.calls k A0 c0 l0 a1 A2 c2 l2 _ _ (Kd.C_below hr0 HB.out) hc0 (Kd.R_reads' HR.out).2.2 (Kd.R_reads' HR.out).2.1 HF.out).mono ?_); rintro e wb ⟨rfl, hd⟩; have HB0 := Aside0.mk hd; have cs1 : wb.cell? ⟨gs, 0, none⟩ = some (.int .i64 a1) := (hd.cell (p := ⟨gs, 0, none⟩) (by exact lt_of_some ((HB.out.block gs (lt_of_some HGS.out)).trans HGS.out))).trans cs; obtain ⟨vv, hvg, hvr⟩ := HV.out.below hd; obtain ⟨Adv, cdv, evv⟩ := Kd.R_slice hvr; subst evv; have HVG := Aside0.mk hvg; have HVR := Aside0.mk hvr; have cv1 : wb.cell? ⟨g, 0, none⟩ = some (.slice Adv l3.length cdv) := blk_cell hvg 0; clear hvg hvr; clear hd; refine ⟨_, rfl, ?_⟩) | ((with_reducible refine gate_builtin (b := .append) (xs := #[.tmp 16, .tmp 18]) rfl ?_); at_builtin; refine Kd.R_append (Kd.slice 3 (Kd.int .i64)) (w0 := W0) W0.heap.size rfl (.tmp 16) (.tmp 18) 40 22 (.slice none 0 0) 24 rfl Try.underlying40 hi22 rfl (by decide) (by omega) (.slice Adv l3.length cdv) l3 l2 [.slice A2 l2.length c2] (fun _ => True) (fun k => True ∧ some k ≠ (Value.slice Adv l3.length cdv).ownBlock) rfl rfl ?aP (fun _ hk => hk) ?aF ?aO ?aB ?aS ?aL ?_; (case aP => exact ⟨_, rfl, R_apart (Kd.R_below HR.out HB0.out) HVR.out (by simp [Kd.int, Kd.scalar])⟩); (case aF => exact fun _ _ => trivial); (case aO => exact HVR.out); (case aB => exact below_step HB.out HB0.out); (case aS => exact (below_step HB.out HB0.out).size); (case aL => have := LM.out; omega); intro v1 w1 ho hb hgr hat; obtain ⟨Ad1, cd1, ev1⟩ := Kd.R_slice ho; subst ev1; have HO := Aside0.mk ho; have HB1 := Aside0.mk hb; have HG1 := Aside0.mk hgr; have hg1 := blk_grown HVG.out hgr (Kd.R_ne HVR.out HVG.out (by decide)); have HGG := Aside0.mk hg1; have hfz1 := blk_frozen hg1 0; have hcell1 := blk_cell hg1 0; clear hg1 ho hb hgr hat))
          go_end0
          refine ⟨rfl, ?_, ⟨_, blk_put HGG.out 0 _ rfl, ?_⟩, ?_⟩
          · exact HB1.out.setCell HG0.out _
          · have h1 := Kd.R_set HO.out HGG.out (by simp [Kd.int, Kd.scalar, Kd.slice]) 0 (.slice Ad1 (l3.length + 1) cd1)
            rw [List.length_append, List.length_singleton] at h1
            exact h1
          · exact (((Keep.refl [3, 48] w).of_below HB0.out).grown HVR.out (by decide) HG1.out).set HGG.out (by decide) 0 _
        · rw [if_neg c2'] at h
          exact absurd h (by simp)
      · rw [if_neg c1] at h
        have b1 : ((l2.length : Int) == a1) = false := beq_eq_false_iff_ne.mpr c1
        have HH := Aside0.mk h
        clear h c1
        go_enter Try.func35, Try.ntmps35
        go_wp2_with (first | ((with_reducible refine gate_callee (f := 12) rfl ?_); refine goesL_ (some 10) rfl rfl Try.func12 (by kernel_rfl) rfl #[.slice A0 l0.length c0, .int .i64 a1, .slice A2 l2.length c2] rfl (by (try simp only [List.map_toArray, List.map_cons, List.map_nil]); first | done | rfl) ?_; (with_reducible refine (impl_StarsFit.calls k A0 c0 l0 a1 A2 c2 l2 _ _ (Kd.C_below hr0 HB.out) hc0 (Kd.R_reads' HR.out).2.2 (Kd.R_reads' HR.out).2.1 HF.out).mono ?_); rintro e wb ⟨rfl, hd⟩; have HB0 := Aside0.mk hd; have cs1 : wb.cell? ⟨gs, 0, none⟩ = some (.int .i64 a1) := (hd.cell (p := ⟨gs, 0, none⟩) (by exact lt_of_some ((HB.out.block gs (lt_of_some HGS.out)).trans HGS.out))).trans cs; clear hd; refine ⟨_, rfl, ?_⟩))
        go_loopg [21] k (fun kq v21 w' => ∃ (z : List (List Int)) (i : Int), v21 = .int .i64 i ∧ Aside0 (impl_starWays_1.l0 kq l0 a1 l2 z i = some r) ∧ Aside0 (kq ≤ k) ∧ Aside0 (Below W0.heap.size W0 w') ∧ Aside0 (Var (Kd.slice 3 (Kd.int .i64)) 22 40 g W0.heap.size w' z) ∧ Aside0 (Keep [3, 48] w w'))
        case atStart => exact ⟨l3, 0, rfl, HH, ⟨Nat.le_refl _⟩, ⟨below_step HB.out HB0.out⟩, ⟨HV.out.below HB0.out⟩, ⟨(Keep.refl _ _).of_below HB0.out⟩⟩
        case round =>
          clear HH HB HV HB0
          obtain ⟨z, i, rfl, HA, HK, HB, HV, HKp⟩ := hrel
          cases gk with
          | zero => exact absurd HA.out (by simp [impl_starWays_1.l0])
          | succ k1 =>
            have H := HA.out
            clear HA
            rw [impl_starWays_1.l0] at H
            by_cases c5 : i < a1
            · rw [if_pos c5] at H
              have c5b0 : decide (i < a1) = true := decide_eq_true c5
              clear c5
              by_cases c6 : l2.length < 4398046511104
              · rw [if_pos c6] at H
                have LM := Aside0.mk c6
                clear c6
                obtain ⟨y, hy⟩ : ∃ y_ : List Int, y_ = l2 ++ [i] := ⟨_, rfl⟩
                rw [← hy] at H
                obtain ⟨z2, Hz, H⟩ := Option.bind_eq_some_iff.mp H
                have Ny := Aside0.mk hy
                have HB0 := Aside0.mk (Below.refl wr.heap.size wr)
                have HZ := Aside0.mk Hz
                have HH := Aside0.mk H
                clear H Hz hy
                have HR1 := Aside0.mk (HKp.out.R (by simp [Kd.int, Kd.scalar]) HR.out)
                have HGT1 := Aside0.mk ((HKp.out.2 gt 48 _ (by decide) HGT.out).trans HGT.out)
                have HCL : Aside0 (slices_Clone_int_int.f l2 = some l2) := ⟨by unfold slices_Clone_int_int.f; have := LM.out; simp; omega⟩
                have cgt : wr.cell? ⟨gt, 0, none⟩ = some (.func (.func 35) #[] #[.pointer (some ⟨ga, 0, none⟩), .pointer (some ⟨gs, 0, none⟩), .pointer (some ⟨g, 0, none⟩), .pointer (some ⟨gt, 0, none⟩)]) := blk_cell HGT1.out 0
                go_wp2_with fail
                have HBd : Aside0 (Below wr.heap.size wr wr.drew) := ⟨below_drew1 (Below.refl _ _)⟩
                have HGd : Aside0 (wr.drew.heap[gt]? = some (Obj.cells #[(.func (.func 35) #[] #[.pointer (some ⟨ga, 0, none⟩), .pointer (some ⟨gs, 0, none⟩), .pointer (some ⟨g, 0, none⟩), .pointer (some ⟨gt, 0, none⟩)])] 48 (0, 0))) := ⟨HGT1.out⟩
                refine start_ (n := 7) (S := fun w' => w'.cell? ⟨gt, 0, none⟩ = some (.func (.func 35) #[] #[.pointer (some ⟨ga, 0, none⟩), .pointer (some ⟨gs, 0, none⟩), .pointer (some ⟨g, 0, none⟩), .pointer (some ⟨gt, 0, none⟩)])) (ds := []) #[false, false, false, false, false, false, false] (by kernel_rfl) rfl rfl (blk_cell HGd.out 0) (fun hHeld => ?_)
                generalize wr.drew = wd at HBd HGd hHeld ⊢
                clear cgt
                refine pure_ (i := 1) (N := some 25) (v := ?_) (a' := ?_) #[false, true, false, false, false, false, false] rfl rfl (by kernel_rfl) (fun _ _ _ h => h) (Or.inl ⟨by rfl, ?_⟩) ?_ ?_
                rotate_left
                · intro w'
                  go_simp
                  with_reducible rfl
                rotate_left
                · simp only [Act.put, List.setIfInBounds_toArray, List.set_cons_zero, List.set_cons_succ, i64_w, i32_w]
                  rfl
                refine pure_ (i := 3) (N := some 27) (v := ?_) (a' := ?_) #[false, true, false, true, false, false, false] rfl rfl (by kernel_rfl) (fun _ _ _ h => h) (Or.inl ⟨by rfl, ?_⟩) ?_ ?_
                rotate_left
                · intro w'
                  go_simp
                  with_reducible rfl
                rotate_left
                · simp only [Act.put, List.setIfInBounds_toArray, List.set_cons_zero, List.set_cons_succ, i64_w, i32_w]
                  rfl
                refine take_ (i := 0) (N := some 24) (v := ?_) (a' := ?_) #[true, true, false, true, false, false, false] rfl rfl (by kernel_rfl) (fun _ _ _ h => h) (Or.inl ⟨by rfl, ?_⟩) hHeld ?_ ?_
                rotate_left
                · rintro w' s0
                  go_simp
                  with_reducible rfl
                rotate_left
                · simp only [Act.put, List.setIfInBounds_toArray, List.set_cons_zero, List.set_cons_succ, i64_w, i32_w]
                  rfl
                refine two_ (i := 2) (j := 4) (Ni := some 26) (Nj := some 28) #[true, true, true, true, false, false, false] #[true, true, false, true, true, false, false] rfl rfl rfl rfl (by kernel_rfl) (by decide) (by decide) (fun K hK => ?_) (fun K hK => ?_)
                · refine goes_ Try.func36 (by kernel_rfl) rfl #[.slice A2 l2.length c2] (by rfl) rfl rfl (by (try simp only [List.map_toArray, List.map_cons, List.map_nil]); first | done | rfl) ?_
                  with_reducible refine (slices_Clone_int_int.calls A2 c2 l2 l2 _ (Kd.C_below (Kd.R_reads' HR1.out).2.2 HBd.out) (Kd.R_reads' HR1.out).2.1 HCL.out).mono ?_
                  rintro e wb ⟨v26, rfl, hv26, hd⟩
                  have HO26 := Aside0.mk hv26
                  have HB1 := Aside0.mk (below_step HBd.out hd)
                  have HGb := Aside0.mk (blk_below HGd.out hd)
                  clear hv26 hd
                  refine ⟨_, rfl, ?_⟩
                  refine hK.out _ _ (blk_cell HGb.out 0) (fun hHeld => ?_)
                  clear hK K
                  refine norm_ (a' := ?_) ?_ ?_
                  rotate_left
                  · show Act.put _ (some 26) _ = _
                    simp only [Act.put, List.setIfInBounds_toArray, List.set_cons_zero, List.set_cons_succ, i64_w, i32_w]
                    rfl
                  refine one_ (i := 4) (N := some 28) #[true, true, true, true, true, false, false] rfl rfl (by kernel_rfl) (by decide) (fun K hK => ?_)
                  refine event_step (v := .slice (some ⟨wb.heap.size, 0, none⟩) 1 1) (w1 := wb.alloc (Obj.cells #[.int .i64 i] 3)) (by rfl) ?_ ?_
                  · first | (go_simp; done) | (go_simp; rfl)
                  have HGw := Aside0.mk (blk_alloc HGb.out (Obj.cells #[.int .i64 i] 3))
                  have HBw := Aside0.mk (HB1.out.alloc HB1.out.size (Obj.cells #[.int .i64 i] 3))
                  have HNw := Aside0.mk (blk_new wb (Obj.cells #[.int .i64 i] 3))
                  have HOw := Aside0.mk (Kd.R_alloc HO26.out (Obj.cells #[.int .i64 i] 3))
                  refine hK.out _ _ (blk_cell HGw.out 0) (fun hHeld => ?_)
                  clear hK K
                  refine norm_ (a' := ?_) ?_ ?_
                  rotate_left
                  · show Act.put _ (some 28) _ = _
                    simp only [Act.put, List.setIfInBounds_toArray, List.set_cons_zero, List.set_cons_succ, i64_w, i32_w]
                    rfl
                  refine one_ (i := 5) (N := some 29) #[true, true, true, true, true, true, false] rfl rfl (by kernel_rfl) (by decide) (fun K hK => ?_)
                  refine int_lies_step (w0 := wr) (base := wr.heap.size) (ok := fun _ => True) rfl (.tmp 26) (.tmp 28) 22 3 rfl Try.underlying22 hi3 v26 l2 i wb.heap.size rfl rfl (Kd.R_lower HOw.out HBd.out.size) HNw.out HBw.out HBw.out.size (fun _ _ => trivial) (by have := LM.out; omega) ?_
                  intro v29 w3 ho hb hg
                  rw [← Ny.out] at ho
                  obtain ⟨An, cn, en⟩ := Kd.R_slice ho
                  subst en
                  have HO29 := Aside0.mk ho
                  have HB3 := Aside0.mk hb
                  have HG3 := Aside0.mk (blk_grown HGw.out hg (Kd.R_ne HOw.out HGw.out (by decide)))
                  clear ho hb hg
                  refine hK.out _ _ (blk_cell HG3.out 0) (fun hHeld => ?_)
                  clear hK K
                  refine norm_ (a' := ?_) ?_ ?_
                  rotate_left
                  · show Act.put _ (some 29) _ = _
                    simp only [Act.put, List.setIfInBounds_toArray, List.set_cons_zero, List.set_cons_succ, i64_w, i32_w]
                    rfl
                  refine one_ (i := 6) (N := some 30) #[true, true, true, true, true, true, true] rfl rfl (by kernel_rfl) (by decide) (fun K hK => ?_)
                  refine call_ 35 #[.slice An y.length cn, .pointer (some ⟨ga, 0, none⟩), .pointer (some ⟨gs, 0, none⟩), .pointer (some ⟨g, 0, none⟩), .pointer (some ⟨gt, 0, none⟩)] (by rfl) rfl ?_ ?_
                  · first | (go_simp; done) | (go_simp; rfl)
                  with_reducible refine (HIH.out k1 (by have := HK.out; omega) An cn y z z2 _ (below_step HB.out HB3.out) HG3.out (Kd.R_lower HO29.out HB.out.size) (HV.out.below HB3.out) HZ.out).mono ?_
                  rintro e wc ⟨rfl, hd1, hd2, hd3⟩
                  have HB4 := Aside0.mk hd1
                  have HV4 := Aside0.mk hd2
                  have HKp4 := Aside0.mk ((HKp.out.of_below HB3.out).trans hd3)
                  have HG4 := Aside0.mk ((hd3.2 gt 48 _ (by decide) HG3.out).trans HG3.out)
                  clear hd1 hd2 hd3
                  refine ⟨_, rfl, ?_⟩
                  refine hK.out _ _ (blk_cell HG4.out 0) (fun hHeld => ?_)
                  clear hK K
                  refine norm_ (a' := ?_) ?_ ?_
                  rotate_left
                  · show Act.put _ (some 30) _ = _
                    simp only [Act.put, List.setIfInBounds_toArray, List.set_cons_zero, List.set_cons_succ, i64_w, i32_w]
                    rfl
                  refine done_ (by kernel_rfl) ?_
                  go_wp2
                  go_roundg k1
                  case measure => have := HK.out; omega
                  case rel => exact ⟨z2, wrap64 (i + 1), rfl, HH, ⟨by have := HK.out; omega⟩, ⟨HB4.out⟩, ⟨HV4.out⟩, ⟨HKp4.out⟩⟩
                · refine event_step (v := .slice (some ⟨wd.heap.size, 0, none⟩) 1 1) (w1 := wd.alloc (Obj.cells #[.int .i64 i] 3)) (by rfl) ?_ ?_
                  · first | (go_simp; done) | (go_simp; rfl)
                  have HGw := Aside0.mk (blk_alloc HGd.out (Obj.cells #[.int .i64 i] 3))
                  have HBw := Aside0.mk (HBd.out.alloc HBd.out.size (Obj.cells #[.int .i64 i] 3))
                  have HNw := Aside0.mk (blk_new wd (Obj.cells #[.int .i64 i] 3))
                  refine hK.out _ _ (blk_cell HGw.out 0) (fun hHeld => ?_)
                  clear hK K
                  refine norm_ (a' := ?_) ?_ ?_
                  rotate_left
                  · show Act.put _ (some 28) _ = _
                    simp only [Act.put, List.setIfInBounds_toArray, List.set_cons_zero, List.set_cons_succ, i64_w, i32_w]
                    rfl
                  refine one_ (i := 2) (N := some 26) #[true, true, true, true, true, false, false] rfl rfl (by kernel_rfl) (by decide) (fun K hK => ?_)
                  refine goes_ Try.func36 (by kernel_rfl) rfl #[.slice A2 l2.length c2] (by rfl) rfl rfl (by (try simp only [List.map_toArray, List.map_cons, List.map_nil]); first | done | rfl) ?_
                  with_reducible refine (slices_Clone_int_int.calls A2 c2 l2 l2 _ (Kd.C_below (Kd.R_reads' HR1.out).2.2 HBw.out) (Kd.R_reads' HR1.out).2.1 HCL.out).mono ?_
                  rintro e wb ⟨v26, rfl, hv26, hd⟩
                  have HO26 := Aside0.mk hv26
                  have HB1 := Aside0.mk (below_step HBw.out hd)
                  have HGb := Aside0.mk (blk_below HGw.out hd)
                  have HNb := Aside0.mk (blk_below HNw.out hd)
                  clear hv26 hd
                  refine ⟨_, rfl, ?_⟩
                  refine hK.out _ _ (blk_cell HGb.out 0) (fun hHeld => ?_)
                  clear hK K
                  refine norm_ (a' := ?_) ?_ ?_
                  rotate_left
                  · show Act.put _ (some 26) _ = _
                    simp only [Act.put, List.setIfInBounds_toArray, List.set_cons_zero, List.set_cons_succ, i64_w, i32_w]
                    rfl
                  refine one_ (i := 5) (N := some 29) #[true, true, true, true, true, true, false] rfl rfl (by kernel_rfl) (by decide) (fun K hK => ?_)
                  refine int_lies_step (w0 := wr) (base := wr.heap.size) (ok := fun _ => True) rfl (.tmp 26) (.tmp 28) 22 3 rfl Try.underlying22 hi3 v26 l2 i wd.heap.size rfl rfl (Kd.R_lower HO26.out HBw.out.size) HNb.out HB1.out HB1.out.size (fun _ _ => trivial) (by have := LM.out; omega) ?_
                  intro v29 w3 ho hb hg
                  rw [← Ny.out] at ho
                  obtain ⟨An, cn, en⟩ := Kd.R_slice ho
                  subst en
                  have HO29 := Aside0.mk ho
                  have HB3 := Aside0.mk hb
                  have HG3 := Aside0.mk (blk_grown HGb.out hg (Kd.R_ne HO26.out HGb.out (by decide)))
                  clear ho hb hg
                  refine hK.out _ _ (blk_cell HG3.out 0) (fun hHeld => ?_)
                  clear hK K
                  refine norm_ (a' := ?_) ?_ ?_
                  rotate_left
                  · show Act.put _ (some 29) _ = _
                    simp only [Act.put, List.setIfInBounds_toArray, List.set_cons_zero, List.set_cons_succ, i64_w, i32_w]
                    rfl
                  refine one_ (i := 6) (N := some 30) #[true, true, true, true, true, true, true] rfl rfl (by kernel_rfl) (by decide) (fun K hK => ?_)
                  refine call_ 35 #[.slice An y.length cn, .pointer (some ⟨ga, 0, none⟩), .pointer (some ⟨gs, 0, none⟩), .pointer (some ⟨g, 0, none⟩), .pointer (some ⟨gt, 0, none⟩)] (by rfl) rfl ?_ ?_
                  · first | (go_simp; done) | (go_simp; rfl)
                  with_reducible refine (HIH.out k1 (by have := HK.out; omega) An cn y z z2 _ (below_step HB.out HB3.out) HG3.out (Kd.R_lower HO29.out HB.out.size) (HV.out.below HB3.out) HZ.out).mono ?_
                  rintro e wc ⟨rfl, hd1, hd2, hd3⟩
                  have HB4 := Aside0.mk hd1
                  have HV4 := Aside0.mk hd2
                  have HKp4 := Aside0.mk ((HKp.out.of_below HB3.out).trans hd3)
                  have HG4 := Aside0.mk ((hd3.2 gt 48 _ (by decide) HG3.out).trans HG3.out)
                  clear hd1 hd2 hd3
                  refine ⟨_, rfl, ?_⟩
                  refine hK.out _ _ (blk_cell HG4.out 0) (fun hHeld => ?_)
                  clear hK K
                  refine norm_ (a' := ?_) ?_ ?_
                  rotate_left
                  · show Act.put _ (some 30) _ = _
                    simp only [Act.put, List.setIfInBounds_toArray, List.set_cons_zero, List.set_cons_succ, i64_w, i32_w]
                    rfl
                  refine done_ (by kernel_rfl) ?_
                  go_wp2
                  go_roundg k1
                  case measure => have := HK.out; omega
                  case rel => exact ⟨z2, wrap64 (i + 1), rfl, HH, ⟨by have := HK.out; omega⟩, ⟨HB4.out⟩, ⟨HV4.out⟩, ⟨HKp4.out⟩⟩
              · rw [if_neg c6] at H
                exact absurd H (by simp)
            · rw [if_neg c5] at H
              have c5b0 : decide (i < a1) = false := decide_eq_false c5
              clear c5
              have e0 : z = r := Option.some.inj H
              subst e0
              go_wp2_with fail
              go_end0
              exact ⟨rfl, HB.out, HV.out, HKp.out⟩
--@import Derived.Laws.EntriesVeiled
--@import Derived.Laws.EntriesVeiled
def impl_starWays.f (k : Nat) (l0 : List Int) (a1 : Int) : Option (List (List Int)) := impl_starWays_1.f k l0 a1 [] []
theorem impl_starWays.mono : ∀ a0 a1 k, LeO (impl_starWays.f k a0 a1) (impl_starWays.f (k + 1) a0 a1) := by
  intro a0 a1 k
  unfold impl_starWays.f
  repeat' first
      | (with_reducible exact impl_starWays_1.mono _ _ _ _ _)
      | (with_reducible exact LeO.refl _)
      | (with_reducible exact LeO.none _)
      | (with_reducible refine LeO.ite ?_ ?_)
      | (with_reducible refine LeO.bind ?_ (fun _ => ?_))
      | exact impl_starWays_1.mono _ _ _ _ _
      | exact LeO.none _
      | refine LeO.ite ?_ ?_
      | refine LeO.bind ?_ (fun _ => ?_)
set_option maxHeartbeats 8000000 in
set_option maxRecDepth 100000 in
theorem impl_starWays.calls (k : Nat) (A0 : Option Addr) (c0 : Nat) (l0 : List Int) (a1 : Int) (r : List (List Int)) (w : World) (hr0 : Kd.C (Kd.int .i64) w A0 l0.length l0) (hc0 : l0.length ≤ c0) (h : impl_starWays.f k l0 a1 = some r) :
    Calls Try.prog 29 #[.slice A0 l0.length c0, .int .i64 a1] w fun e w' => ∃ v0_ : Value, e = .returned (v0_) ∧ Kd.R (Kd.slice 3 (Kd.int .i64)) 22 w' w.heap.size (fun _ => True) v0_ r ∧ Below w.heap.size w w' := by
  have HZ : Aside0 (impl_starWays_1.f k l0 a1 [] [] = some r) := ⟨h⟩
  have HB0 := Aside0.mk (Below.refl w.heap.size w)
  clear h
  obtain ⟨W1, hW1⟩ : ∃ W1 : World, W1 = (w.alloc (Obj.cells #[.slice A0 l0.length c0] 22)).alloc (Obj.cells #[.int .i64 a1] 3) := ⟨_, rfl⟩
  have HW1 := Aside0.mk hW1
  have hsz : W1.heap.size = w.heap.size + 2 := by rw [hW1]; simp
  have HS1 := Aside0.mk hsz
  have HGA : Aside0 (W1.heap[w.heap.size]? = some (Obj.cells #[.slice A0 l0.length c0] 22 (0, 0))) := ⟨by rw [hW1]; exact blk_alloc (blk_new _ _) _⟩
  have HGS : Aside0 (W1.heap[w.heap.size + 1]? = some (Obj.cells #[.int .i64 a1] 3 (0, 0))) := ⟨by rw [hW1]; have h1 := blk_new (w.alloc (Obj.cells #[.slice A0 l0.length c0] 22)) (Obj.cells #[.int .i64 a1] 3); simpa using h1⟩
  have HBW : Aside0 (Below w.heap.size w W1) := ⟨by rw [hW1]; exact ((Below.refl _ _).alloc (Nat.le_refl _) _).alloc (by simp) _⟩
  have HR : Aside0 (Kd.C (Kd.int .i64) W1 A0 l0.length l0) := ⟨Kd.C_below hr0 HBW.out⟩
  have HB1 := Aside0.mk (Below.refl W1.heap.size W1)
  clear hW1 hsz
  go_enter Try.func29, Try.ntmps29
  go_wp2_with (first | ((with_reducible refine gate_dst (N := 7) rfl ?_); rw [← HW1.out]; refine Kd.R_lit (Kd.slice 3 (Kd.int .i64)) (w0 := W1) W1.heap.size 22 ?hg (N := 7) ?hd (xs := ([] : List (List Int))) (inner := []) (ok := fun _ => True) (okp := fun _ => True) ?hr ?hp (fun _ hk => hk) trivial HB1.out (Nat.le_refl _) (by simp) ?_; (case hd => rfl); (case hg => rfl); (case hr => first | (go_simp; done) | (go_simp; rfl)); (case hp => exact Reps.none _ _); intro v7 w1 ho hb hg_ hnew_; obtain ⟨Ad7, cd7, ev7⟩ := Kd.R_slice ho; subst ev7; have HV7 := Aside0.mk ho; have HB2 := Aside0.mk hb; clear ho hb hg_ hnew_) | (go_at_call 35; refine (impl_starWays_1.calls W1 w.heap.size (w.heap.size + 1) w1.heap.size (w1.heap.size + 1) HB2.out.size A0 c0 l0 a1 HR.out hc0 HGA.out HGS.out k none 0 [] [] r _ ((HB2.out.alloc HB2.out.size _).alloc (by have := HB2.out.size; simp; omega) _) (by have h1 := blk_new (w1.alloc (Obj.cells #[Value.slice Ad7 0 cd7] 40)) (Obj.cells #[.func (.func 35) #[] #[.pointer (some ⟨w.heap.size, 0, none⟩), .pointer (some ⟨w.heap.size + 1, 0, none⟩), .pointer (some ⟨w1.heap.size, 0, none⟩), .pointer (some ⟨w1.heap.size + 1, 0, none⟩)]] 48); simpa using h1) (Kd.R_nil _ _ _ _ _) ⟨_, blk_alloc (blk_new _ _) _, Kd.R_alloc (Kd.R_alloc HV7.out _) _⟩ HZ.out).mono ?_; rintro e wb ⟨rfl, hd1, ⟨vz, hz, hrz⟩, hd3⟩; have hcz : wb.cell? ⟨w1.heap.size, 0, none⟩ = some vz := blk_cell hz 0; have HBz := Aside0.mk hd1; have HVz := Aside0.mk hrz; clear hd1 hz hrz hd3))
  go_ret
  exact ⟨_, rfl, Kd.R_lower HVz.out HBW.out.size, below_then HBW.out HBW.out.size HBz.out⟩

/-! ### impl_StarsFirst: function 17 -/
def impl_StarsFirst.f (k : Nat) (l0 : List Int) (a1 : Int) : Option (List Int × Bool) := (impl_AreasValid.f k l0 a1).bind fun t130 => (if t130 = true then ((impl_starWays.f k l0 a1).bind fun t131 => (if (t131.length : Int) = 0 then (some (([] : List Int), false)) else (if 0 < (t131.length : Int) then (some (rd_L1 t131 0, true)) else (none)))) else (some (([] : List Int), false)))
theorem impl_StarsFirst.mono : ∀ a0 a1 k, LeO (impl_StarsFirst.f k a0 a1) (impl_StarsFirst.f (k + 1) a0 a1) := by
  intro a0 a1 k
  unfold impl_StarsFirst.f
  repeat' first
      | (with_reducible exact impl_AreasValid.mono _ _ _)
      | (with_reducible exact impl_starWays.mono _ _ _)
      | (with_reducible exact LeO.refl _)
      | (with_reducible exact LeO.none _)
      | (with_reducible refine LeO.ite ?_ ?_)
      | (with_reducible refine LeO.bind ?_ (fun _ => ?_))
      | exact impl_AreasValid.mono _ _ _
      | exact impl_starWays.mono _ _ _
      | exact LeO.none _
      | refine LeO.ite ?_ ?_
      | refine LeO.bind ?_ (fun _ => ?_)
set_option maxHeartbeats 8000000 in
set_option maxRecDepth 100000 in
theorem impl_StarsFirst.calls (k : Nat) (A0 : Option Addr) (c0 : Nat) (l0 : List Int) (a1 : Int) (r1 : List Int) (r2 : Bool) (w : World) (hr0 : Kd.C (Kd.int .i64) w A0 l0.length l0) (hc0 : l0.length ≤ c0) (h : impl_StarsFirst.f k l0 a1 = some (r1, r2)) :
    Calls Try.prog 17 #[.slice A0 l0.length c0, .int .i64 a1] w fun e w' => ∃ v0_ : Value, e = .returned (.tuple #[v0_, .bool r2]) ∧ Kd.R (Kd.int .i64) 3 w' w.heap.size (fun _ => True) v0_ r1 ∧ Below w.heap.size w w' := by
  have HR0 := Aside0.mk hr0
  have HC0 := Aside0.mk hc0
  clear hr0 hc0
  have HB := Aside0.mk (Below.refl w.heap.size w)
  have H : ((impl_AreasValid.f k l0 a1).bind fun t130 => (if t130 = true then ((impl_starWays.f k l0 a1).bind fun t131 => (if (t131.length : Int) = 0 then (some (([] : List Int), false)) else (if 0 < (t131.length : Int) then (some (rd_L1 t131 0, true)) else (none)))) else (some (([] : List Int), false)))) = some (r1, r2) := h
  clear h
  replace H := Option.bind_eq_some_iff.mp H
  obtain ⟨t130, A30, H⟩ := H
  replace H : (if t130 = true then ((impl_starWays.f k l0 a1).bind fun t131 => (if (t131.length : Int) = 0 then (some (([] : List Int), false)) else (if 0 < (t131.length : Int) then (some (rd_L1 t131 0, true)) else (none)))) else (some (([] : List Int), false))) = some (r1, r2) := H
  have A3 := Aside0.mk A30
  clear A30
  by_cases c4 : t130 = true
  · subst c4
    have H1 : ((impl_starWays.f k l0 a1).bind fun t131 => (if (t131.length : Int) = 0 then (some (([] : List Int), false)) else (if 0 < (t131.length : Int) then (some (rd_L1 t131 0, true)) else (none)))) = some (r1, r2) := by rw [if_pos rfl] at H; exact H
    clear H
    have H := H1
    clear H1
    replace H := Option.bind_eq_some_iff.mp H
    obtain ⟨t131, A50, H⟩ := H
    replace H : (if (t131.length : Int) = 0 then (some (([] : List Int), false)) else (if 0 < (t131.length : Int) then (some (rd_L1 t131 0, true)) else (none))) = some (r1, r2) := H
    have A5 := Aside0.mk A50
    clear A50
    by_cases c6 : (t131.length : Int) = 0
    · rw [if_pos c6] at H
      have c6b0 : ((t131.length : Int) == 0) = true := beq_iff_eq.mpr c6
      have c6b1 : ((t131.length : Int) != 0) = false := bne_eq_false_iff_eq.mpr c6
      clear c6
      simp only [Option.some.injEq, Prod.mk.injEq] at H
      obtain ⟨rfl, rfl⟩ := H
      go_enter Try.func17, Try.ntmps17
      go_wp2_with (first | ((with_reducible refine gate_callee (f := 27) rfl ?_); refine goesL_ (some 9) rfl rfl Try.func27 (by kernel_rfl) rfl #[.slice A0 l0.length c0, .int .i64 a1] rfl (by (try simp only [List.map_toArray, List.map_cons, List.map_nil]); first | done | rfl | (simp only [List.length_drop, List.length_take]; rfl)) ?_; (with_reducible refine (impl_AreasValid.calls k _ _ l0 a1 true _ ?side1 ?side2 A3.out).mono ?_); (case side1 => repeat (first | exact HR0.out | (with_reducible refine Kd.C_alloc ?_ _) | (with_reducible refine Kd.C_drewN ?_ _) | (with_reducible refine Kd.C_drew ?_))); (case side2 => exact HC0.out); rintro e w' ⟨rfl, ⟨nd, rfl⟩⟩; refine ⟨_, rfl, ?_⟩) | ((with_reducible refine gate_callee (f := 29) rfl ?_); refine goesL_ (some 13) rfl rfl Try.func29 (by kernel_rfl) rfl #[.slice A0 l0.length c0, .int .i64 a1] rfl (by (try simp only [List.map_toArray, List.map_cons, List.map_nil]); first | done | rfl | (simp only [List.length_drop, List.length_take]; rfl)) ?_; (with_reducible refine (impl_starWays.calls k _ _ l0 a1 t131 _ ?side1 ?side2 A5.out).mono ?_); (case side1 => repeat (first | exact HR0.out | (with_reducible refine Kd.C_alloc ?_ _) | (with_reducible refine Kd.C_drewN ?_ _) | (with_reducible refine Kd.C_drew ?_))); (case side2 => exact HC0.out); rintro e w7 ⟨v132, rfl, ho0, hb⟩; refine ⟨_, rfl, ?_⟩; have n0_ := Aside0.mk (Kd.R_lower ho0 (below_size (by repeat (first | (with_reducible first | exact HB.out | apply below_alloc | apply pw_below_drewN | apply below_drew1) | exact HB.out)))); have n1_ := Aside0.mk (below_step (by repeat (first | (with_reducible first | exact HB.out | apply below_alloc | apply pw_below_drewN | apply below_drew1) | exact HB.out)) hb); clear HB; have HO133 := n0_; have HB := n1_; clear n0_ n1_; (try clear hb); (try clear hb2); (try clear hk); (try clear hi); (try clear ho0); obtain ⟨Ao8, co8, eo8⟩ := Kd.R_slice HO133.out; subst eo8))
      go_ret2
      exact ⟨_, by first | rfl | (simp [errW_none, errW_some] <;> rfl) | (simp [*, errW_none, errW_some] <;> rfl), by first | exact Kd.R_nil _ _ _ _ _ | exact Kd.N_nil _ _ _ _ _ | exact Kd.V_nil _ _ _ _ _ | exact Kd.Q_nil _ _ _ _ _ | exact Kd.S_nil _ _ _ _ _, by repeat (first | (with_reducible first | exact HB.out | apply below_alloc | apply pw_below_drewN | apply below_drew1) | exact HB.out)⟩
    · rw [if_neg c6] at H
      have c6b0 : ((t131.length : Int) == 0) = false := beq_eq_false_iff_ne.mpr c6
      have c6b1 : ((t131.length : Int) != 0) = true := bne_iff_ne.mpr c6
      have c6b2 : ¬ (t131 = []) := fun h_ => c6 (by rw [h_]; rfl)
      by_cases c9 : 0 < (t131.length : Int)
      · rw [if_pos c9] at H
        have c9b0 : decide (0 < (t131.length : Int)) = true := decide_eq_true c9
        have c9b1 : decide (0 < t131.length) = true := decide_eq_true (by omega)
        clear c9
        simp only [Option.some.injEq, Prod.mk.injEq] at H
        obtain ⟨rfl, rfl⟩ := H
        go_enter Try.func17, Try.ntmps17
        go_wp2_with (first | ((with_reducible refine gate_callee (f := 27) rfl ?_); refine goesL_ (some 9) rfl rfl Try.func27 (by kernel_rfl) rfl #[.slice A0 l0.length c0, .int .i64 a1] rfl (by (try simp only [List.map_toArray, List.map_cons, List.map_nil]); first | done | rfl | (simp only [List.length_drop, List.length_take]; rfl)) ?_; (with_reducible refine (impl_AreasValid.calls k _ _ l0 a1 true _ ?side1 ?side2 A3.out).mono ?_); (case side1 => repeat (first | exact HR0.out | (with_reducible refine Kd.C_alloc ?_ _) | (with_reducible refine Kd.C_drewN ?_ _) | (with_reducible refine Kd.C_drew ?_))); (case side2 => exact HC0.out); rintro e w' ⟨rfl, ⟨nd, rfl⟩⟩; refine ⟨_, rfl, ?_⟩) | ((with_reducible refine gate_callee (f := 29) rfl ?_); refine goesL_ (some 13) rfl rfl Try.func29 (by kernel_rfl) rfl #[.slice A0 l0.length c0, .int .i64 a1] rfl (by (try simp only [List.map_toArray, List.map_cons, List.map_nil]); first | done | rfl | (simp only [List.length_drop, List.length_take]; rfl)) ?_; (with_reducible refine (impl_starWays.calls k _ _ l0 a1 t131 _ ?side1 ?side2 A5.out).mono ?_); (case side1 => repeat (first | exact HR0.out | (with_reducible refine Kd.C_alloc ?_ _) | (with_reducible refine Kd.C_drewN ?_ _) | (with_reducible refine Kd.C_drew ?_))); (case side2 => exact HC0.out); rintro e w10 ⟨v132, rfl, ho0, hb⟩; refine ⟨_, rfl, ?_⟩; have n0_ := Aside0.mk (Kd.R_lower ho0 (below_size (by repeat (first | (with_reducible first | exact HB.out | apply below_alloc | apply pw_below_drewN | apply below_drew1) | exact HB.out)))); have n1_ := Aside0.mk (below_step (by repeat (first | (with_reducible first | exact HB.out | apply below_alloc | apply pw_below_drewN | apply below_drew1) | exact HB.out)) hb); clear HB; have HO133 := n0_; have HB := n1_; clear n0_ n1_; (try clear hb); (try clear hb2); (try clear hk); (try clear hi); (try clear ho0); obtain ⟨Ao11, co11, eo11⟩ := Kd.R_slice HO133.out; subst eo11; have p134 : 0 ≤ (0 : Int) := (by omega); have q134 : 0 < (t131.length : Int) := of_decide_eq_true (by first | (with_reducible assumption) | assumption); obtain ⟨ad134, A134_0, c134_0, e134, hx134_0, hl134_0, hi134_0⟩ := at_L1 (Kd.R_reads' HO133.out).2.2 0 p134 q134; cases e134; obtain ⟨ce134, hce134, hMe134, hcc134⟩ := Kd.R_get HO133.out [] 0 p134 (by first | exact q134 | exact of_decide_eq_true (by first | (with_reducible assumption) | assumption) | (have e_ := (Kd.R_reads' HO133.out).1; omega)); obtain ⟨ve134_0, rfl, ge134_0⟩ := hMe134; have hv134_0 := hcc134 0 _ rfl; rw [Nat.add_zero, show ((Kd.slice 3 (Kd.int .i64))).sz = 1 from rfl, Nat.mul_one] at hv134_0; replace hv134_0 := Option.some.inj (hv134_0.symm.trans hx134_0); rw [hv134_0] at ge134_0; have HL134_0 := Aside0.mk (show Kd.R (Kd.int .i64) 3 _ _ _ _ (rd_L1 t131 0) from ge134_0); clear hv134_0 ge134_0; clear hcc134 hce134; have qi134 : (0 < t131.length) = True := eq_true (by omega); (try rw [show ((0 : Int)).toNat = 0 from rfl] at hx134_0); (try rw [Addr.add_zero'] at hx134_0); have HR134_0 := Aside0.mk hi134_0; have HC134_0 := Aside0.mk hl134_0; clear hi134_0 hl134_0; replace p134 := eq_true p134; replace q134 := eq_true q134))
        go_ret2
        exact ⟨_, by first | rfl | (simp [errW_none, errW_some] <;> rfl) | (simp [*, errW_none, errW_some] <;> rfl), by (with_reducible repeat (first | apply Kd.R_alloc | apply Kd.R_drewN | apply Kd.R_drew)); exact Kd.R_mono HL134_0.out (fun _ hk => trivial), by repeat (first | (with_reducible first | exact HB.out | apply below_alloc | apply pw_below_drewN | apply below_drew1) | exact HB.out)⟩
      · rw [if_neg c9] at H
        exact absurd H (by simp)
  · replace c4 := Bool.eq_false_iff.mpr c4
    subst c4
    have H1 : (some (([] : List Int), false)) = some (r1, r2) := by rw [if_neg (show ¬ (false = true) by decide)] at H; exact H
    clear H
    have H := H1
    clear H1
    simp only [Option.some.injEq, Prod.mk.injEq] at H
    obtain ⟨rfl, rfl⟩ := H
    go_enter Try.func17, Try.ntmps17
    go_wp2_with (first | ((with_reducible refine gate_callee (f := 27) rfl ?_); refine goesL_ (some 9) rfl rfl Try.func27 (by kernel_rfl) rfl #[.slice A0 l0.length c0, .int .i64 a1] rfl (by (try simp only [List.map_toArray, List.map_cons, List.map_nil]); first | done | rfl | (simp only [List.length_drop, List.length_take]; rfl)) ?_; (with_reducible refine (impl_AreasValid.calls k _ _ l0 a1 false _ ?side1 ?side2 A3.out).mono ?_); (case side1 => repeat (first | exact HR0.out | (with_reducible refine Kd.C_alloc ?_ _) | (with_reducible refine Kd.C_drewN ?_ _) | (with_reducible refine Kd.C_drew ?_))); (case side2 => exact HC0.out); rintro e w' ⟨rfl, ⟨nd, rfl⟩⟩; refine ⟨_, rfl, ?_⟩))
    go_ret2
    exact ⟨_, by first | rfl | (simp [errW_none, errW_some] <;> rfl) | (simp [*, errW_none, errW_some] <;> rfl), by first | exact Kd.R_nil _ _ _ _ _ | exact Kd.N_nil _ _ _ _ _ | exact Kd.V_nil _ _ _ _ _ | exact Kd.Q_nil _ _ _ _ _ | exact Kd.S_nil _ _ _ _ _, by repeat (first | (with_reducible first | exact HB.out | apply below_alloc | apply pw_below_drewN | apply below_drew1) | exact HB.out)⟩

/-! ### impl_sizeOk: function 39 -/
def impl_sizeOk.f (a0 : Int) : Option (Bool) := if a0 ≥ 2 then (some (decide (a0 ≤ 4))) else (some false)
set_option maxHeartbeats 8000000 in
set_option maxRecDepth 100000 in
theorem impl_sizeOk.calls (a0 : Int) (r : Bool) (w : World) (h : impl_sizeOk.f a0 = some r) :
    Calls Try.prog 39 #[.int .i64 a0] w fun e w' => e = .returned (.bool r) ∧ Drawn0 w w' := by
  have H : (if a0 ≥ 2 then (some (decide (a0 ≤ 4))) else (some false)) = some r := h
  clear h
  by_cases c2 : a0 ≥ 2
  · rw [if_pos c2] at H
    have c2b0 : decide (2 ≤ a0) = true := decide_eq_true c2
    clear c2
    obtain rfl := Option.some.inj H
    go_enter Try.func39, Try.ntmps39
    go_wp2
    go_ret
    exact ⟨by first | rfl | (simp; done) | (simp [*]; done), by repeat (first | exact Drawn0.refl _ | apply Drawn0.step)⟩
  · rw [if_neg c2] at H
    have c2b0 : decide (2 ≤ a0) = false := decide_eq_false c2
    clear c2
    obtain rfl := Option.some.inj H
    go_enter Try.func39, Try.ntmps39
    go_wp2
    go_ret
    exact ⟨by first | rfl | (simp; done) | (simp [*]; done), by repeat (first | exact Drawn0.refl _ | apply Drawn0.step)⟩

end Go.Proofs.Ytcghheaelgjnfaa.PFnStarsFirst
