-- Made by a program of this session (the kit print, shortened, twice): the kit print itself does not give this text
import Derived.Test.YtapnohcfnclleaaV4
import Derived.Test.YtapnohcfnclleaaPFnPictureLinesx0
import Derived.Test.YtapnohcfnclleaaPFnPictureLinesx7
import Derived.Test.YtapnohcfnclleaaPFnPictureLinesx13
import Derived.Deep.RegionHeld3
import Derived.Laws.EntriesVeiled
import Derived.Test.YtapnohcfnclleaaV2
namespace Go.Proofs.Ytapnohcfnclleaa.PFnPictureLines
open Go.RowKit Go.Proofs.YtapnohcfnclleaaW.PrintWords Go.Proofs.YtapnohcfnclleaaW.PrintLast Go.Proofs.YtapnohcfnclleaaW.PrintMore
attribute [local go_sem] max2_int min2_int max_two min_two max_three min_three max_four min_four   -- for this text's walks alone
set_option linter.unusedVariables false
set_option linter.unusedSimpArgs false
/-! ### impl_firstPictures: function 54 -/
--@import Derived.Test.YtapnohcfnclleaaV2
open Go.Proofs.Ytapnohcfnclleaa.My
--@import Derived.Deep.RegionHeld3
mutual
def impl_firstPictures_1.f : Nat → List (List Int) → List (List Int) → List Int → Int → List Int → List (List Int) → Option (List (List Int))
 | 0, _, _, _, _, _, _ => none
 | k + 1, x0, x1, x2, x3, x4, x5 => (impl_firstPictures_1.l0 k x0 x1 x4 0).bind fun b => (if b = true then (some x5) else (if (x4.length : Int) = (x0.length : Int) then (if x5.length < 4398046511104 then (some (x5 ++ [x4])) else none) else (if (x4.length : Int) < (x0.length : Int) then ((impl_linesFor.f k (rd_L1 x0 (x4.length : Int)) x2).bind fun y => (impl_firstPictures_1.l2 k x0 x1 x2 x3 x4 y x5 0)) else none)))
def impl_firstPictures_1.l0 : Nat → List (List Int) → List (List Int) → List Int → Int → Option Bool
 | 0, _, _, _, _ => none
 | k + 1, x0, x1, x4, i => if i < (x1.length : Int) then (if 0 ≤ i then ((impl_firstPictures_1.l1 k x0 x4 i [] 0).bind fun ln => ((impl_LineWays.f k (rd_L1 x1 i) ln).bind fun n => (if n = 0 then (some true) else (impl_firstPictures_1.l0 k x0 x1 x4 (wrap64 (i + 1)))))) else none) else (some false)
def impl_firstPictures_1.l1 : Nat → List (List Int) → List Int → Int → List Int → Int → Option (List Int)
 | 0, _, _, _, _, _ => none
 | k + 1, x0, x4, c, ln, j => if j < (x0.length : Int) then (if j < (x4.length : Int) then (if 0 ≤ j then (if ln.length < 17592186044416 then (impl_firstPictures_1.l1 k x0 x4 c (ln ++ [Go.bits .and .i64 (shr .i64 (rd x4 j) c) 1]) (wrap64 (j + 1))) else none) else none) else (if ln.length < 17592186044416 then (impl_firstPictures_1.l1 k x0 x4 c (ln ++ [(-1)]) (wrap64 (j + 1))) else none)) else (some ln)
def impl_firstPictures_1.l2 : Nat → List (List Int) → List (List Int) → List Int → Int → List Int → List Int → List (List Int) → Int → Option (List (List Int))
 | 0, _, _, _, _, _, _, _, _ => none
 | k + 1, x0, x1, x2, x3, x4, y, z, i => if i < (y.length : Int) then (if 0 ≤ i then (if (z.length : Int) < x3 then (if x4.length < 4398046511104 then ((impl_firstPictures_1.f k x0 x1 x2 x3 (x4 ++ [rd y i]) z).bind fun z' => (impl_firstPictures_1.l2 k x0 x1 x2 x3 x4 y z' (wrap64 (i + 1)))) else none) else (impl_firstPictures_1.l2 k x0 x1 x2 x3 x4 y z (wrap64 (i + 1)))) else none) else (some z)
end
/-- A variable that holds the call's own row, none of whose blocks is gf. -/
def VarN {α : Type} (d : Kd α) (e T g base gf : Nat) (w : World) (xs : List α) : Prop := ∃ v, w.heap[g]? = some (Obj.cells #[v] T (0, 0)) ∧ d.R e w base (fun k => k ≠ gf) v xs
theorem VarN.below {α : Type} {d : Kd α} {e T g base gf : Nat} {w w' : World} {xs : List α} (h : VarN d e T g base gf w xs) (hb : Below w.heap.size w w') : VarN d e T g base gf w' xs := by
 obtain ⟨v, hg, hr⟩ := h
 exact ⟨v, (hb.block g (lt_of_some hg)).trans hg, Kd.R_below hr hb⟩
/-- What a call of the literal leaves. -/
def PicsPost (W0 : World) (g gf : Nat) (w : World) (r : List (List Int)) (e : Ending) (w' : World) : Prop :=
 e = .returned (.tuple #[]) ∧ Below W0.heap.size W0 w' ∧ VarN (Kd.slice 3 (Kd.int .i64)) 36 23 g W0.heap.size gf w' r ∧ Keep [3, 85] w w' ∧ w'.heap[gf]? = w.heap[gf]?
set_option maxHeartbeats 8000000 in
set_option maxRecDepth 100000 in
theorem impl_firstPictures_1.calls (W0 : World) (gp gm g gf gt : Nat) (hg0 : W0.heap.size ≤ g) (hf0 : W0.heap.size ≤ gf) (hgne : g ≠ gf) (A0 : Option Addr) (c0 : Nat) (l0 : List (List Int)) (A1 : Option Addr) (c1 : Nat) (l1 : List (List Int)) (amv : Int) (Af : Option Addr) (cf : Nat) (lf : List Int)
  (hr0 : Kd.C (Kd.slice 3 (Kd.int .i64)) W0 A0 l0.length l0) (hc0 : l0.length ≤ c0) (hr1 : Kd.C (Kd.slice 3 (Kd.int .i64)) W0 A1 l1.length l1) (hc1 : l1.length ≤ c1)
  (hgp : W0.heap[gp]? = some (.cells #[.slice A0 l0.length c0, .slice A1 l1.length c1] 25 (0, 0))) (hgm : W0.heap[gm]? = some (.cells #[.int .i64 amv] 3 (0, 0))) (k : Nat) : ∀ (A4 : Option Addr) (c4 : Nat) (l4 : List Int) (l5 r : List (List Int)) (w : World) (hb : Below W0.heap.size W0 w)
  (hgt : w.heap[gt]? = some (.cells #[(.func (.func 84) #[] #[.pointer (some ⟨gp, 0, none⟩), .pointer (some ⟨g, 0, none⟩), .pointer (some ⟨gf, 0, none⟩), .pointer (some ⟨gm, 0, none⟩), .pointer (some ⟨gt, 0, none⟩)])] 85 (0, 0))) (hgf : w.heap[gf]? = some (.cells #[.slice Af lf.length cf] 36 (0, 0))) (hrf : Kd.R (Kd.int .i64) 3 w W0.heap.size (fun _ => True) (.slice Af lf.length cf) lf)
  (hr4 : Kd.R (Kd.int .i64) 3 w W0.heap.size (fun _ => True) (.slice A4 l4.length c4) l4) (hv : VarN (Kd.slice 3 (Kd.int .i64)) 36 23 g W0.heap.size gf w l5) (h : impl_firstPictures_1.f k l0 l1 lf amv l4 l5 = some r),
  Calls Try.prog 84 #[.slice A4 l4.length c4, .pointer (some ⟨gp, 0, none⟩), .pointer (some ⟨g, 0, none⟩), .pointer (some ⟨gf, 0, none⟩), .pointer (some ⟨gm, 0, none⟩), .pointer (some ⟨gt, 0, none⟩)] w (PicsPost W0 g gf w r) := by
 induction k using Nat.strongRecOn with
 | _ k ih =>
 cases k with
 | zero => intro A4 c4 l4 l5 r w hb hgt hgf hrf hr4 hv h; exact absurd h (by simp [impl_firstPictures_1.f])
 | succ k =>
  intro A4 c4 l4 l5 r w hb hgt hgf hrf hr4 hv h
  rw [impl_firstPictures_1.f] at h
  have hu25 := Try.underlying25
  have hi36 : (Try.prog.info? 36).map (fun i => (i.zero, i.size, i.bytes)) = some (some (.slice none 0 0), 1, 24) := by kernel_rfl
  have hi3 : (Try.prog.info? 3).map (fun i => (i.zero, i.size, i.bytes)) = some (some (.int .i64 0), 1, 8) := by kernel_rfl
  obtain ⟨b, h0, h⟩ := Option.bind_eq_some_iff.mp h
  have HF := am h0
  have HH := am h
  clear h0 h
  have HIH := am ih
  clear ih
  have HB := am hb
  have HGT := am hgt
  have HGF := am hgf
  have HRF := am hrf
  have HR := am hr4
  have HV := am hv
  have HGP := am hgp
  have HGM := am hgm
  have HG0 := am hg0
  have HF0 := am hf0
  have HNE := am hgne
  have HR0 := am hr0
  have HR1 := am hr1
  have cp1 : w.cell? ⟨gp, 1, none⟩ = some (.slice A1 l1.length c1) := blk_cell ((hb.block gp (lt_of_some hgp)).trans hgp) 1
  clear hb hgt hgf hrf hr4 hv hgp hgm hg0 hf0 hgne hr0 hr1
  have HW := am (Below.refl w.heap.size w)
  go_enter Try.func84, Try.ntmps84
  go_wp2_with fail
  go_loopg [16] k (fun kq v16 w' => ∃ (i : Int), v16 = .int .i64 i ∧ Aside0 (impl_firstPictures_1.l0 kq l0 l1 l4 i = some b) ∧ Aside0 (kq ≤ k) ∧ Aside0 (Below w.heap.size w w'))
  case atStart => exact ⟨0, rfl, HF, ⟨Nat.le_refl _⟩, HW⟩
  case round =>
   clear HF HW cp1
   obtain ⟨i, rfl, HA, HK, HW⟩ := hrel
   cases gk with
   | zero => exact absurd HA.out (by simp [impl_firstPictures_1.l0])
   | succ k1 =>
    have H := HA.out
    clear HA
    rw [impl_firstPictures_1.l0] at H
    have cp0 : wr.cell? ⟨gp, 0, none⟩ = some (.slice A0 l0.length c0) := blk_cell (((below_step HB.out HW.out).block gp (lt_of_some HGP.out)).trans HGP.out) 0
    by_cases c5 : i < (l1.length : Int)
    ·rw [if_pos c5] at H
     have c5b0 : decide (i < (l1.length : Int)) = true := decide_eq_true c5
     have q_ := ifs H
     clear H
     obtain ⟨c6, H⟩ := q_
     have c6b0 : decide (0 ≤ i) = true := decide_eq_true c6
     obtain ⟨ln, hl, H⟩ := Option.bind_eq_some_iff.mp H
     obtain ⟨n, hn, H⟩ := Option.bind_eq_some_iff.mp H
     have HL := am hl
     have HN := am hn
     have HT := am H
     clear H hl hn
     obtain ⟨ad, Ac, cc, ec, hxc, hlc, hic⟩ := at_L1 HR1.out i c6 c5
     cases ec
     replace hxc := ((below_step HB.out HW.out).cell (World.block_lt_of_cell? W0 _ hxc)).trans hxc
     have HLC := am hlc
     have HIC := am hic
     have C6 := am c6
     clear hlc hic
     replace c5 := eq_true c5
     replace c6 := eq_true c6
     go_wp2_with (first | ((with_reducible refine gate_dst (N := 21) rfl ?_); refine Kd.R_lit (Kd.int .i64) _ 3 ?hg (N := 21) ?hd (xs := ([] : List Int)) (inner := []) (ok := fun _ => True) (okp := fun _ => True) ?hr ?hp (fun _ hk => hk) trivial (Below.refl _ _) (Nat.le_refl _) (by simp) ?_; (case hd => rfl); (case hg => rfl); (case hr => first | (go_simp; done) | (go_simp; rfl)); (case hp => exact (Reps.none _ _)); intro v21 w1 ho hb hg_ hnew_; clear hg_ hnew_; have HO := am (Kd.R_lower ho HW.out.size); have cp01 : w1.cell? ⟨gp, 0, none⟩ = some (.slice A0 l0.length c0) := (hb.cell (p := ⟨gp, 0, none⟩) (by exact lt_of_some (((below_step HB.out HW.out).block gp (lt_of_some HGP.out)).trans HGP.out))).trans cp0; have n1_ := am (below_step HW.out hb); clear HW; have HW := n1_; clear n1_ hb ho))
     go_loopg [9, 25] k1 (fun kq v9 v25 w' => ∃ (x9 : List Int) (j : Int), v25 = .int .i64 j ∧ Aside0 (impl_firstPictures_1.l1 kq l0 l4 i x9 j = some ln) ∧ Aside0 (kq ≤ k1) ∧ Aside0 (Kd.R (Kd.int .i64) 3 w' w.heap.size (fun _ => True) v9 x9) ∧ Aside0 (Below w.heap.size w w'))
     case atStart => exact ⟨[], 0, rfl, HL, ⟨Nat.le_refl _⟩, HO, HW⟩
     case round =>
      clear HL HO HW cp01 hxc cp0
      obtain ⟨x9, j, rfl, HA, HK2, HO, HW⟩ := hrel
      cases gk with
      | zero => exact absurd HA.out (by simp [impl_firstPictures_1.l1])
      | succ k2 =>
       have H := HA.out
       clear HA
       rw [impl_firstPictures_1.l1] at H
       by_cases c7 : j < (l0.length : Int)
       ·rw [if_pos c7] at H
        have c7b0 : decide (j < (l0.length : Int)) = true := decide_eq_true c7
        clear c7
        by_cases c8 : j < (l4.length : Int)
        ·rw [if_pos c8] at H
         have c8b0 : decide (j < (l4.length : Int)) = true := decide_eq_true c8
         have q_ := ifs H
         clear H
         obtain ⟨c9, H⟩ := q_
         have c9b0 : decide (0 ≤ j) = true := decide_eq_true c9
         obtain ⟨ad4, e4, hx4⟩ := Kd.at_int (Kd.C_below (Kd.R_reads' HR.out).2.2 HW.out) j c9 c8
         cases e4
         replace c8 := eq_true c8
         replace c9 := eq_true c9
         obtain ⟨ji, hji⟩ : ∃ j_ : Int, (shr .i64 (rd l4 j) i) = j_ := ⟨_, rfl⟩
         rw [hji] at H
         have hji_ : ((rd l4 j) / 2 ^ min i.toNat 64) = ji := hji
         have hjiz : i ≤ 64 → ((rd l4 j) / 2 ^ i.toNat) = ji := shr_small hji
         have q_ := ifs H
         clear H
         obtain ⟨c10, H⟩ := q_
         have LM := am c10
         clear c10
         have H' := am H
         clear H
         go_wp2_with (first | ((with_reducible refine gate_builtin (b := .append) (xs := #[.tmp 32, .tmp 40]) rfl ?_); at_builtin; refine Kd.R_append (Kd.int .i64) (w0 := w) w.heap.size rfl (.tmp 32) (.tmp 40) 36 3 (.int .i64 0) 8 rfl Try.underlying36 info3 rfl (by decide) (by omega) u9 x9 (Go.bits .and .i64 ji 1) [.int .i64 (Go.bits .and .i64 ji 1)] (fun _ => True) (fun _ => False) rfl rfl ?aP (fun _ hk => hk.elim) ?aF ?aO ?aB ?aS ?aL ?_; (case aP => exact rfl); (case aB => exact (bm HW)); (case aF => exact (fun _ _ => trivial)); (case aO => exact (Kd.rv HO.out)); (case aS => exact (below_size (bm HW))); (case aL => have := LM.out; omega); intro v41 w10 ho hb hg hat; have n0_ := am (hb); have n1_ := am (ho); clear HW HO; revert n0_ n1_; intro HW HO; clear ho hb hg hat))
         go_roundg k2
         case measure => have := HK2.out; omega
         case rel => exact ⟨_, wrap64 (j + 1), rfl, H', ⟨by have := HK2.out; omega⟩, HO, HW⟩
        ·rw [if_neg c8] at H
         have c8b0 : decide (j < (l4.length : Int)) = false := decide_eq_false c8
         clear c8
         have q_ := ifs H
         clear H
         obtain ⟨c10, H⟩ := q_
         have LM := am c10
         clear c10
         have H' := am H
         clear H
         go_wp2_with (first | ((with_reducible refine gate_builtin (b := .append) (xs := #[.tmp 42, .tmp 43]) rfl ?_); at_builtin; refine Kd.R_append (Kd.int .i64) (w0 := w) w.heap.size rfl (.tmp 42) (.tmp 43) 36 3 (.int .i64 0) 8 rfl Try.underlying36 info3 rfl (by decide) (by omega) u9 x9 (-1) [.int .i64 (-1)] (fun _ => True) (fun _ => False) rfl rfl ?aP (fun _ hk => hk.elim) ?aF ?aO ?aB ?aS ?aL ?_; (case aP => exact rfl); (case aB => exact (bm HW)); (case aF => exact (fun _ _ => trivial)); (case aO => exact (Kd.rv HO.out)); (case aS => exact (below_size (bm HW))); (case aL => have := LM.out; omega); intro v41 w10 ho hb hg hat; have n0_ := am (hb); have n1_ := am (ho); clear HW HO; revert n0_ n1_; intro HW HO; clear ho hb hg hat))
         go_roundg k2
         case measure => have := HK2.out; omega
         case rel => exact ⟨_, wrap64 (j + 1), rfl, H', ⟨by have := HK2.out; omega⟩, HO, HW⟩
       ·rw [if_neg c7] at H
        have c7b0 : decide (j < (l0.length : Int)) = false := decide_eq_false c7
        clear c7
        have e9 : x9 = ln := Option.some.inj H
        subst e9
        clear H
        obtain ⟨A9, c9, e9⟩ := Kd.R_slice HO.out
        subst e9
        have H := HT.out
        clear HT
        by_cases c11 : n = 0
        ·rw [if_pos c11] at H
         have c11b0 : (n == 0) = true := beq_iff_eq.mpr c11
         have eb : true = b := Option.some.inj H
         subst eb
         clear H c11
         have H := HH.out
         rw [if_pos rfl] at H
         have er : l5 = r := Option.some.inj H
         subst er
         clear H HH
         go_wp2_with (first | ((with_reducible refine gate_callee (f := 85) rfl ?_); refine goesL_ (some 48) rfl rfl Try.func85 (by kernel_rfl) rfl #[.slice Ac (rd_L1 l1 i).length cc, .slice A9 x9.length c9] rfl (by (try simp only [List.map_toArray, List.map_cons, List.map_nil]); first | done | rfl) ?_; (with_reducible refine (impl_LineWays.calls k1 Ac cc (rd_L1 l1 i) A9 c9 x9 n _ (Kd.C_below HIC.out (below_step HB.out HW.out)) HLC.out (Kd.R_reads' HO.out).2.2 (Kd.R_reads' HO.out).2.1 HN.out).mono ?_); rintro e wb ⟨rfl, hd⟩; have HWb := am (below_step HW.out hd); clear hd; refine ⟨_, rfl, ?_⟩))
         go_end0
         exact ⟨rfl, below_step HB.out HWb.out, HV.out.below HWb.out, (Keep.refl _ _).of_below HWb.out, HWb.out.block gf (lt_of_some HGF.out)⟩
        ·rw [if_neg c11] at H
         have c11b0 : (n == 0) = false := beq_eq_false_iff_ne.mpr c11
         clear c11
         have H' := am H
         clear H
         go_wp2_with (first | ((with_reducible refine gate_callee (f := 85) rfl ?_); refine goesL_ (some 48) rfl rfl Try.func85 (by kernel_rfl) rfl #[.slice Ac (rd_L1 l1 i).length cc, .slice A9 x9.length c9] rfl (by (try simp only [List.map_toArray, List.map_cons, List.map_nil]); first | done | rfl) ?_; (with_reducible refine (impl_LineWays.calls k1 Ac cc (rd_L1 l1 i) A9 c9 x9 n _ (Kd.C_below HIC.out (below_step HB.out HW.out)) HLC.out (Kd.R_reads' HO.out).2.2 (Kd.R_reads' HO.out).2.1 HN.out).mono ?_); rintro e wb ⟨rfl, hd⟩; have HWb := am (below_step HW.out hd); clear hd; refine ⟨_, rfl, ?_⟩))
         go_roundg k1
         case measure => have := HK.out; omega
         case rel => exact ⟨wrap64 (i + 1), rfl, H', ⟨by have := HK.out; omega⟩, HWb⟩
    ·rw [if_neg c5] at H
     have c5b0 : decide (i < (l1.length : Int)) = false := decide_eq_false c5
     clear c5
     have eb : false = b := Option.some.inj H
     subst eb
     clear H
     have H := HH.out
     clear HH
     rw [if_neg (by decide)] at H
     obtain ⟨vv, hvg, hvr⟩ := HV.out.below HW.out
     obtain ⟨Adv, cdv, evv⟩ := Kd.R_slice hvr
     subst evv
     have HVG := am hvg
     have HVR := am hvr
     have cvg : wr.cell? ⟨g, 0, none⟩ = some (.slice Adv l5.length cdv) := blk_cell hvg 0
     have HBW := am (below_step HB.out HW.out)
     have HGFr := am ((HW.out.block gf (lt_of_some HGF.out)).trans HGF.out)
     have HR' := am (Kd.R_below HR.out HW.out)
     clear hvg hvr
     by_cases c12 : (l4.length : Int) = (l0.length : Int)
     ·rw [if_pos c12] at H
      have q_ := ifs H
      clear H
      obtain ⟨c13, H⟩ := q_
      have LM := am c13
      have e0 : l5 ++ [l4] = r := Option.some.inj H
      subst e0
      have b1 : ((l4.length : Int) == (l0.length : Int)) = true := beq_iff_eq.mpr c12
      have b1n : (l4.length == l0.length) = true := beq_iff_eq.mpr (by omega)
      clear H c12 c13
      go_wp2_with (first | ((with_reducible refine gate_builtin (b := .append) (xs := #[.tmp 57, .tmp 59]) rfl ?_); at_builtin; refine Kd.R_append (Kd.slice 3 (Kd.int .i64)) (w0 := W0) W0.heap.size rfl (.tmp 57) (.tmp 59) 23 36 (.slice none 0 0) 24 rfl Try.underlying23 hi36 rfl (by decide) (by omega) (.slice Adv l5.length cdv) l5 l4 [.slice A4 l4.length c4] (fun k => k ≠ gf) (fun k => k ≠ gf ∧ some k ≠ (Value.slice Adv l5.length cdv).ownBlock) rfl rfl ?aP (fun _ hk => hk) ?aF ?aO ?aB ?aS ?aL ?_; (case aP => exact ⟨_, rfl, Kd.R_mono (R_apart (Kd.R_types HR'.out HGFr.out (by simp [Kd.int, Kd.scalar])) HVR.out (by simp [Kd.int, Kd.scalar])) (fun _ hk => ⟨hk.1.2, hk.2⟩)⟩); (case aF => exact fun k hk => (by have h1 := lt_of_some HGFr.out; omega)); (case aO => exact HVR.out); (case aB => exact HBW.out); (case aS => exact HBW.out.size); (case aL => have := LM.out; omega); intro v1 w1 ho hb hgr hat; obtain ⟨Ad1, cd1, ev1⟩ := Kd.R_slice ho; subst ev1; have HO := am ho; have HB1 := am hb; have HG1 := am hgr; have hg1 := blk_grown HVG.out hgr (Kd.R_ne HVR.out HVG.out (by decide)); have HGG := am hg1; have hf1 := (hgr.block gf (lt_of_some HGFr.out) (fun e1 => absurd rfl (HVR.out.1 gf e1.symm))).trans HGFr.out; have HFF := am hf1; have hfz1 := blk_frozen hg1 0; have hcell1 := blk_cell hg1 0; clear hf1 hg1 ho hb hgr hat))
      go_end0
      refine ⟨rfl, ?_, ⟨_, blk_put HGG.out 0 _ rfl, ?_⟩, ?_, ?_⟩
      ·exact HB1.out.setCell HG0.out _
      ·have h1 := Kd.R_set HO.out HGG.out (by simp [Kd.int, Kd.scalar, Kd.slice]) 0 (.slice Ad1 (l5.length + 1) cd1)
       rw [List.length_append, List.length_singleton] at h1
       exact h1
      ·exact (((Keep.refl [3, 85] w).of_below HW.out).grown HVR.out (by decide) HG1.out).set HGG.out (by decide) 0 _
      ·rw [Below.heap_setCell _ _ _ gf (fun e1 => HNE.out e1.symm), HFF.out, HGF.out]
     ·rw [if_neg c12] at H
      have b1 : ((l4.length : Int) == (l0.length : Int)) = false := beq_eq_false_iff_ne.mpr c12
      have b1n : (l4.length == l0.length) = false := beq_eq_false_iff_ne.mpr (by omega)
      clear c12
      have q_ := ifs H
      clear H
      obtain ⟨c14, H⟩ := q_
      obtain ⟨y, hy, H⟩ := Option.bind_eq_some_iff.mp H
      have HY := am hy
      have HL2 := am H
      clear H hy
      obtain ⟨ad0, Ar, cr, er, hxr, hlr, hir⟩ := at_L1 HR0.out (l4.length : Int) (by omega) c14
      cases er
      rw [Int.toNat_natCast] at hxr
      have HXR0 := am hxr
      replace hxr := (HBW.out.cell (World.block_lt_of_cell? W0 _ hxr)).trans hxr
      have HLR := am hlr
      have HIR := am hir
      clear hlr hir
      have p14 : ((0 : Int) ≤ (l4.length : Int)) = True := eq_true (by omega)
      have c14b0 : decide ((l4.length : Int) < (l0.length : Int)) = true := decide_eq_true c14
      replace c14 := eq_true c14
      have HRFr := am (Kd.R_below HRF.out HW.out)
      have hcf : wr.cell? ⟨gf, 0, none⟩ = some (.slice Af lf.length cf) := blk_cell HGFr.out 0
      clear cvg
      go_wp2_with fail
      have HBd : Aside0 (Below wr.heap.size wr wr.drew) := ⟨below_drew1 (Below.refl _ _)⟩
      refine start_ (n := 10) (S := fun w' => w'.cell? ⟨gp, 0, none⟩ = some (.slice (some ad0) l0.length c0) ∧ w'.cell? (ad0.add l4.length) = some (.slice Ar (rd_L1 l0 (l4.length : Int)).length cr) ∧ w'.cell? ⟨gf, 0, none⟩ = some (.slice Af lf.length cf)) (ds := []) #[false, false, false, false, false, false, false, false, false, false] (by kernel_rfl) rfl rfl ⟨cp0, hxr, hcf⟩ (fun hHeld => ?_)
      generalize wr.drew = wd at HBd hHeld ⊢
      refine pure_ (i := 0) (N := some 61) (v := ?_) (a' := ?_) #[true, false, false, false, false, false, false, false, false, false] rfl rfl (by kernel_rfl) (fun _ _ _ h => h) (Or.inl ⟨by rfl, ?_⟩) ?_ ?_
      rotate_left
      ·intro w'
       go_simp
       with_reducible rfl
      rotate_left
      ·simp only [Act.put, List.setIfInBounds_toArray, List.set_cons_zero, List.set_cons_succ, i64_w, i32_w]
       rfl
      refine pure_ (i := 2) (N := some 63) (v := ?_) (a' := ?_) #[true, false, true, false, false, false, false, false, false, false] rfl rfl (by kernel_rfl) (fun _ _ _ h => h) (Or.inl ⟨by rfl, ?_⟩) ?_ ?_
      rotate_left
      ·intro w'
       go_simp
       with_reducible rfl
      rotate_left
      ·simp only [Act.put, List.setIfInBounds_toArray, List.set_cons_zero, List.set_cons_succ, i64_w, i32_w]
       rfl
      refine pure_ (i := 3) (N := some 64) (v := ?_) (a' := ?_) #[true, false, true, true, false, false, false, false, false, false] rfl rfl (by kernel_rfl) (fun _ _ _ h => h) (Or.inl ⟨by rfl, ?_⟩) ?_ ?_
      rotate_left
      ·intro w'
       go_simp
       with_reducible rfl
      rotate_left
      ·simp only [Act.put, List.setIfInBounds_toArray, List.set_cons_zero, List.set_cons_succ, i64_w, i32_w]
       rfl
      refine pure_ (i := 9) (N := some 70) (v := ?_) (a' := ?_) #[true, false, true, true, false, false, false, false, false, true] rfl rfl (by kernel_rfl) (fun _ _ _ h => h) (Or.inl ⟨by rfl, ?_⟩) ?_ ?_
      rotate_left
      ·intro w'
       go_simp
       with_reducible rfl
      rotate_left
      ·simp only [Act.put, List.setIfInBounds_toArray, List.set_cons_zero, List.set_cons_succ, i64_w, i32_w]
       rfl
      refine take_ (i := 1) (N := some 62) (v := ?_) (a' := ?_) #[true, true, true, true, false, false, false, false, false, true] rfl rfl (by kernel_rfl) (fun _ _ _ h => h) (Or.inl ⟨by rfl, ?_⟩) hHeld ?_ ?_
      rotate_left
      ·rintro w' ⟨s0, s1, s2⟩
       go_simp
       with_reducible rfl
      rotate_left
      ·simp only [Act.put, List.setIfInBounds_toArray, List.set_cons_zero, List.set_cons_succ, i64_w, i32_w]
       rfl
      refine take_ (i := 6) (N := some 67) (v := ?_) (a' := ?_) #[true, true, true, true, false, false, true, false, false, true] rfl rfl (by kernel_rfl) (fun _ _ _ h => h) (Or.inl ⟨by rfl, ?_⟩) hHeld ?_ ?_
      rotate_left
      ·rintro w' ⟨s0, s1, s2⟩
       go_simp
       with_reducible rfl
      rotate_left
      ·simp only [Act.put, List.setIfInBounds_toArray, List.set_cons_zero, List.set_cons_succ, i64_w, i32_w]
       rfl
      refine pure_ (i := 4) (N := some 65) (v := ?_) (a' := ?_) #[true, true, true, true, true, false, true, false, false, true] rfl rfl (by kernel_rfl) (fun _ _ _ h => h) (Or.inl ⟨by rfl, ?_⟩) ?_ ?_
      rotate_left
      ·intro w'
       go_simp
       with_reducible rfl
      rotate_left
      ·simp only [Act.put, List.setIfInBounds_toArray, List.set_cons_zero, List.set_cons_succ, i64_w, i32_w]
       rfl
      refine take_ (i := 5) (N := some 66) (v := ?_) (a' := ?_) #[true, true, true, true, true, true, true, false, false, true] rfl rfl (by kernel_rfl) (fun _ _ _ h => h) (Or.inl ⟨by rfl, ?_⟩) hHeld ?_ ?_
      rotate_left
      ·rintro w' ⟨s0, s1, s2⟩
       go_simp
       with_reducible rfl
      rotate_left
      ·simp only [Act.put, List.setIfInBounds_toArray, List.set_cons_zero, List.set_cons_succ, i64_w, i32_w]
       rfl
      refine one_ (i := 7) (N := some 68) #[true, true, true, true, true, true, true, true, false, true] rfl rfl (by kernel_rfl) (by decide) (fun K hK => ?_)
      refine goes_ Try.func78 (by kernel_rfl) rfl #[.slice Ar (rd_L1 l0 (l4.length : Int)).length cr, .slice Af lf.length cf] (by rfl) rfl rfl (by (try simp only [List.map_toArray, List.map_cons, List.map_nil]); first | done | rfl) ?_
      with_reducible refine (impl_linesFor.calls k Ar cr (rd_L1 l0 (l4.length : Int)) Af cf lf y _ (Kd.C_below HIR.out (below_step HBW.out HBd.out)) HLR.out (Kd.C_below (Kd.R_reads' HRFr.out).2.2 HBd.out) (Kd.R_reads' HRFr.out).2.1 HY.out).mono ?_
      rintro e wy ⟨v68, rfl, hv68, hd⟩
      obtain ⟨Ay, cy, ey⟩ := Kd.R_slice hv68
      subst ey
      have HOY := am (Kd.R_lower hv68 (below_step HBW.out HBd.out).size)
      have HWY := am (below_step HW.out (below_step HBd.out hd))
      have HBY := am (below_step HBW.out (below_step HBd.out hd))
      clear hv68 hd
      refine ⟨_, rfl, ?_⟩
      refine hK.out _ _ ⟨blk_cell ((HBY.out.block gp (lt_of_some HGP.out)).trans HGP.out) 0, (HBY.out.cell (World.block_lt_of_cell? W0 _ HXR0.out)).trans HXR0.out, blk_cell ((HWY.out.block gf (lt_of_some HGF.out)).trans HGF.out) 0⟩ (fun hHeld => ?_)
      clear hK K
      refine norm_ (a' := ?_) ?_ ?_
      rotate_left
      ·show Act.put _ (some 68) _ = _
       simp only [Act.put, List.setIfInBounds_toArray, List.set_cons_zero, List.set_cons_succ, i64_w, i32_w]
       rfl
      refine pure_ (i := 8) (N := some 69) (v := ?_) (a' := ?_) #[true, true, true, true, true, true, true, true, true, true] rfl rfl (by kernel_rfl) (fun _ _ _ h => h) (Or.inl ⟨by rfl, ?_⟩) ?_ ?_
      rotate_left
      ·intro w'
       go_simp
       with_reducible rfl
      rotate_left
      ·simp only [Act.put, List.setIfInBounds_toArray, List.set_cons_zero, List.set_cons_succ, i64_w, i32_w]
       rfl
      refine done_ (by kernel_rfl) ?_
      clear cp0 hxr hcf
      have HVY := am (HV.out.below HWY.out)
      have HGTY := am ((HWY.out.block gt (lt_of_some HGT.out)).trans HGT.out)
      have HGFY := am ((HWY.out.block gf (lt_of_some HGF.out)).trans HGF.out)
      have HRFY := am (Kd.R_below HRF.out HWY.out)
      have HRY := am (Kd.R_below HR.out HWY.out)
      go_wp2_with fail
      go_loopg [70] k (fun kq v70 w' => ∃ (z : List (List Int)) (q : Int), v70 = .int .i64 q ∧ Aside0 (impl_firstPictures_1.l2 kq l0 l1 lf amv l4 y z q = some r) ∧ Aside0 (kq ≤ k) ∧ Aside0 (Below W0.heap.size W0 w') ∧ Aside0 (VarN (Kd.slice 3 (Kd.int .i64)) 36 23 g W0.heap.size gf w' z) ∧ Aside0 (Keep [3, 85] wy w') ∧ Aside0 (w'.heap[gf]? = wy.heap[gf]?))
      case atStart => exact ⟨l5, 0, rfl, HL2, ⟨Nat.le_refl _⟩, HBY, HVY, ⟨Keep.refl _ _⟩, ⟨rfl⟩⟩
      case round =>
       clear HL2 HVY HBY HK HW HBW HV HVG HVR HR' HRFr HGFr
       obtain ⟨z, q, rfl, HA, HK, HB, HV, HKp, HFp⟩ := hrel
       cases gk with
       | zero => exact absurd HA.out (by simp [impl_firstPictures_1.l2])
       | succ k3 =>
        have H := HA.out
        clear HA
        rw [impl_firstPictures_1.l2] at H
        by_cases c15 : q < (y.length : Int)
        ·rw [if_pos c15] at H
         have c15b0 : decide (q < (y.length : Int)) = true := decide_eq_true c15
         have q_ := ifs H
         clear H
         obtain ⟨c16, H⟩ := q_
         have c16b0 : decide (0 ≤ q) = true := decide_eq_true c16
         have HOYr := am (HKp.out.R (by simp [Kd.int, Kd.scalar]) HOY.out)
         have HR1 := am (HKp.out.R (by simp [Kd.int, Kd.scalar]) HRY.out)
         have HRF1 := am (HKp.out.R (by simp [Kd.int, Kd.scalar]) HRFY.out)
         have HGT1 := am ((HKp.out.2 gt 85 _ (by decide) HGTY.out).trans HGTY.out)
         have HGF1 := am (HFp.out.trans HGFY.out)
         have cgm : wr.cell? ⟨gm, 0, none⟩ = some (.int .i64 amv) := blk_cell ((HB.out.block gm (lt_of_some HGM.out)).trans HGM.out) 0
         obtain ⟨vz, hzg, hzr⟩ := HV.out
         obtain ⟨Az, cz, ez⟩ := Kd.R_slice hzr
         subst ez
         have cg : wr.cell? ⟨g, 0, none⟩ = some (.slice Az z.length cz) := blk_cell hzg 0
         clear hzg hzr
         obtain ⟨ady, ey, hxy⟩ := Kd.at_int (Kd.R_reads' HOYr.out).2.2 q c16 c15
         cases ey
         replace c15 := eq_true c15
         replace c16 := eq_true c16
         by_cases c17 : (z.length : Int) < amv
         ·rw [if_pos c17] at H
          have c17b0 : decide ((z.length : Int) < amv) = true := decide_eq_true c17
          clear c17
          have q_ := ifs H
          clear H
          obtain ⟨c18, H⟩ := q_
          have LM := am c18
          clear c18
          obtain ⟨y2, hy2⟩ : ∃ y_ : List Int, y_ = l4 ++ [rd y q] := ⟨_, rfl⟩
          rw [← hy2] at H
          obtain ⟨z2, Hz, H⟩ := Option.bind_eq_some_iff.mp H
          have Ny := am hy2
          have HZ := am Hz
          have HH := am H
          clear H Hz hy2
          have HCL : Aside0 (slices_Clone_int_int.f l4 = some l4) := ⟨by unfold slices_Clone_int_int.f; have := LM.out; simp; omega⟩
          have cgt : wr.cell? ⟨gt, 0, none⟩ = some (.func (.func 84) #[] #[.pointer (some ⟨gp, 0, none⟩), .pointer (some ⟨g, 0, none⟩), .pointer (some ⟨gf, 0, none⟩), .pointer (some ⟨gm, 0, none⟩), .pointer (some ⟨gt, 0, none⟩)]) := blk_cell HGT1.out 0
          go_wp2_with fail
          have HBd : Aside0 (Below wr.heap.size wr wr.drew) := ⟨below_drew1 (Below.refl _ _)⟩
          have HGd : Aside0 (wr.drew.heap[gt]? = some (Obj.cells #[(.func (.func 84) #[] #[.pointer (some ⟨gp, 0, none⟩), .pointer (some ⟨g, 0, none⟩), .pointer (some ⟨gf, 0, none⟩), .pointer (some ⟨gm, 0, none⟩), .pointer (some ⟨gt, 0, none⟩)])] 85 (0, 0))) := ⟨HGT1.out⟩
          refine start_ (n := 7) (S := fun w' => w'.cell? ⟨gt, 0, none⟩ = some (.func (.func 84) #[] #[.pointer (some ⟨gp, 0, none⟩), .pointer (some ⟨g, 0, none⟩), .pointer (some ⟨gf, 0, none⟩), .pointer (some ⟨gm, 0, none⟩), .pointer (some ⟨gt, 0, none⟩)])) (ds := []) #[false, false, false, false, false, false, false] (by kernel_rfl) rfl rfl (blk_cell HGd.out 0) (fun hHeld => ?_)
          generalize wr.drew = wd at HBd HGd hHeld ⊢
          clear cgt cgm cg hxy
          refine pure_ (i := 1) (N := some 79) (v := ?_) (a' := ?_) #[false, true, false, false, false, false, false] rfl rfl (by kernel_rfl) (fun _ _ _ h => h) (Or.inl ⟨by rfl, ?_⟩) ?_ ?_
          rotate_left
          ·intro w'
           go_simp
           with_reducible rfl
          rotate_left
          ·simp only [Act.put, List.setIfInBounds_toArray, List.set_cons_zero, List.set_cons_succ, i64_w, i32_w]
           rfl
          refine pure_ (i := 3) (N := some 81) (v := ?_) (a' := ?_) #[false, true, false, true, false, false, false] rfl rfl (by kernel_rfl) (fun _ _ _ h => h) (Or.inl ⟨by rfl, ?_⟩) ?_ ?_
          rotate_left
          ·intro w'
           go_simp
           with_reducible rfl
          rotate_left
          ·simp only [Act.put, List.setIfInBounds_toArray, List.set_cons_zero, List.set_cons_succ, i64_w, i32_w]
           rfl
          refine take_ (i := 0) (N := some 78) (v := ?_) (a' := ?_) #[true, true, false, true, false, false, false] rfl rfl (by kernel_rfl) (fun _ _ _ h => h) (Or.inl ⟨by rfl, ?_⟩) hHeld ?_ ?_
          rotate_left
          ·rintro w' s0
           go_simp
           with_reducible rfl
          rotate_left
          ·simp only [Act.put, List.setIfInBounds_toArray, List.set_cons_zero, List.set_cons_succ, i64_w, i32_w]
           rfl
          refine two_ (i := 2) (j := 4) (Ni := some 80) (Nj := some 82) #[true, true, true, true, false, false, false] #[true, true, false, true, true, false, false] rfl rfl rfl rfl (by kernel_rfl) (by decide) (by decide) (fun K hK => ?_) (fun K hK => ?_)
          ·refine goes_ Try.func79 (by kernel_rfl) rfl #[.slice A4 l4.length c4] (by rfl) rfl rfl (by (try simp only [List.map_toArray, List.map_cons, List.map_nil]); first | done | rfl) ?_
           with_reducible refine (slices_Clone_int_int.calls A4 c4 l4 l4 _ (Kd.C_below (Kd.R_reads' HR1.out).2.2 HBd.out) (Kd.R_reads' HR1.out).2.1 HCL.out).mono ?_
           rintro e wb ⟨v26, rfl, hv26, hd⟩
           have HO26 := am hv26
           have HB1 := am (below_step HBd.out hd)
           have HGb := am (blk_below HGd.out hd)
           clear hv26 hd
           refine ⟨_, rfl, ?_⟩
           refine hK.out _ _ (blk_cell HGb.out 0) (fun hHeld => ?_)
           clear hK K
           refine norm_ (a' := ?_) ?_ ?_
           rotate_left
           ·show Act.put _ (some 80) _ = _
            simp only [Act.put, List.setIfInBounds_toArray, List.set_cons_zero, List.set_cons_succ, i64_w, i32_w]
            rfl
           refine one_ (i := 4) (N := some 82) #[true, true, true, true, true, false, false] rfl rfl (by kernel_rfl) (by decide) (fun K hK => ?_)
           refine event_step (v := .slice (some ⟨wb.heap.size, 0, none⟩) 1 1) (w1 := wb.alloc (Obj.cells #[.int .i64 (rd y q)] 3)) (by rfl) ?_ ?_
           ·first | (go_simp; done) | (go_simp; rfl)
           have HGw := am (blk_alloc HGb.out (Obj.cells #[.int .i64 (rd y q)] 3))
           have HBw := am (HB1.out.alloc HB1.out.size (Obj.cells #[.int .i64 (rd y q)] 3))
           have HNw := am (blk_new wb (Obj.cells #[.int .i64 (rd y q)] 3))
           have HOw := am (Kd.R_alloc HO26.out (Obj.cells #[.int .i64 (rd y q)] 3))
           refine hK.out _ _ (blk_cell HGw.out 0) (fun hHeld => ?_)
           clear hK K
           refine norm_ (a' := ?_) ?_ ?_
           rotate_left
           ·show Act.put _ (some 82) _ = _
            simp only [Act.put, List.setIfInBounds_toArray, List.set_cons_zero, List.set_cons_succ, i64_w, i32_w]
            rfl
           refine one_ (i := 5) (N := some 83) #[true, true, true, true, true, true, false] rfl rfl (by kernel_rfl) (by decide) (fun K hK => ?_)
           refine int_lies_step (w0 := wr) (base := wr.heap.size) (ok := fun _ => True) rfl (.tmp 80) (.tmp 82) 36 3 rfl Try.underlying36 hi3 v26 l4 (rd y q) wb.heap.size rfl rfl (Kd.R_lower HOw.out HBd.out.size) HNw.out HBw.out HBw.out.size (fun _ _ => trivial) (by have := LM.out; omega) ?_
           intro v29 w3 ho hb hg
           rw [← Ny.out] at ho
           obtain ⟨An, cn, en⟩ := Kd.R_slice ho
           subst en
           have HO29 := am ho
           have HB3 := am hb
           have HG3 := am (blk_grown HGw.out hg (Kd.R_ne HOw.out HGw.out (by decide)))
           clear ho hb hg
           refine hK.out _ _ (blk_cell HG3.out 0) (fun hHeld => ?_)
           clear hK K
           refine norm_ (a' := ?_) ?_ ?_
           rotate_left
           ·show Act.put _ (some 83) _ = _
            simp only [Act.put, List.setIfInBounds_toArray, List.set_cons_zero, List.set_cons_succ, i64_w, i32_w]
            rfl
           refine one_ (i := 6) (N := some 84) #[true, true, true, true, true, true, true] rfl rfl (by kernel_rfl) (by decide) (fun K hK => ?_)
           refine call_ 84 #[.slice An y2.length cn, .pointer (some ⟨gp, 0, none⟩), .pointer (some ⟨g, 0, none⟩), .pointer (some ⟨gf, 0, none⟩), .pointer (some ⟨gm, 0, none⟩), .pointer (some ⟨gt, 0, none⟩)] (by rfl) rfl ?_ ?_
           ·first | (go_simp; done) | (go_simp; rfl)
           with_reducible refine (HIH.out k3 (by have := HK.out; omega) An cn y2 z z2 _ (below_step HB.out HB3.out) HG3.out ((HB3.out.block gf (lt_of_some HGF1.out)).trans HGF1.out) (Kd.R_below HRF1.out HB3.out) (Kd.R_lower HO29.out HB.out.size) (HV.out.below HB3.out) HZ.out).mono ?_
           rintro e wc ⟨rfl, hd1, hd2, hd3, hd4⟩
           have HB4 := am hd1
           have HV4 := am hd2
           have HKp4 := am ((HKp.out.of_below HB3.out).trans hd3)
           have HG4 := am ((hd3.2 gt 85 _ (by decide) HG3.out).trans HG3.out)
           have HFp4 := am (hd4.trans ((HB3.out.block gf (lt_of_some HGF1.out)).trans HFp.out))
           clear hd1 hd2 hd3 hd4
           refine ⟨_, rfl, ?_⟩
           refine hK.out _ _ (blk_cell HG4.out 0) (fun hHeld => ?_)
           clear hK K
           refine norm_ (a' := ?_) ?_ ?_
           rotate_left
           ·show Act.put _ (some 84) _ = _
            simp only [Act.put, List.setIfInBounds_toArray, List.set_cons_zero, List.set_cons_succ, i64_w, i32_w]
            rfl
           refine done_ (by kernel_rfl) ?_
           go_wp2
           go_roundg k3
           case measure => have := HK.out; omega
           case rel => exact ⟨z2, wrap64 (q + 1), rfl, HH, ⟨by have := HK.out; omega⟩, HB4, HV4, HKp4, HFp4⟩
          ·refine event_step (v := .slice (some ⟨wd.heap.size, 0, none⟩) 1 1) (w1 := wd.alloc (Obj.cells #[.int .i64 (rd y q)] 3)) (by rfl) ?_ ?_
           ·first | (go_simp; done) | (go_simp; rfl)
           have HGw := am (blk_alloc HGd.out (Obj.cells #[.int .i64 (rd y q)] 3))
           have HBw := am (HBd.out.alloc HBd.out.size (Obj.cells #[.int .i64 (rd y q)] 3))
           have HNw := am (blk_new wd (Obj.cells #[.int .i64 (rd y q)] 3))
           refine hK.out _ _ (blk_cell HGw.out 0) (fun hHeld => ?_)
           clear hK K
           refine norm_ (a' := ?_) ?_ ?_
           rotate_left
           ·show Act.put _ (some 82) _ = _
            simp only [Act.put, List.setIfInBounds_toArray, List.set_cons_zero, List.set_cons_succ, i64_w, i32_w]
            rfl
           refine one_ (i := 2) (N := some 80) #[true, true, true, true, true, false, false] rfl rfl (by kernel_rfl) (by decide) (fun K hK => ?_)
           refine goes_ Try.func79 (by kernel_rfl) rfl #[.slice A4 l4.length c4] (by rfl) rfl rfl (by (try simp only [List.map_toArray, List.map_cons, List.map_nil]); first | done | rfl) ?_
           with_reducible refine (slices_Clone_int_int.calls A4 c4 l4 l4 _ (Kd.C_below (Kd.R_reads' HR1.out).2.2 HBw.out) (Kd.R_reads' HR1.out).2.1 HCL.out).mono ?_
           rintro e wb ⟨v26, rfl, hv26, hd⟩
           have HO26 := am hv26
           have HB1 := am (below_step HBw.out hd)
           have HGb := am (blk_below HGw.out hd)
           have HNb := am (blk_below HNw.out hd)
           clear hv26 hd
           refine ⟨_, rfl, ?_⟩
           refine hK.out _ _ (blk_cell HGb.out 0) (fun hHeld => ?_)
           clear hK K
           refine norm_ (a' := ?_) ?_ ?_
           rotate_left
           ·show Act.put _ (some 80) _ = _
            simp only [Act.put, List.setIfInBounds_toArray, List.set_cons_zero, List.set_cons_succ, i64_w, i32_w]
            rfl
           refine one_ (i := 5) (N := some 83) #[true, true, true, true, true, true, false] rfl rfl (by kernel_rfl) (by decide) (fun K hK => ?_)
           refine int_lies_step (w0 := wr) (base := wr.heap.size) (ok := fun _ => True) rfl (.tmp 80) (.tmp 82) 36 3 rfl Try.underlying36 hi3 v26 l4 (rd y q) wd.heap.size rfl rfl (Kd.R_lower HO26.out HBw.out.size) HNb.out HB1.out HB1.out.size (fun _ _ => trivial) (by have := LM.out; omega) ?_
           intro v29 w3 ho hb hg
           rw [← Ny.out] at ho
           obtain ⟨An, cn, en⟩ := Kd.R_slice ho
           subst en
           have HO29 := am ho
           have HB3 := am hb
           have HG3 := am (blk_grown HGb.out hg (Kd.R_ne HO26.out HGb.out (by decide)))
           clear ho hb hg
           refine hK.out _ _ (blk_cell HG3.out 0) (fun hHeld => ?_)
           clear hK K
           refine norm_ (a' := ?_) ?_ ?_
           rotate_left
           ·show Act.put _ (some 83) _ = _
            simp only [Act.put, List.setIfInBounds_toArray, List.set_cons_zero, List.set_cons_succ, i64_w, i32_w]
            rfl
           refine one_ (i := 6) (N := some 84) #[true, true, true, true, true, true, true] rfl rfl (by kernel_rfl) (by decide) (fun K hK => ?_)
           refine call_ 84 #[.slice An y2.length cn, .pointer (some ⟨gp, 0, none⟩), .pointer (some ⟨g, 0, none⟩), .pointer (some ⟨gf, 0, none⟩), .pointer (some ⟨gm, 0, none⟩), .pointer (some ⟨gt, 0, none⟩)] (by rfl) rfl ?_ ?_
           ·first | (go_simp; done) | (go_simp; rfl)
           with_reducible refine (HIH.out k3 (by have := HK.out; omega) An cn y2 z z2 _ (below_step HB.out HB3.out) HG3.out ((HB3.out.block gf (lt_of_some HGF1.out)).trans HGF1.out) (Kd.R_below HRF1.out HB3.out) (Kd.R_lower HO29.out HB.out.size) (HV.out.below HB3.out) HZ.out).mono ?_
           rintro e wc ⟨rfl, hd1, hd2, hd3, hd4⟩
           have HB4 := am hd1
           have HV4 := am hd2
           have HKp4 := am ((HKp.out.of_below HB3.out).trans hd3)
           have HG4 := am ((hd3.2 gt 85 _ (by decide) HG3.out).trans HG3.out)
           have HFp4 := am (hd4.trans ((HB3.out.block gf (lt_of_some HGF1.out)).trans HFp.out))
           clear hd1 hd2 hd3 hd4
           refine ⟨_, rfl, ?_⟩
           refine hK.out _ _ (blk_cell HG4.out 0) (fun hHeld => ?_)
           clear hK K
           refine norm_ (a' := ?_) ?_ ?_
           rotate_left
           ·show Act.put _ (some 84) _ = _
            simp only [Act.put, List.setIfInBounds_toArray, List.set_cons_zero, List.set_cons_succ, i64_w, i32_w]
            rfl
           refine done_ (by kernel_rfl) ?_
           go_wp2
           go_roundg k3
           case measure => have := HK.out; omega
           case rel => exact ⟨z2, wrap64 (q + 1), rfl, HH, ⟨by have := HK.out; omega⟩, HB4, HV4, HKp4, HFp4⟩
         ·rw [if_neg c17] at H
          have c17b0 : decide ((z.length : Int) < amv) = false := decide_eq_false c17
          clear c17
          have H' := am H
          clear H
          go_wp2_with fail
          go_roundg k3
          case measure => have := HK.out; omega
          case rel => exact ⟨z, wrap64 (q + 1), rfl, H', ⟨by have := HK.out; omega⟩, HB, HV, HKp, HFp⟩
        ·rw [if_neg c15] at H
         have c15b0 : decide (q < (y.length : Int)) = false := decide_eq_false c15
         clear c15
         have e0 : z = r := Option.some.inj H
         subst e0
         go_wp2_with fail
         go_end0
         exact ⟨rfl, HB.out, HV.out, ((Keep.refl _ _).of_below HWY.out).trans HKp.out, HFp.out.trans (HWY.out.block gf (lt_of_some HGF.out))⟩
--@import Derived.Laws.EntriesVeiled
def impl_firstPictures.l0 : Nat → Int → List Int → Int → Option (List Int)
 | 0, _, _, _ => none
 | k + 1, n, lf, i => if i < n then (if lf.length < 4398046511104 then (impl_firstPictures.l0 k n (lf ++ [(-1)]) (wrap64 (i + 1))) else none) else (some lf)
def impl_firstPictures.f (k : Nat) (l0 : List (List Int)) (l1 : List (List Int)) (a1 : Int) : Option (List (List Int)) := (impl_firstPictures.l0 k (l1.length : Int) [] 0).bind fun lf => (impl_firstPictures_1.f k l0 l1 lf a1 [] [])
set_option maxHeartbeats 8000000 in
set_option maxRecDepth 100000 in
theorem impl_firstPictures.calls (k : Nat) (A0_0 : Option Addr) (c0_0 : Nat) (l0_0 : List (List Int)) (A0_1 : Option Addr) (c0_1 : Nat) (l0_1 : List (List Int)) (a1 : Int) (r : List (List Int)) (w : World) (hr0_0 : Kd.C (Kd.slice 3 (Kd.int .i64)) w A0_0 l0_0.length l0_0) (hc0_0 : l0_0.length ≤ c0_0) (hr0_1 : Kd.C (Kd.slice 3 (Kd.int .i64)) w A0_1 l0_1.length l0_1) (hc0_1 : l0_1.length ≤ c0_1) (h : impl_firstPictures.f k l0_0 l0_1 a1 = some r) :
  Calls Try.prog 54 #[.agg #[.slice A0_0 l0_0.length c0_0, .slice A0_1 l0_1.length c0_1], .int .i64 a1] w fun e w' => ∃ v0_ : Value, e = .returned (v0_) ∧ Kd.R (Kd.slice 3 (Kd.int .i64)) 36 w' w.heap.size (fun _ => True) v0_ r ∧ Below w.heap.size w w' := by
 obtain ⟨lf, hlf, h⟩ := Option.bind_eq_some_iff.mp h
 have hu25 := Try.underlying25
 have HL := am hlf
 have HZ := am h
 have HB0 := am (Below.refl w.heap.size w)
 clear h hlf
 obtain ⟨W1, hW1⟩ : ∃ W1 : World, W1 = (w.alloc (Obj.cells #[.slice A0_0 l0_0.length c0_0, .slice A0_1 l0_1.length c0_1] 25)).alloc (Obj.cells #[.int .i64 a1] 3) := ⟨_, rfl⟩
 have HW1 := am hW1
 have hsz : W1.heap.size = w.heap.size + 2 := by rw [hW1]; simp
 have HS1 := am hsz
 have HGP : Aside0 (W1.heap[w.heap.size]? = some (Obj.cells #[.slice A0_0 l0_0.length c0_0, .slice A0_1 l0_1.length c0_1] 25 (0, 0))) := ⟨by rw [hW1]; exact blk_alloc (blk_new _ _) _⟩
 have HGM : Aside0 (W1.heap[w.heap.size + 1]? = some (Obj.cells #[.int .i64 a1] 3 (0, 0))) := ⟨by rw [hW1]; have h1 := blk_new (w.alloc (Obj.cells #[.slice A0_0 l0_0.length c0_0, .slice A0_1 l0_1.length c0_1] 25)) (Obj.cells #[.int .i64 a1] 3); simpa using h1⟩
 have HBW : Aside0 (Below w.heap.size w W1) := ⟨by rw [hW1]; exact ((Below.refl _ _).alloc (Nat.le_refl _) _).alloc (by simp) _⟩
 have HR0 : Aside0 (Kd.C (Kd.slice 3 (Kd.int .i64)) W1 A0_0 l0_0.length l0_0) := ⟨Kd.C_below hr0_0 HBW.out⟩
 have HR1 : Aside0 (Kd.C (Kd.slice 3 (Kd.int .i64)) W1 A0_1 l0_1.length l0_1) := ⟨Kd.C_below hr0_1 HBW.out⟩
 have HB1 := am (Below.refl W1.heap.size W1)
 clear hW1 hsz hr0_0 hr0_1
 go_enter Try.func54, Try.ntmps54
 go_wp2_with (first | ((with_reducible refine gate_dst (N := 8) rfl ?_); rw [← HW1.out]; refine Kd.R_lit (Kd.slice 3 (Kd.int .i64)) (w0 := W1) W1.heap.size 36 ?hg (N := 8) ?hd (xs := ([] : List (List Int))) (inner := []) (ok := fun _ => True) (okp := fun _ => True) ?hr ?hp (fun _ hk => hk) trivial HB1.out (Nat.le_refl _) (by simp) ?_; (case hd => rfl); (case hg => rfl); (case hr => first | (go_simp; done) | (go_simp; rfl)); (case hp => exact Reps.none _ _); intro v8 w1 ho hb hg_ hnew_; obtain ⟨Ad8, cd8, ev8⟩ := Kd.R_slice ho; subst ev8; have HV8 := am ho; have HB2 := am hb; clear ho hb hg_ hnew_) | ((with_reducible refine gate_dst (N := 9) rfl ?_); obtain ⟨Wx, hWx⟩ : ∃ Wx : World, Wx = w1.alloc (Obj.cells #[Value.slice Ad8 0 cd8] 23) := ⟨_, rfl⟩; have HWX := am hWx; rw [← HWX.out]; clear hWx; refine Kd.R_lit (Kd.int .i64) (w0 := Wx) Wx.heap.size 3 ?hg (N := 9) ?hd (xs := ([] : List Int)) (inner := []) (ok := fun _ => True) (okp := fun _ => True) ?hr ?hp (fun _ hk => hk) trivial (Below.refl _ _) (Nat.le_refl _) (by simp) ?_; (case hd => rfl); (case hg => rfl); (case hr => first | (go_simp; done) | (go_simp; rfl)); (case hp => exact Reps.none _ _); intro v9 w2 ho hb hg_ hnew_; obtain ⟨Ad9, cd9, ev9⟩ := Kd.R_slice ho; subst ev9; have HV9 := am ho; have HB3 := am hb; have HBX : Aside0 (Below W1.heap.size W1 Wx) := ⟨by rw [HWX.out]; exact HB2.out.alloc HB2.out.size _⟩; have cp0 : (w2.alloc (Obj.cells #[Value.slice Ad9 0 cd9] 36)).cell? ⟨w.heap.size, 1, none⟩ = some (.slice A0_1 l0_1.length c0_1) := blk_cell (blk_alloc (((below_then HBX.out HBX.out.size HB3.out).block _ (lt_of_some HGP.out)).trans HGP.out) _) 1; clear ho hb hg_ hnew_))
 go_loopg [13] k (fun kq v13 w' => ∃ (x : List Int) (i : Int), v13 = .int .i64 i ∧ Aside0 (impl_firstPictures.l0 kq (l0_1.length : Int) x i = some lf) ∧ Aside0 (kq ≤ k) ∧ Aside0 (Below Wx.heap.size Wx w') ∧ Aside0 (Var (Kd.int .i64) 3 36 w2.heap.size Wx.heap.size w' x))
 case atStart => exact ⟨[], 0, rfl, HL, ⟨Nat.le_refl _⟩, ⟨HB3.out.alloc HB3.out.size _⟩, ⟨_, blk_new _ _, Kd.R_alloc HV9.out _⟩⟩
 case round =>
  clear HL cp0
  obtain ⟨x, i, rfl, HA, HK, HB, HV⟩ := hrel
  obtain ⟨vf, hvg, hvr⟩ := HV.out
  obtain ⟨Af, cf, ef⟩ := Kd.R_slice hvr
  subst ef
  have HVG := am hvg
  have HVR := am hvr
  have cvf : wr.cell? ⟨w2.heap.size, 0, none⟩ = some (.slice Af x.length cf) := blk_cell hvg 0
  clear hvg hvr
  cases gk with
  | zero => exact absurd HA.out (by simp [impl_firstPictures.l0])
  | succ k1 =>
   have H := HA.out
   clear HA
   rw [impl_firstPictures.l0] at H
   by_cases c5 : i < (l0_1.length : Int)
   ·rw [if_pos c5] at H
    have c5b0 : decide (i < (l0_1.length : Int)) = true := decide_eq_true c5
    clear c5
    have q_ := ifs H
    clear H
    obtain ⟨c6, H⟩ := q_
    have LM := am c6
    clear c6
    have H' := am H
    clear H
    go_wp2_with (first | ((with_reducible refine gate_builtin (b := .append) (xs := #[.tmp 15, .tmp 16]) rfl ?_); at_builtin; refine Kd.R_append (Kd.int .i64) (w0 := Wx) Wx.heap.size rfl (.tmp 15) (.tmp 16) 36 3 (.int .i64 0) 8 rfl Try.underlying36 info3 rfl (by decide) (by omega) (.slice Af x.length cf) x (-1) [.int .i64 (-1)] (fun _ => True) (fun _ => False) rfl rfl ?aP (fun _ hk => hk.elim) ?aF ?aO ?aB ?aS ?aL ?_; (case aP => exact rfl); (case aB => exact HB.out); (case aF => exact (fun _ _ => trivial)); (case aO => exact HVR.out); (case aS => exact HB.out.size); (case aL => have := LM.out; omega); intro v17 w10 ho hb hgr hat; obtain ⟨Ad1, cd1, ev1⟩ := Kd.R_slice ho; subst ev1; have HO := am ho; have HB4 := am hb; have hg1 := blk_grown HVG.out hgr (Kd.R_ne HVR.out HVG.out (by decide)); have HGG := am hg1; have hfz1 := blk_frozen hg1 0; have hcell1 := blk_cell hg1 0; clear hg1 ho hb hgr hat))
    go_roundg k1
    case measure => have := HK.out; omega
    case rel =>
     refine ⟨x ++ [(-1)], wrap64 (i + 1), rfl, H', ⟨by have := HK.out; omega⟩, ⟨HB4.out.setCell HB3.out.size _⟩, ⟨_, blk_put HGG.out 0 _ rfl, ?_⟩⟩
     have h1 := Kd.R_set HO.out HGG.out (by simp [Kd.int, Kd.scalar]) 0 (.slice Ad1 (x.length + 1) cd1)
     rw [List.length_append, List.length_singleton] at h1
     exact h1
   ·rw [if_neg c5] at H
    have c5b0 : decide (i < (l0_1.length : Int)) = false := decide_eq_false c5
    clear c5
    have e0 : x = lf := Option.some.inj H
    subst e0
    clear H
    have hbx := below_then HBX.out HBX.out.size HB.out
    have HBT := am hbx
    have HV8X := am (Kd.R_below (by rw [HWX.out]; exact Kd.R_alloc HV8.out _ : Kd.R (Kd.slice 3 (Kd.int .i64)) 36 Wx W1.heap.size (fun _ => True) (.slice Ad8 0 cd8) []) HB.out)
    have HSX : Aside0 (Wx.heap.size = w1.heap.size + 1) := ⟨by rw [HWX.out]; simp⟩
    have HGX : Aside0 (wr.heap[w1.heap.size]? = some (Obj.cells #[.slice Ad8 0 cd8] 23 (0, 0))) := ⟨(HB.out.block _ (by have := HSX.out; omega)).trans (by rw [HWX.out]; exact blk_new _ _)⟩
    have HV8N : Aside0 (Kd.R (Kd.slice 3 (Kd.int .i64)) 36 wr W1.heap.size (fun k => k ≠ w2.heap.size) (.slice Ad8 0 cd8) []) := ⟨Kd.R_below (Kd.R_mono (Kd.R_bound (by rw [HWX.out]; exact Kd.R_alloc HV8.out _ : Kd.R (Kd.slice 3 (Kd.int .i64)) 36 Wx W1.heap.size (fun _ => True) (.slice Ad8 0 cd8) [])) (fun q hq => by have h1 := hq.2.2.1; have h2 := HB3.out.size; omega)) HB.out⟩
    clear hbx
    go_wp2_with (first | (go_at_call 84; refine (impl_firstPictures_1.calls W1 w.heap.size (w.heap.size + 1) w1.heap.size w2.heap.size wr.heap.size HB2.out.size (Nat.le_trans HBX.out.size HB3.out.size) (by have h1 := HSX.out; have h2 := HB3.out.size; omega) A0_0 c0_0 l0_0 A0_1 c0_1 l0_1 a1 Af cf x HR0.out hc0_0 HR1.out hc0_1 HGP.out HGM.out k none 0 [] [] r _ (HBT.out.alloc HBT.out.size _) (blk_new _ _) (blk_alloc HVG.out _) (Kd.R_lower (Kd.R_alloc HVR.out _) HBX.out.size) (Kd.R_nil _ _ _ _ _) ⟨_, blk_alloc HGX.out _, Kd.R_alloc HV8N.out _⟩ HZ.out).mono ?_; rintro e wb ⟨rfl, hd1, ⟨vz, hz, hrz⟩, hd3, hd4⟩; have hcz : wb.cell? ⟨w1.heap.size, 0, none⟩ = some vz := blk_cell hz 0; have HBz := am hd1; have HVz := am hrz; clear hd1 hz hrz hd3 hd4))
    go_ret
    exact ⟨_, rfl, Kd.R_lower (Kd.R_mono HVz.out (fun _ _ => trivial)) HBW.out.size, below_then HBW.out HBW.out.size HBz.out⟩
end Go.Proofs.Ytapnohcfnclleaa.PFnPictureLines
