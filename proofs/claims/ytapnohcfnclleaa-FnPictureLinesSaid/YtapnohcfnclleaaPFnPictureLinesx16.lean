-- Made by a program of this session (the kit print, shortened, twice): the kit print itself does not give this text
import Derived.Test.YtapnohcfnclleaaV4
import Derived.Test.YtapnohcfnclleaaPFnPictureLinesx0
import Derived.Test.YtapnohcfnclleaaPFnPictureLinesx5
import Derived.Test.YtapnohcfnclleaaPFnPictureLinesx8
import Derived.Test.YtapnohcfnclleaaPFnPictureLinesx9
import Derived.Test.YtapnohcfnclleaaPFnPictureLinesx12
import Derived.Test.YtapnohcfnclleaaPFnPictureLinesx15
import Derived.Test.YtapnohcfnclleaaV2
namespace Go.Proofs.Ytapnohcfnclleaa.PFnPictureLines
open Go.RowKit Go.Proofs.YtapnohcfnclleaaW.PrintWords Go.Proofs.YtapnohcfnclleaaW.PrintLast Go.Proofs.YtapnohcfnclleaaW.PrintMore
attribute [local go_sem] max2_int min2_int max_two min_two max_three min_three max_four min_four   -- for this text's walks alone
set_option linter.unusedVariables false
set_option linter.unusedSimpArgs false
/-! ### laws_FnPictureLines: function 3 -/
--@import Derived.Test.YtapnohcfnclleaaV2
open Go.Proofs.Ytapnohcfnclleaa.My
def okC (v : Int) (b : Bool) : Bool := !((v == 0) && b) && !((v == 1) && !b)
mutual
def laws_FnPictureLines.l0 : Nat → List (List Int) → List (List Bool) → Bool → Bool → Int → List (List Int) → List (List Int) → Option Bool
 | 0, _, _, _, _, _, _, _ => none
 | k + 1, g, F, fd, al, i, X0, X1 => if i < (g.length : Int) then (if 0 ≤ i then ((laws_sameInts.f k (rd_L1 g i) (rd_L1 g i)).bind fun s => (if s = true then (laws_FnPictureLines.l1 k g F fd al i 0 X0 X1) else none)) else none) else (if al = true then (if fd = true then ((impl_PictureCount.f k X0 X1 2).bind fun n => (if n = 1 then some true else none)) else none) else some true)
def laws_FnPictureLines.l1 : Nat → List (List Int) → List (List Bool) → Bool → Bool → Int → Int → List (List Int) → List (List Int) → Option Bool
 | 0, _, _, _, _, _, _, _, _ => none
 | k + 1, g, F, fd, al, i, c, X0, X1 => if c < ((rd_L1 g i).length : Int) then (if 0 ≤ c then (if fd = true then (if i < (F.length : Int) then (if c < ((rd_L3 F i).length : Int) then (if okC (rd (rd_L1 g i) c) (rdOf false (rd_L3 F i) c) = true then (laws_FnPictureLines.l1 k g F fd (al && (rd (rd_L1 g i) c != -1)) i (wrap64 (c + 1)) X0 X1) else none) else none) else none) else (laws_FnPictureLines.l1 k g F fd (al && (rd (rd_L1 g i) c != -1)) i (wrap64 (c + 1)) X0 X1)) else none) else (laws_FnPictureLines.l0 k g F fd al (wrap64 (i + 1)) X0 X1)
end
def laws_FnPictureLines.f (k : Nat) (l0 : List Int) : Option Bool := if (l0.length : Int) > 1048576 then some true else ((spec_DrawPictureLines.f k l0).bind fun p => ((impl_PictureLines.f k p.1 p.2).bind fun x => ((spec_PictureLines.f k p.1 p.2).bind fun y => (if x = y then (if x.2 = true then ((impl_PictureFirst.f k p.1 p.2).bind fun q => (laws_FnPictureLines.l0 k x.1 q.1 q.2 true 0 p.1 p.2)) else ((spec_PictureValid.f k p.1 p.2).bind fun v => (if v = true then ((impl_PictureCount.f k p.1 p.2 1).bind fun n => (if n = 0 then (if x.1 = [] then ((laws_alive.f k).bind fun b => (if b = true then some true else none)) else none) else none)) else (if x.1 = [] then ((laws_alive.f k).bind fun b => (if b = true then some true else none)) else none)))) else none))))
set_option maxHeartbeats 8000000 in
set_option maxRecDepth 100000 in
theorem laws_FnPictureLines.calls (k : Nat) (A0 : Option Addr) (c0 : Nat) (l0 : List Int) (r : Bool) (w : World) (hr0 : Kd.C (Kd.int .u8) w A0 l0.length l0) (hc0 : l0.length ≤ c0) (h : laws_FnPictureLines.f k l0 = some r) :
  Calls Try.prog 3 #[.slice A0 l0.length c0] w fun e w' => e = .returned (.bool r) ∧ Below w.heap.size w w' := by
 have hu25 := Try.underlying25
 have HR0 := am hr0
 clear hr0
 unfold laws_FnPictureLines.f at h
 by_cases c1 : (l0.length : Int) > 1048576
 ·rw [if_pos c1] at h
  obtain rfl := Option.some.inj h
  have b1 : decide (1048576 < (l0.length : Int)) = true := decide_eq_true c1
  have b2 : decide (1048576 < l0.length) = true := decide_eq_true (by omega)
  clear h c1
  go_enter Try.func3, Try.ntmps3
  go_wp2
  go_ret
  exact ⟨rfl, Below.refl _ _⟩
 rw [if_neg c1] at h
 have b1 : decide (1048576 < (l0.length : Int)) = false := decide_eq_false c1
 have b2 : decide (1048576 < l0.length) = false := decide_eq_false (by omega)
 clear c1
 obtain ⟨⟨X0, X1⟩, hd, h⟩ := Option.bind_eq_some_iff.mp h
 obtain ⟨⟨g, ok⟩, hx, h⟩ := Option.bind_eq_some_iff.mp h
 obtain ⟨y, hy, h⟩ := Option.bind_eq_some_iff.mp h
 dsimp only at hx hy
 by_cases c2 : (g, ok) = y
 case neg => rw [if_neg c2] at h; exact absurd h (by simp)
 subst c2
 rw [if_pos rfl] at h
 dsimp only at h
 have b3 : ((g.length : Int) != (g.length : Int)) = false := by simp
 have HD := am hd
 have HLX := am hx
 have HLY := am hy
 clear hd hx hy
 cases ok with
 | false =>
  rw [if_neg (by decide)] at h
  obtain ⟨v, hv, h⟩ := Option.bind_eq_some_iff.mp h
  have HV := am hv
  clear hv
  cases v with
  | false =>
   rw [if_neg (by decide)] at h
   by_cases c4 : g = []
   case neg => rw [if_neg c4] at h; exact absurd h (by simp)
   rw [if_pos c4] at h
   obtain ⟨b, hb2, h⟩ := Option.bind_eq_some_iff.mp h
   by_cases c5 : b = true
   case neg => rw [if_neg c5] at h; exact absurd h (by simp)
   rw [if_pos c5] at h
   subst c5
   obtain rfl := Option.some.inj h
   have HV2 := am hb2
   have b4 : ((g.length : Int) == 0) = true := by rw [c4]; rfl
   clear h hb2 c4
   go_enter Try.func3, Try.ntmps3
   go_wp2_with (first | ((with_reducible refine gate_callee (f := 14) rfl ?_); refine goesL_ (some 17) rfl rfl Try.func14 (by kernel_rfl) rfl #[.slice A0 l0.length c0] rfl (by (try simp only [List.map_toArray, List.map_cons, List.map_nil]); first | done | rfl) ?_; (with_reducible refine (spec_DrawPictureLines.calls k A0 c0 l0 X0 X1 _ HR0.out hc0 HD.out).mono ?_); rintro e wv1 ⟨v0_, v1_, rfl, ho0, ho1, hb⟩; refine ⟨_, rfl, ?_⟩; obtain ⟨AP0, cP0, e_⟩ := Kd.N_slice ho0; subst e_; obtain ⟨AP1, cP1, e_⟩ := Kd.N_slice ho1; subst e_; have HB := am hb; have HP0 := am (Kd.N_reads' ho0).2.2; have HC0 := am (Kd.N_reads' ho0).2.1; have HP1 := am (Kd.N_reads' ho1).2.2; have HC1 := am (Kd.N_reads' ho1).2.1; clear ho0 ho1 hb) | ((with_reducible refine gate_dst (N := 3) rfl ?_); refine box_event ?hg (N := 3) ?hd (cs := #[.slice none 0 0, .slice none 0 0]) (t := 25) ?hr ?_; (case hd => rfl); (case hg => rfl); (case hr => first | (go_simp; done) | (go_simp; rfl)); intro bp hg wx1 hbox hb; have GE : Aside0 (wv1.heap.size ≤ bp) := ⟨by rw [hg]; exact Nat.le_refl _⟩; have HB7 := am hb; have HPB := am hbox; clear hb hbox hg; have cz0 : wx1.cell? ⟨bp, 0, none⟩ = some (.slice none 0 0) := blk_cell HPB.out 0; have cz1 : wx1.cell? ⟨bp, 1, none⟩ = some (.slice none 0 0) := blk_cell HPB.out 1; have cf0 := blk_frozen HPB.out 0; have cf1 := blk_frozen HPB.out 1) | ((with_reducible refine gate_callee (f := 15) rfl ?_); obtain ⟨wx2, hwx2⟩ : ∃ W_ : World, W_ = (wx1.setCell ⟨bp, 0, none⟩ (.slice AP0 X0.length cP0)).setCell ⟨bp, 1, none⟩ (.slice AP1 X1.length cP1) := ⟨_, rfl⟩; rw [← hwx2]; have hb : Below wv1.heap.size wv1 wx2 := (by rw [hwx2]; exact below_set (below_set HB7.out GE.out) GE.out); have m2_ : Aside0 (wx2.heap[bp]? = some (Obj.cells #[(.slice AP0 X0.length cP0), (.slice AP1 X1.length cP1)] 25 (0, 0))) := ⟨by rw [hwx2]; exact blk_put (cs := #[(.slice AP0 X0.length cP0), .slice none 0 0]) (blk_put (cs := #[.slice none 0 0, .slice none 0 0]) HPB.out 0 _ rfl) 1 _ rfl⟩; clear hwx2 cz0 cz1 cf0 cf1 HPB; have HPB := m2_; clear m2_; have n0_ := am (below_step HB.out hb); have n1_ := am (Kd.C_below HP0.out hb); have n2_ := am (Kd.C_below HP1.out hb); clear HB HP0 HP1 hb; revert n0_ n1_ n2_; intro HB HP0 HP1; refine goesL_ (some 20) rfl rfl Try.func15 (by kernel_rfl) rfl #[.agg #[.slice AP0 X0.length cP0, .slice AP1 X1.length cP1]] rfl (by (try simp only [List.map_toArray, List.map_cons, List.map_nil]); first | done | rfl) ?_; (with_reducible refine (impl_PictureLines.calls k AP0 cP0 X0 AP1 cP1 X1 g _ _ HP0.out HC0.out HP1.out HC1.out HLX.out).mono ?_); rintro e wv2 ⟨v_, rfl, ho, hb⟩; refine ⟨_, rfl, ?_⟩; obtain ⟨AX, cX, e_⟩ := Kd.S_slice ho; subst e_; have n0_ := am (below_step HB.out hb); have n1_ := am (blk_lower' HPB.out hb); have n2_ := am (Kd.C_below HP0.out hb); have n3_ := am (Kd.C_below HP1.out hb); (try clear HB); (try clear HPB); (try clear HP0); (try clear HP1); revert n0_ n1_ n2_ n3_; intro HB HPB HP0 HP1; have HX := am (Kd.S_reads' ho).2.2; have HCX := am (Kd.S_reads' ho).2.1; clear ho hb; (try clear cp0); (try clear cp1); have cp0 : wv2.cell? ⟨bp, 0, none⟩ = some (.slice AP0 X0.length cP0) := blk_cell HPB.out 0; have cp1 : wv2.cell? ⟨bp, 1, none⟩ = some (.slice AP1 X1.length cP1) := blk_cell HPB.out 1) | ((with_reducible refine gate_callee (f := 16) rfl ?_); refine goesL_ (some 25) rfl rfl Try.func16 (by kernel_rfl) rfl #[.agg #[.slice AP0 X0.length cP0, .slice AP1 X1.length cP1]] rfl (by (try simp only [List.map_toArray, List.map_cons, List.map_nil]); first | done | rfl) ?_; (with_reducible refine (spec_PictureLines.calls k AP0 cP0 X0 AP1 cP1 X1 g _ _ HP0.out HC0.out HP1.out HC1.out HLY.out).mono ?_); rintro e wv3 ⟨v_, rfl, ho, hb⟩; refine ⟨_, rfl, ?_⟩; obtain ⟨AY, cY, e_⟩ := Kd.S_slice ho; subst e_; have n0_ := am (below_step HB.out hb); have n1_ := am (blk_lower' HPB.out hb); have n2_ := am (Kd.C_below HP0.out hb); have n3_ := am (Kd.C_below HP1.out hb); have n4_ := am (Kd.C_below HX.out hb); (try clear HB); (try clear HPB); (try clear HP0); (try clear HP1); (try clear HX); revert n0_ n1_ n2_ n3_ n4_; intro HB HPB HP0 HP1 HX; have HY := am (Kd.S_reads' ho).2.2; have HCY := am (Kd.S_reads' ho).2.1; clear ho hb; (try clear cp0); (try clear cp1); have cp0 : wv3.cell? ⟨bp, 0, none⟩ = some (.slice AP0 X0.length cP0) := blk_cell HPB.out 0; have cp1 : wv3.cell? ⟨bp, 1, none⟩ = some (.slice AP1 X1.length cP1) := blk_cell HPB.out 1) | ((with_reducible refine gate_callee (f := 17) rfl ?_); refine goesL_ (some 41) rfl rfl Try.func17 (by kernel_rfl) rfl #[.agg #[.slice AP0 X0.length cP0, .slice AP1 X1.length cP1]] rfl (by (try simp only [List.map_toArray, List.map_cons, List.map_nil]); first | done | rfl) ?_; (with_reducible refine (spec_PictureValid.calls k AP0 cP0 X0 AP1 cP1 X1 false _ HP0.out HC0.out HP1.out HC1.out HV.out).mono ?_); rintro e wv4 ⟨rfl, hb⟩; refine ⟨_, rfl, ?_⟩; have n0_ := am (below_step HB.out hb); have n1_ := am (blk_lower' HPB.out hb); have n2_ := am (Kd.C_below HP0.out hb); have n3_ := am (Kd.C_below HP1.out hb); have n4_ := am (Kd.C_below HX.out hb); have n5_ := am (Kd.C_below HY.out hb); (try clear HB); (try clear HPB); (try clear HP0); (try clear HP1); (try clear HX); (try clear HY); revert n0_ n1_ n2_ n3_ n4_ n5_; intro HB HPB HP0 HP1 HX HY; (try clear hb); (try clear cp0); (try clear cp1); have cp0 : wv4.cell? ⟨bp, 0, none⟩ = some (.slice AP0 X0.length cP0) := blk_cell HPB.out 0; have cp1 : wv4.cell? ⟨bp, 1, none⟩ = some (.slice AP1 X1.length cP1) := blk_cell HPB.out 1) | (go_at_call 18; (with_reducible refine (impl_PictureCount.calls k AP0 cP0 X0 AP1 cP1 X1 1 0 _ HP0.out HC0.out HP1.out HC1.out HN.out).mono ?_); rintro e wv5 ⟨rfl, hb⟩; have n0_ := am (below_step HB.out hb); have n1_ := am (blk_lower' HPB.out hb); have n2_ := am (Kd.C_below HP0.out hb); have n3_ := am (Kd.C_below HP1.out hb); have n4_ := am (Kd.C_below HX.out hb); have n5_ := am (Kd.C_below HY.out hb); (try clear HB); (try clear HPB); (try clear HP0); (try clear HP1); (try clear HX); (try clear HY); revert n0_ n1_ n2_ n3_ n4_ n5_; intro HB HPB HP0 HP1 HX HY; (try clear hb); (try clear cp0); (try clear cp1); have cp0 : wv5.cell? ⟨bp, 0, none⟩ = some (.slice AP0 X0.length cP0) := blk_cell HPB.out 0; have cp1 : wv5.cell? ⟨bp, 1, none⟩ = some (.slice AP1 X1.length cP1) := blk_cell HPB.out 1) | (go_at_call 19; (with_reducible refine (laws_alive.calls k true _ HV2.out).mono ?_); rintro e wv6 ⟨rfl, hb⟩; have n0_ := am (below_step HB.out hb); have n1_ := am (blk_lower' HPB.out hb); have n2_ := am (Kd.C_below HP0.out hb); have n3_ := am (Kd.C_below HP1.out hb); have n4_ := am (Kd.C_below HX.out hb); have n5_ := am (Kd.C_below HY.out hb); (try clear HB); (try clear HPB); (try clear HP0); (try clear HP1); (try clear HX); (try clear HY); revert n0_ n1_ n2_ n3_ n4_ n5_; intro HB HPB HP0 HP1 HX HY; (try clear hb); (try clear cp0); (try clear cp1); have cp0 : wv6.cell? ⟨bp, 0, none⟩ = some (.slice AP0 X0.length cP0) := blk_cell HPB.out 0; have cp1 : wv6.cell? ⟨bp, 1, none⟩ = some (.slice AP1 X1.length cP1) := blk_cell HPB.out 1))
   go_ret
   exact ⟨rfl, HB.out⟩
  | true =>
   rw [if_pos rfl] at h
   obtain ⟨n, hn, h⟩ := Option.bind_eq_some_iff.mp h
   by_cases c3 : n = 0
   case neg => rw [if_neg c3] at h; exact absurd h (by simp)
   subst c3
   rw [if_pos rfl] at h
   by_cases c4 : g = []
   case neg => rw [if_neg c4] at h; exact absurd h (by simp)
   rw [if_pos c4] at h
   obtain ⟨b, hb2, h⟩ := Option.bind_eq_some_iff.mp h
   by_cases c5 : b = true
   case neg => rw [if_neg c5] at h; exact absurd h (by simp)
   rw [if_pos c5] at h
   subst c5
   obtain rfl := Option.some.inj h
   have HN := am hn
   have HV2 := am hb2
   have b4 : ((g.length : Int) == 0) = true := by rw [c4]; rfl
   clear h hb2 c4 hn
   go_enter Try.func3, Try.ntmps3
   go_wp2_with (first | ((with_reducible refine gate_callee (f := 14) rfl ?_); refine goesL_ (some 17) rfl rfl Try.func14 (by kernel_rfl) rfl #[.slice A0 l0.length c0] rfl (by (try simp only [List.map_toArray, List.map_cons, List.map_nil]); first | done | rfl) ?_; (with_reducible refine (spec_DrawPictureLines.calls k A0 c0 l0 X0 X1 _ HR0.out hc0 HD.out).mono ?_); rintro e wv1 ⟨v0_, v1_, rfl, ho0, ho1, hb⟩; refine ⟨_, rfl, ?_⟩; obtain ⟨AP0, cP0, e_⟩ := Kd.N_slice ho0; subst e_; obtain ⟨AP1, cP1, e_⟩ := Kd.N_slice ho1; subst e_; have HB := am hb; have HP0 := am (Kd.N_reads' ho0).2.2; have HC0 := am (Kd.N_reads' ho0).2.1; have HP1 := am (Kd.N_reads' ho1).2.2; have HC1 := am (Kd.N_reads' ho1).2.1; clear ho0 ho1 hb) | ((with_reducible refine gate_dst (N := 3) rfl ?_); refine box_event ?hg (N := 3) ?hd (cs := #[.slice none 0 0, .slice none 0 0]) (t := 25) ?hr ?_; (case hd => rfl); (case hg => rfl); (case hr => first | (go_simp; done) | (go_simp; rfl)); intro bp hg wx1 hbox hb; have GE : Aside0 (wv1.heap.size ≤ bp) := ⟨by rw [hg]; exact Nat.le_refl _⟩; have HB7 := am hb; have HPB := am hbox; clear hb hbox hg; have cz0 : wx1.cell? ⟨bp, 0, none⟩ = some (.slice none 0 0) := blk_cell HPB.out 0; have cz1 : wx1.cell? ⟨bp, 1, none⟩ = some (.slice none 0 0) := blk_cell HPB.out 1; have cf0 := blk_frozen HPB.out 0; have cf1 := blk_frozen HPB.out 1) | ((with_reducible refine gate_callee (f := 15) rfl ?_); obtain ⟨wx2, hwx2⟩ : ∃ W_ : World, W_ = (wx1.setCell ⟨bp, 0, none⟩ (.slice AP0 X0.length cP0)).setCell ⟨bp, 1, none⟩ (.slice AP1 X1.length cP1) := ⟨_, rfl⟩; rw [← hwx2]; have hb : Below wv1.heap.size wv1 wx2 := (by rw [hwx2]; exact below_set (below_set HB7.out GE.out) GE.out); have m2_ : Aside0 (wx2.heap[bp]? = some (Obj.cells #[(.slice AP0 X0.length cP0), (.slice AP1 X1.length cP1)] 25 (0, 0))) := ⟨by rw [hwx2]; exact blk_put (cs := #[(.slice AP0 X0.length cP0), .slice none 0 0]) (blk_put (cs := #[.slice none 0 0, .slice none 0 0]) HPB.out 0 _ rfl) 1 _ rfl⟩; clear hwx2 cz0 cz1 cf0 cf1 HPB; have HPB := m2_; clear m2_; have n0_ := am (below_step HB.out hb); have n1_ := am (Kd.C_below HP0.out hb); have n2_ := am (Kd.C_below HP1.out hb); clear HB HP0 HP1 hb; revert n0_ n1_ n2_; intro HB HP0 HP1; refine goesL_ (some 20) rfl rfl Try.func15 (by kernel_rfl) rfl #[.agg #[.slice AP0 X0.length cP0, .slice AP1 X1.length cP1]] rfl (by (try simp only [List.map_toArray, List.map_cons, List.map_nil]); first | done | rfl) ?_; (with_reducible refine (impl_PictureLines.calls k AP0 cP0 X0 AP1 cP1 X1 g _ _ HP0.out HC0.out HP1.out HC1.out HLX.out).mono ?_); rintro e wv2 ⟨v_, rfl, ho, hb⟩; refine ⟨_, rfl, ?_⟩; obtain ⟨AX, cX, e_⟩ := Kd.S_slice ho; subst e_; have n0_ := am (below_step HB.out hb); have n1_ := am (blk_lower' HPB.out hb); have n2_ := am (Kd.C_below HP0.out hb); have n3_ := am (Kd.C_below HP1.out hb); (try clear HB); (try clear HPB); (try clear HP0); (try clear HP1); revert n0_ n1_ n2_ n3_; intro HB HPB HP0 HP1; have HX := am (Kd.S_reads' ho).2.2; have HCX := am (Kd.S_reads' ho).2.1; clear ho hb; (try clear cp0); (try clear cp1); have cp0 : wv2.cell? ⟨bp, 0, none⟩ = some (.slice AP0 X0.length cP0) := blk_cell HPB.out 0; have cp1 : wv2.cell? ⟨bp, 1, none⟩ = some (.slice AP1 X1.length cP1) := blk_cell HPB.out 1) | ((with_reducible refine gate_callee (f := 16) rfl ?_); refine goesL_ (some 25) rfl rfl Try.func16 (by kernel_rfl) rfl #[.agg #[.slice AP0 X0.length cP0, .slice AP1 X1.length cP1]] rfl (by (try simp only [List.map_toArray, List.map_cons, List.map_nil]); first | done | rfl) ?_; (with_reducible refine (spec_PictureLines.calls k AP0 cP0 X0 AP1 cP1 X1 g _ _ HP0.out HC0.out HP1.out HC1.out HLY.out).mono ?_); rintro e wv3 ⟨v_, rfl, ho, hb⟩; refine ⟨_, rfl, ?_⟩; obtain ⟨AY, cY, e_⟩ := Kd.S_slice ho; subst e_; have n0_ := am (below_step HB.out hb); have n1_ := am (blk_lower' HPB.out hb); have n2_ := am (Kd.C_below HP0.out hb); have n3_ := am (Kd.C_below HP1.out hb); have n4_ := am (Kd.C_below HX.out hb); (try clear HB); (try clear HPB); (try clear HP0); (try clear HP1); (try clear HX); revert n0_ n1_ n2_ n3_ n4_; intro HB HPB HP0 HP1 HX; have HY := am (Kd.S_reads' ho).2.2; have HCY := am (Kd.S_reads' ho).2.1; clear ho hb; (try clear cp0); (try clear cp1); have cp0 : wv3.cell? ⟨bp, 0, none⟩ = some (.slice AP0 X0.length cP0) := blk_cell HPB.out 0; have cp1 : wv3.cell? ⟨bp, 1, none⟩ = some (.slice AP1 X1.length cP1) := blk_cell HPB.out 1) | ((with_reducible refine gate_callee (f := 17) rfl ?_); refine goesL_ (some 41) rfl rfl Try.func17 (by kernel_rfl) rfl #[.agg #[.slice AP0 X0.length cP0, .slice AP1 X1.length cP1]] rfl (by (try simp only [List.map_toArray, List.map_cons, List.map_nil]); first | done | rfl) ?_; (with_reducible refine (spec_PictureValid.calls k AP0 cP0 X0 AP1 cP1 X1 true _ HP0.out HC0.out HP1.out HC1.out HV.out).mono ?_); rintro e wv4 ⟨rfl, hb⟩; refine ⟨_, rfl, ?_⟩; have n0_ := am (below_step HB.out hb); have n1_ := am (blk_lower' HPB.out hb); have n2_ := am (Kd.C_below HP0.out hb); have n3_ := am (Kd.C_below HP1.out hb); have n4_ := am (Kd.C_below HX.out hb); have n5_ := am (Kd.C_below HY.out hb); (try clear HB); (try clear HPB); (try clear HP0); (try clear HP1); (try clear HX); (try clear HY); revert n0_ n1_ n2_ n3_ n4_ n5_; intro HB HPB HP0 HP1 HX HY; (try clear hb); (try clear cp0); (try clear cp1); have cp0 : wv4.cell? ⟨bp, 0, none⟩ = some (.slice AP0 X0.length cP0) := blk_cell HPB.out 0; have cp1 : wv4.cell? ⟨bp, 1, none⟩ = some (.slice AP1 X1.length cP1) := blk_cell HPB.out 1) | (go_at_call 18; (with_reducible refine (impl_PictureCount.calls k AP0 cP0 X0 AP1 cP1 X1 1 0 _ HP0.out HC0.out HP1.out HC1.out HN.out).mono ?_); rintro e wv5 ⟨rfl, hb⟩; have n0_ := am (below_step HB.out hb); have n1_ := am (blk_lower' HPB.out hb); have n2_ := am (Kd.C_below HP0.out hb); have n3_ := am (Kd.C_below HP1.out hb); have n4_ := am (Kd.C_below HX.out hb); have n5_ := am (Kd.C_below HY.out hb); (try clear HB); (try clear HPB); (try clear HP0); (try clear HP1); (try clear HX); (try clear HY); revert n0_ n1_ n2_ n3_ n4_ n5_; intro HB HPB HP0 HP1 HX HY; (try clear hb); (try clear cp0); (try clear cp1); have cp0 : wv5.cell? ⟨bp, 0, none⟩ = some (.slice AP0 X0.length cP0) := blk_cell HPB.out 0; have cp1 : wv5.cell? ⟨bp, 1, none⟩ = some (.slice AP1 X1.length cP1) := blk_cell HPB.out 1) | (go_at_call 19; (with_reducible refine (laws_alive.calls k true _ HV2.out).mono ?_); rintro e wv6 ⟨rfl, hb⟩; have n0_ := am (below_step HB.out hb); have n1_ := am (blk_lower' HPB.out hb); have n2_ := am (Kd.C_below HP0.out hb); have n3_ := am (Kd.C_below HP1.out hb); have n4_ := am (Kd.C_below HX.out hb); have n5_ := am (Kd.C_below HY.out hb); (try clear HB); (try clear HPB); (try clear HP0); (try clear HP1); (try clear HX); (try clear HY); revert n0_ n1_ n2_ n3_ n4_ n5_; intro HB HPB HP0 HP1 HX HY; (try clear hb); (try clear cp0); (try clear cp1); have cp0 : wv6.cell? ⟨bp, 0, none⟩ = some (.slice AP0 X0.length cP0) := blk_cell HPB.out 0; have cp1 : wv6.cell? ⟨bp, 1, none⟩ = some (.slice AP1 X1.length cP1) := blk_cell HPB.out 1))
   go_ret
   exact ⟨rfl, HB.out⟩
 | true =>
  rw [if_pos rfl] at h
  obtain ⟨⟨F, fd⟩, hf, h⟩ := Option.bind_eq_some_iff.mp h
  dsimp only at h
  have HF0 := am hf
  have H' := am h
  clear hf h
  go_enter Try.func3, Try.ntmps3
  go_wp2_with (first | ((with_reducible refine gate_callee (f := 14) rfl ?_); refine goesL_ (some 17) rfl rfl Try.func14 (by kernel_rfl) rfl #[.slice A0 l0.length c0] rfl (by (try simp only [List.map_toArray, List.map_cons, List.map_nil]); first | done | rfl) ?_; (with_reducible refine (spec_DrawPictureLines.calls k A0 c0 l0 X0 X1 _ HR0.out hc0 HD.out).mono ?_); rintro e wv1 ⟨v0_, v1_, rfl, ho0, ho1, hb⟩; refine ⟨_, rfl, ?_⟩; obtain ⟨AP0, cP0, e_⟩ := Kd.N_slice ho0; subst e_; obtain ⟨AP1, cP1, e_⟩ := Kd.N_slice ho1; subst e_; have HB := am hb; have HP0 := am (Kd.N_reads' ho0).2.2; have HC0 := am (Kd.N_reads' ho0).2.1; have HP1 := am (Kd.N_reads' ho1).2.2; have HC1 := am (Kd.N_reads' ho1).2.1; clear ho0 ho1 hb) | ((with_reducible refine gate_dst (N := 3) rfl ?_); refine box_event ?hg (N := 3) ?hd (cs := #[.slice none 0 0, .slice none 0 0]) (t := 25) ?hr ?_; (case hd => rfl); (case hg => rfl); (case hr => first | (go_simp; done) | (go_simp; rfl)); intro bp hg wx1 hbox hb; have GE : Aside0 (wv1.heap.size ≤ bp) := ⟨by rw [hg]; exact Nat.le_refl _⟩; have HB7 := am hb; have HPB := am hbox; clear hb hbox hg; have cz0 : wx1.cell? ⟨bp, 0, none⟩ = some (.slice none 0 0) := blk_cell HPB.out 0; have cz1 : wx1.cell? ⟨bp, 1, none⟩ = some (.slice none 0 0) := blk_cell HPB.out 1; have cf0 := blk_frozen HPB.out 0; have cf1 := blk_frozen HPB.out 1) | ((with_reducible refine gate_callee (f := 15) rfl ?_); obtain ⟨wx2, hwx2⟩ : ∃ W_ : World, W_ = (wx1.setCell ⟨bp, 0, none⟩ (.slice AP0 X0.length cP0)).setCell ⟨bp, 1, none⟩ (.slice AP1 X1.length cP1) := ⟨_, rfl⟩; rw [← hwx2]; have hb : Below wv1.heap.size wv1 wx2 := (by rw [hwx2]; exact below_set (below_set HB7.out GE.out) GE.out); have m2_ : Aside0 (wx2.heap[bp]? = some (Obj.cells #[(.slice AP0 X0.length cP0), (.slice AP1 X1.length cP1)] 25 (0, 0))) := ⟨by rw [hwx2]; exact blk_put (cs := #[(.slice AP0 X0.length cP0), .slice none 0 0]) (blk_put (cs := #[.slice none 0 0, .slice none 0 0]) HPB.out 0 _ rfl) 1 _ rfl⟩; clear hwx2 cz0 cz1 cf0 cf1 HPB; have HPB := m2_; clear m2_; have n0_ := am (below_step HB.out hb); have n1_ := am (Kd.C_below HP0.out hb); have n2_ := am (Kd.C_below HP1.out hb); clear HB HP0 HP1 hb; revert n0_ n1_ n2_; intro HB HP0 HP1; refine goesL_ (some 20) rfl rfl Try.func15 (by kernel_rfl) rfl #[.agg #[.slice AP0 X0.length cP0, .slice AP1 X1.length cP1]] rfl (by (try simp only [List.map_toArray, List.map_cons, List.map_nil]); first | done | rfl) ?_; (with_reducible refine (impl_PictureLines.calls k AP0 cP0 X0 AP1 cP1 X1 g _ _ HP0.out HC0.out HP1.out HC1.out HLX.out).mono ?_); rintro e wv2 ⟨v_, rfl, ho, hb⟩; refine ⟨_, rfl, ?_⟩; obtain ⟨AX, cX, e_⟩ := Kd.S_slice ho; subst e_; have n0_ := am (below_step HB.out hb); have n1_ := am (blk_lower' HPB.out hb); have n2_ := am (Kd.C_below HP0.out hb); have n3_ := am (Kd.C_below HP1.out hb); (try clear HB); (try clear HPB); (try clear HP0); (try clear HP1); revert n0_ n1_ n2_ n3_; intro HB HPB HP0 HP1; have HX := am (Kd.S_reads' ho).2.2; have HCX := am (Kd.S_reads' ho).2.1; clear ho hb; (try clear cp0); (try clear cp1); have cp0 : wv2.cell? ⟨bp, 0, none⟩ = some (.slice AP0 X0.length cP0) := blk_cell HPB.out 0; have cp1 : wv2.cell? ⟨bp, 1, none⟩ = some (.slice AP1 X1.length cP1) := blk_cell HPB.out 1) | ((with_reducible refine gate_callee (f := 16) rfl ?_); refine goesL_ (some 25) rfl rfl Try.func16 (by kernel_rfl) rfl #[.agg #[.slice AP0 X0.length cP0, .slice AP1 X1.length cP1]] rfl (by (try simp only [List.map_toArray, List.map_cons, List.map_nil]); first | done | rfl) ?_; (with_reducible refine (spec_PictureLines.calls k AP0 cP0 X0 AP1 cP1 X1 g _ _ HP0.out HC0.out HP1.out HC1.out HLY.out).mono ?_); rintro e wv3 ⟨v_, rfl, ho, hb⟩; refine ⟨_, rfl, ?_⟩; obtain ⟨AY, cY, e_⟩ := Kd.S_slice ho; subst e_; have n0_ := am (below_step HB.out hb); have n1_ := am (blk_lower' HPB.out hb); have n2_ := am (Kd.C_below HP0.out hb); have n3_ := am (Kd.C_below HP1.out hb); have n4_ := am (Kd.C_below HX.out hb); (try clear HB); (try clear HPB); (try clear HP0); (try clear HP1); (try clear HX); revert n0_ n1_ n2_ n3_ n4_; intro HB HPB HP0 HP1 HX; have HY := am (Kd.S_reads' ho).2.2; have HCY := am (Kd.S_reads' ho).2.1; clear ho hb; (try clear cp0); (try clear cp1); have cp0 : wv3.cell? ⟨bp, 0, none⟩ = some (.slice AP0 X0.length cP0) := blk_cell HPB.out 0; have cp1 : wv3.cell? ⟨bp, 1, none⟩ = some (.slice AP1 X1.length cP1) := blk_cell HPB.out 1) | ((with_reducible refine gate_callee (f := 20) rfl ?_); refine goesL_ (some 58) rfl rfl Try.func20 (by kernel_rfl) rfl #[.agg #[.slice AP0 X0.length cP0, .slice AP1 X1.length cP1]] rfl (by (try simp only [List.map_toArray, List.map_cons, List.map_nil]); first | done | rfl) ?_; (with_reducible refine (impl_PictureFirst.calls k AP0 cP0 X0 AP1 cP1 X1 F fd _ HP0.out HC0.out HP1.out HC1.out HF0.out).mono ?_); rintro e wv4 ⟨v_, rfl, ho, hb⟩; refine ⟨_, rfl, ?_⟩; obtain ⟨AF, cF, e_⟩ := Kd.R_slice ho; subst e_; have n0_ := am (below_step HB.out hb); have n1_ := am (blk_lower' HPB.out hb); have n2_ := am (Kd.C_below HP0.out hb); have n3_ := am (Kd.C_below HP1.out hb); have n4_ := am (Kd.C_below HX.out hb); have n5_ := am (Kd.C_below HY.out hb); (try clear HB); (try clear HPB); (try clear HP0); (try clear HP1); (try clear HX); (try clear HY); revert n0_ n1_ n2_ n3_ n4_ n5_; intro HB HPB HP0 HP1 HX HY; have HF := am (Kd.R_reads' ho).2.2; clear ho hb; (try clear cp0); (try clear cp1)))
  go_loopg [10, 11] k (fun kq v10 v11 w' => ∃ (al : Bool) (i : Int), v10 = .bool al ∧ v11 = .int .i64 i ∧ Aside0 (laws_FnPictureLines.l0 kq g F fd al i X0 X1 = some r) ∧ Aside0 (kq ≤ k) ∧ Aside0 (Below wv4.heap.size wv4 w'))
  case atStart => exact ⟨true, 0, rfl, rfl, H', ⟨Nat.le_refl _⟩, ⟨Below.refl _ _⟩⟩
  case round =>
   clear H'
   obtain ⟨al, i, rfl, rfl, HA, HK1, HBL⟩ := hrel
   cases gk with
   | zero => exact absurd HA.out (by simp [laws_FnPictureLines.l0])
   | succ k2 =>
    have H := HA.out
    clear HA
    simp only [laws_FnPictureLines.l0] at H
    by_cases c5 : i < (g.length : Int)
    ·rw [if_pos c5] at H
     have c5b : decide (i < (g.length : Int)) = true := decide_eq_true c5
     by_cases c6 : 0 ≤ i
     case neg => rw [if_neg c6] at H; exact absurd H (by simp)
     rw [if_pos c6] at H
     obtain ⟨s, hs, H⟩ := Option.bind_eq_some_iff.mp H
     by_cases c7 : s = true
     case neg => rw [if_neg c7] at H; exact absurd H (by simp)
     rw [if_pos c7] at H
     subst c7
     have HS := am hs
     have H' := am H
     clear H hs
     obtain ⟨adX, AR, cR, e_, hxX, hlX, hiX⟩ := at_L1 HX.out i c6 c5
     cases e_
     obtain ⟨adY, AS, cS, e_, hxY, hlY, hiY⟩ := at_L1 HY.out i c6 c5
     cases e_
     have HXC := am hxX
     have HXR := am hiX
     have HLX2 := am hlX
     have HLY2 := am hlY
     have hx1 := (HBL.out.cell (World.block_lt_of_cell? wv4 _ hxX)).trans hxX
     have hx2 := (HBL.out.cell (World.block_lt_of_cell? wv4 _ hxY)).trans hxY
     have HRX := am (Kd.C_below hiX HBL.out)
     have HRY := am (Kd.C_below hiY HBL.out)
     clear hxX hlX hiX hxY hlY hiY
     have p1 : (0 ≤ i) = True := eq_true c6
     have q1 : (i < (g.length : Int)) = True := eq_true c5
     clear c5 c6
     go_wp2_with (first | (go_at_call 21; (with_reducible refine (laws_sameInts.calls k2 _ _ (rd_L1 g i) _ _ (rd_L1 g i) true _ ?side1 ?side2 ?side3 ?side4 HS.out).mono ?_); (case side1 => exact Kd.cv HRX.out); (case side2 => exact HLX2.out); (case side3 => exact Kd.cv HRY.out); (case side4 => exact HLY2.out); rintro e w' ⟨rfl, ⟨nd, rfl⟩⟩; (try first | exact ⟨rfl, _, World.drewN_drewN _ _ _⟩ | exact ⟨rfl, _, Eq.trans (World.drewN_drewN _ _ _) (congrArg (World.drewN _) (Nat.add_assoc _ _ _))⟩)))
     repeat (go_quiet (first | (go_at_call 21; (with_reducible refine (laws_sameInts.calls k2 _ _ (rd_L1 g i) _ _ (rd_L1 g i) true _ ?side1 ?side2 ?side3 ?side4 HS.out).mono ?_); (case side1 => exact Kd.cv HRX.out); (case side2 => exact HLX2.out); (case side3 => exact Kd.cv HRY.out); (case side4 => exact HLY2.out); rintro e w' ⟨rfl, ⟨nd, rfl⟩⟩; (try first | exact ⟨rfl, _, World.drewN_drewN _ _ _⟩ | exact ⟨rfl, _, Eq.trans (World.drewN_drewN _ _ _) (congrArg (World.drewN _) (Nat.add_assoc _ _ _))⟩))); try go_wp2_with (first | (go_at_call 21; (with_reducible refine (laws_sameInts.calls k2 _ _ (rd_L1 g i) _ _ (rd_L1 g i) true _ ?side1 ?side2 ?side3 ?side4 HS.out).mono ?_); (case side1 => exact Kd.cv HRX.out); (case side2 => exact HLX2.out); (case side3 => exact Kd.cv HRY.out); (case side4 => exact HLY2.out); rintro e w' ⟨rfl, ⟨nd, rfl⟩⟩; (try first | exact ⟨rfl, _, World.drewN_drewN _ _ _⟩ | exact ⟨rfl, _, Eq.trans (World.drewN_drewN _ _ _) (congrArg (World.drewN _) (Nat.add_assoc _ _ _))⟩))))
     go_loopg [10, 12] k2 (fun kq v10 v12 w' => ∃ (al : Bool) (c : Int), v10 = .bool al ∧ v12 = .int .i64 c ∧ Aside0 (laws_FnPictureLines.l1 kq g F fd al i c X0 X1 = some r) ∧ Aside0 (kq ≤ k2) ∧ Aside0 (Below wv4.heap.size wv4 w'))
     case atStart => exact ⟨al, 0, rfl, rfl, H', ⟨Nat.le_refl _⟩, ⟨bm HBL⟩⟩
     case round =>
      clear H' hx1 hx2 HRX HRY HBL
      obtain ⟨al, c, rfl, rfl, HA, HK2, HBL⟩ := hrel
      cases gk with
      | zero => exact absurd HA.out (by simp [laws_FnPictureLines.l1])
      | succ k3 =>
       have H := HA.out
       clear HA
       simp only [laws_FnPictureLines.l1] at H
       have hx1 := (HBL.out.cell (World.block_lt_of_cell? wv4 _ HXC.out)).trans HXC.out
       have HRX := am (Kd.C_below HXR.out HBL.out)
       by_cases c8 : c < ((rd_L1 g i).length : Int)
       ·rw [if_pos c8] at H
        have c8b : decide (c < ((rd_L1 g i).length : Int)) = true := decide_eq_true c8
        by_cases c9 : 0 ≤ c
        case neg => rw [if_neg c9] at H; exact absurd H (by simp)
        rw [if_pos c9] at H
        obtain ⟨adc, e_, hxc⟩ := Kd.at_int HRX.out c c9 c8
        cases e_
        have p2 : (0 ≤ c) = True := eq_true c9
        have q2 : (c < ((rd_L1 g i).length : Int)) = True := eq_true c8
        clear c8
        cases fd with
        | false =>
         rw [if_neg (by decide)] at H
         clear c9
         cases al with
         | true =>
          have H' : Aside0 (laws_FnPictureLines.l1 k3 g F false (rd (rd_L1 g i) c != -1) i (wrap64 (c + 1)) X0 X1 = some r) := ⟨H⟩
          clear H
          go_wp2
          repeat (go_quiet (fail); try go_wp2)
          go_roundg k3
          case measure => have := HK1.out; have := HK2.out; omega
          case rel => exact ⟨(rd (rd_L1 g i) c != -1), wrap64 (c + 1), rfl, rfl, H', ⟨by have := HK1.out; have := HK2.out; omega⟩, ⟨bm HBL⟩⟩
         | false =>
          have H' : Aside0 (laws_FnPictureLines.l1 k3 g F false false i (wrap64 (c + 1)) X0 X1 = some r) := ⟨H⟩
          clear H
          go_wp2
          repeat (go_quiet (fail); try go_wp2)
          go_roundg k3
          case measure => have := HK1.out; have := HK2.out; omega
          case rel => exact ⟨false, wrap64 (c + 1), rfl, rfl, H', ⟨by have := HK1.out; have := HK2.out; omega⟩, ⟨bm HBL⟩⟩
        | true =>
         rw [if_pos rfl] at H
         have p1' : 0 ≤ i := of_eq_true p1
         by_cases d1 : i < (F.length : Int)
         case neg => rw [if_neg d1] at H; exact absurd H (by simp)
         rw [if_pos d1] at H
         by_cases d2 : c < ((rd_L3 F i).length : Int)
         case neg => rw [if_neg d2] at H; exact absurd H (by simp)
         rw [if_pos d2] at H
         by_cases d3 : okC (rd (rd_L1 g i) c) (rdOf false (rd_L3 F i) c) = true
         case neg => rw [if_neg d3] at H; exact absurd H (by simp)
         rw [if_pos d3] at H
         obtain ⟨adF, AG, cG, e_, hxF, hlF, hiF⟩ := at_L3 HF.out i p1' d1
         cases e_
         have hx3 := (HBL.out.cell (World.block_lt_of_cell? wv4 _ hxF)).trans hxF
         have hiG := Kd.C_below hiF HBL.out
         obtain ⟨adg, e_, hxg⟩ := Kd.at_bool hiG c c9 d2
         cases e_
         have e1 : decide ((F.length : Int) ≤ i) = false := decide_eq_false (by omega)
         have e2 : decide (((rd_L3 F i).length : Int) ≤ c) = false := decide_eq_false (by omega)
         have e3 : decide (i < (F.length : Int)) = true := decide_eq_true d1
         have e4 : decide (c < ((rd_L3 F i).length : Int)) = true := decide_eq_true d2
         have p3 : (i < (F.length : Int)) = True := eq_true d1
         have p4 : (c < ((rd_L3 F i).length : Int)) = True := eq_true d2
         clear hxF hlF hiF hiG d1 d2 c9 p1'
         by_cases z0 : rd (rd_L1 g i) c = 0
         ·have bb : rdOf false (rd_L3 F i) c = false := by
           cases hbb : rdOf false (rd_L3 F i) c with
           | false => rfl
           | true => rw [z0, hbb] at d3; exact absurd d3 (by decide)
          rw [bb] at hxg
          have f0 : (rd (rd_L1 g i) c == 0) = true := by rw [z0]; rfl
          have f1 : (rd (rd_L1 g i) c == 1) = false := by rw [z0]; rfl
          clear z0 bb d3
          cases al with
          | true =>
           have H' : Aside0 (laws_FnPictureLines.l1 k3 g F true (rd (rd_L1 g i) c != -1) i (wrap64 (c + 1)) X0 X1 = some r) := ⟨H⟩
           clear H
           go_wp2
           repeat (go_quiet (fail); try go_wp2)
           go_roundg k3
           case measure => have := HK1.out; have := HK2.out; omega
           case rel => exact ⟨(rd (rd_L1 g i) c != -1), wrap64 (c + 1), rfl, rfl, H', ⟨by have := HK1.out; have := HK2.out; omega⟩, ⟨bm HBL⟩⟩
          | false =>
           have H' : Aside0 (laws_FnPictureLines.l1 k3 g F true false i (wrap64 (c + 1)) X0 X1 = some r) := ⟨H⟩
           clear H
           go_wp2
           repeat (go_quiet (fail); try go_wp2)
           go_roundg k3
           case measure => have := HK1.out; have := HK2.out; omega
           case rel => exact ⟨false, wrap64 (c + 1), rfl, rfl, H', ⟨by have := HK1.out; have := HK2.out; omega⟩, ⟨bm HBL⟩⟩
         ·have f0 : (rd (rd_L1 g i) c == 0) = false := beq_eq_false_iff_ne.mpr z0
          clear z0
          by_cases z1 : rd (rd_L1 g i) c = 1
          ·have bb : rdOf false (rd_L3 F i) c = true := by
            cases hbb : rdOf false (rd_L3 F i) c with
            | true => rfl
            | false => rw [z1, hbb] at d3; exact absurd d3 (by decide)
           rw [bb] at hxg
           have f1 : (rd (rd_L1 g i) c == 1) = true := by rw [z1]; rfl
           clear z1 bb d3
           cases al with
           | true =>
            have H' : Aside0 (laws_FnPictureLines.l1 k3 g F true (rd (rd_L1 g i) c != -1) i (wrap64 (c + 1)) X0 X1 = some r) := ⟨H⟩
            clear H
            go_wp2
            repeat (go_quiet (fail); try go_wp2)
            go_roundg k3
            case measure => have := HK1.out; have := HK2.out; omega
            case rel => exact ⟨(rd (rd_L1 g i) c != -1), wrap64 (c + 1), rfl, rfl, H', ⟨by have := HK1.out; have := HK2.out; omega⟩, ⟨bm HBL⟩⟩
           | false =>
            have H' : Aside0 (laws_FnPictureLines.l1 k3 g F true false i (wrap64 (c + 1)) X0 X1 = some r) := ⟨H⟩
            clear H
            go_wp2
            repeat (go_quiet (fail); try go_wp2)
            go_roundg k3
            case measure => have := HK1.out; have := HK2.out; omega
            case rel => exact ⟨false, wrap64 (c + 1), rfl, rfl, H', ⟨by have := HK1.out; have := HK2.out; omega⟩, ⟨bm HBL⟩⟩
          ·have f1 : (rd (rd_L1 g i) c == 1) = false := beq_eq_false_iff_ne.mpr z1
           clear z1 d3
           cases al with
           | true =>
            have H' : Aside0 (laws_FnPictureLines.l1 k3 g F true (rd (rd_L1 g i) c != -1) i (wrap64 (c + 1)) X0 X1 = some r) := ⟨H⟩
            clear H
            go_wp2
            repeat (go_quiet (fail); try go_wp2)
            go_roundg k3
            case measure => have := HK1.out; have := HK2.out; omega
            case rel => exact ⟨(rd (rd_L1 g i) c != -1), wrap64 (c + 1), rfl, rfl, H', ⟨by have := HK1.out; have := HK2.out; omega⟩, ⟨bm HBL⟩⟩
           | false =>
            have H' : Aside0 (laws_FnPictureLines.l1 k3 g F true false i (wrap64 (c + 1)) X0 X1 = some r) := ⟨H⟩
            clear H
            go_wp2
            repeat (go_quiet (fail); try go_wp2)
            go_roundg k3
            case measure => have := HK1.out; have := HK2.out; omega
            case rel => exact ⟨false, wrap64 (c + 1), rfl, rfl, H', ⟨by have := HK1.out; have := HK2.out; omega⟩, ⟨bm HBL⟩⟩
       ·rw [if_neg c8] at H
        have c8b : decide (c < ((rd_L1 g i).length : Int)) = false := decide_eq_false c8
        have H' := am H
        clear H c8
        go_wp2
        repeat (go_quiet (fail); try go_wp2)
        go_roundg k3
        case measure => have := HK1.out; have := HK2.out; omega
        case rel => exact ⟨al, wrap64 (i + 1), rfl, rfl, H', ⟨by have := HK1.out; have := HK2.out; omega⟩, ⟨bm HBL⟩⟩
    ·rw [if_neg c5] at H
     have c5b : decide (i < (g.length : Int)) = false := decide_eq_false c5
     clear c5
     cases al with
     | true =>
      rw [if_pos rfl] at H
      cases fd with
      | false => rw [if_neg (by decide)] at H; exact absurd H (by simp)
      | true =>
       rw [if_pos rfl] at H
       obtain ⟨n, hn, H⟩ := Option.bind_eq_some_iff.mp H
       by_cases c3 : n = 1
       case neg => rw [if_neg c3] at H; exact absurd H (by simp)
       rw [if_pos c3] at H
       subst c3
       obtain rfl := Option.some.inj H
       have HN := am hn
       clear hn H
       have hb := HBL.out
       have n0_ := am (below_step HB.out hb)
       have cp0 : wr.cell? ⟨bp, 0, none⟩ = some (.slice AP0 X0.length cP0) := blk_cell (blk_lower' HPB.out hb) 0
       have cp1 : wr.cell? ⟨bp, 1, none⟩ = some (.slice AP1 X1.length cP1) := blk_cell (blk_lower' HPB.out hb) 1
       clear hb
       go_wp2_with (first | (go_at_call 18; (with_reducible refine (impl_PictureCount.calls k2 AP0 cP0 X0 AP1 cP1 X1 2 1 _ (Kd.C_below HP0.out HBL.out) HC0.out (Kd.C_below HP1.out HBL.out) HC1.out HN.out).mono ?_); rintro e wv5 ⟨rfl, hb⟩; have HBE := am (below_step HBL.out hb); clear hb))
       go_ret
       exact ⟨rfl, below_step HB.out HBE.out⟩
     | false =>
      rw [if_neg (by decide)] at H
      obtain rfl := Option.some.inj H
      clear H
      go_wp2
      repeat (go_quiet (fail); try go_wp2)
      go_ret
      exact ⟨rfl, below_step HB.out (bm HBL)⟩
/-- THE ONE PURE STATEMENT of laws_FnPictureLines: yours. -/
def laws_FnPictureLines.Pure : Prop := ∀ (l0 : List Int), l0.length ≤ maxLen → l0.length * 1 ≤ 140737488351232 → (∀ x ∈ l0, (Lit.int .u8 x).wf = true) → ∃ k, laws_FnPictureLines.f k l0 = some true
theorem laws_FnPictureLines.walk (P : laws_FnPictureLines.Pure) (a0 : Option Addr) (len0 cap0 : Nat) (z0 : List Int) (w : World) (w0 : (a0 = none ∧ len0 = 0 ∧ cap0 = 0 ∧ z0 = []) ∨ ∃ x, a0 = some x ∧ len0 ≤ cap0 ∧ cap0 ≤ maxLen ∧ z0.length = cap0 ∧ (∀ i, i < z0.length → w.cell? (x.add i) = some (.int .u8 (z0.getD i 0))) ∧ ∀ n ∈ z0, (Lit.int .u8 n).wf = true) (y0 : len0 * 1 ≤ 140737488351232) :
  Calls Try.prog 3 #[.slice a0 len0 cap0] w fun e w' => e = .returned (.bool true) ∧ Below w.heap.size w w' := by
 obtain ⟨l0, rfl, hr0, hm0, hw0, hc0⟩ := ReadsInt.ofRowC w0
 obtain ⟨k, h⟩ := P l0 hm0 y0 hw0
 refine (laws_FnPictureLines.calls k _ _ l0 true w (Kd.C_of_reads (d := (0 : Int)) (h1 := fun _ => rfl) hr0) hc0 h).mono ?_
 rintro e w' ⟨rfl, hd⟩
 exact ⟨rfl, hd⟩
end Go.Proofs.Ytapnohcfnclleaa.PFnPictureLines
