-- Made by a program of this session (a changed copy of the kit print): the kit print itself does not give this text
import Derived.Test.YtcghheaelgjnfaaPFnStarsFitx0
import Derived.Test.YtcghheaelgjnfaaPFnStarsFitx2
import Derived.Test.YtcghheaelgjnfaaPFnStarsFitx3
import Derived.Test.YtcghheaelgjnfaaPFnStarsFitx6
import Derived.Test.YtcghheaelgjnfaaV0
namespace Go.Proofs.Ytcghheaelgjnfaa.PFnStarsFit
open Go.RowKit Go.Proofs.YtcghheaelgjnfaaW.PrintWords Go.Proofs.YtcghheaelgjnfaaW.PrintLast Go.Proofs.YtcghheaelgjnfaaW.PrintMore
attribute [local go_sem] max2_int min2_int max_two min_two max_three min_three max_four min_four   -- for this text's walks alone
set_option linter.unusedVariables false
set_option linter.unusedSimpArgs false

/-! ### laws_FnStarsFit: function 6 -/
--@import Derived.Test.YtcghheaelgjnfaaV0
open Go.Proofs.Ytcghheaelgjnfaa.My
/-- append(v, p) of whole numbers in a region that draws, guarded: the variadic's block lies at b. -/
theorem int_lies_step2 {P : Program} {ops : Array Oper} {o : Oper} {a : Act} {K : Act → World → Prop} {Q : Exit → Act → World → Prop} {E : Prop} {w w0 : World} {base : Nat} {ok : Nat → Prop} (hw : Region.wanted o (yielded ops a.tmps) = true) (s x : Operand) (t e : TypeId)
    (ho : o.op = .call { callee := .builtin .append, args := #[s, x], argTypes := #[t, t] }) (ht : P.underlying t = some (.slice e)) (hinfo : (P.info? e).map (fun i => (i.zero, i.size, i.bytes)) = some (some (.int .i64 0), 1, 8))
    (v : Value) (xs : List Int) (p : Int) (b : Nat) (hs : a.eval s = v) (hx : a.eval x = .slice (some ⟨b, 0, none⟩) 1 1) (HO : Kd.R (Kd.int .i64) e w base ok v xs) (hb : w.heap[b]? = some (Obj.cells #[.int .i64 p] e (0, 0)))
    (HB : Below base w0 w) (hbase : base ≤ w.heap.size) (hfresh : ∀ k, w.heap.size ≤ k → ok k) (hl : (xs.length + 1) * 8 ≤ 140737488355328)
    (h : ∀ v1 w1, Kd.R (Kd.int .i64) e w1 base ok v1 (xs ++ [p]) → Below base w0 w1 → w.grownBy w1 v.ownBlock → K (a.put o.dst v1) w1) :
    if Region.wanted o (yielded ops a.tmps) = true then Oper.wp P o a w K Q else E := by
  obtain ⟨i0, hi, hzz⟩ := Option.map_eq_some_iff.1 hinfo
  simp only [Prod.mk.injEq] at hzz
  obtain ⟨h1, h2, h3⟩ := hzz
  have hown := Kd.own_of_R HO
  rw [if_pos hw]
  refine wp_append_lies w s x t ho base e i0 (.int .i64 0) 1 8 ht hi h1 h2 h3 rfl (by omega) v xs.length (encs (Value.int .i64) xs) hs hown ⟨b, 0, none⟩ 1 1 [.int .i64 p] hx rfl (World.news_of_block (cs := #[.int .i64 p]) hb) (by simp [Value.oneCell']) (by omega) (by unfold maxLen; omega) hl hbase w.heap.size rfl ?_
  intro g cap w' hown' hg hor hlt
  refine h _ _ (Kd.R_of_own ?_ ?_) (HB.grown hg hbase (own_base hown)) hg
  · have e1 : encs (Value.int .i64) (xs ++ [p]) = encs (Value.int .i64) xs ++ [.int .i64 p] := by simp [encs]
    rw [e1, List.length_append, List.length_singleton]
    exact hown'
  · intro k hk
    have hk' : g = k := by simpa [Value.ownBlock] using hk
    subst hk'
    rcases hor with h4 | h4
    · exact HO.1 g h4
    · exact hfresh g (by omega)
def laws_FnStarsFit.f (k : Nat) (l0 : List Int) : Option Bool := if (l0.length : Int) > 1048576 then some true else ((spec_DrawStarsFit.f k l0).bind fun bt => ((impl_StarsFit.f k bt.1 bt.2.1 bt.2.2).bind fun o1 => ((spec_StarsFit.f k bt.1 bt.2.1 bt.2.2).bind fun o2 => (if (o1 != o2) = true then some false else (if o1 = true then (if (bt.2.2.length : Int) = 0 then laws_alive.f k else (if bt.2.2.length < 4398046511104 then ((impl_StarsFit.f k bt.1 bt.2.1 (bt.2.2.take (bt.2.2.length / 2))).bind fun a => (if a = true then ((impl_StarsFit.f k bt.1 bt.2.1 (bt.2.2 ++ [rd bt.2.2 0])).bind fun c => some (!c)) else some false)) else none)) else laws_alive.f k)))))
theorem laws_FnStarsFit.mono : ∀ a0 k, LeO (laws_FnStarsFit.f k a0) (laws_FnStarsFit.f (k + 1) a0) := by
  intro a0 k
  unfold laws_FnStarsFit.f
  repeat' first
      | (with_reducible exact spec_DrawStarsFit.mono _ _)
      | (with_reducible exact impl_StarsFit.mono _ _ _ _)
      | (with_reducible exact spec_StarsFit.mono _ _ _ _)
      | (with_reducible exact laws_alive.mono _)
      | (with_reducible exact LeO.refl _)
      | (with_reducible exact LeO.none _)
      | (with_reducible refine LeO.ite ?_ ?_)
      | (with_reducible refine LeO.bind ?_ (fun _ => ?_))
      | exact spec_DrawStarsFit.mono _ _
      | exact impl_StarsFit.mono _ _ _ _
      | exact spec_StarsFit.mono _ _ _ _
      | exact laws_alive.mono _
      | exact LeO.none _
      | refine LeO.ite ?_ ?_
      | refine LeO.bind ?_ (fun _ => ?_)
set_option maxHeartbeats 8000000 in
set_option maxRecDepth 100000 in
theorem laws_FnStarsFit.calls (k : Nat) (A0 : Option Addr) (c0 : Nat) (l0 : List Int) (r : Bool) (w : World) (hr0 : Kd.C (Kd.int .u8) w A0 l0.length l0) (hc0 : l0.length ≤ c0) (h : laws_FnStarsFit.f k l0 = some r) :
    Calls Try.prog 6 #[.slice A0 l0.length c0] w fun e w' => e = .returned (.bool r) ∧ Below w.heap.size w w' := by
  unfold laws_FnStarsFit.f at h
  have hi3 : (Try.prog.info? 3).map (fun i => (i.zero, i.size, i.bytes)) = some (some (.int .i64 0), 1, 8) := by kernel_rfl
  have HR := Aside0.mk hr0
  clear hr0
  by_cases c1 : (l0.length : Int) > 1048576
  · rw [if_pos c1] at h
    have e0 : true = r := Option.some.inj h
    subst e0
    have d1 : decide ((1048576 : Int) < (l0.length : Int)) = true := decide_eq_true c1
    clear h c1
    go_enter Try.func6, Try.ntmps6
    go_wp2_with fail
    go_ret
    exact ⟨rfl, Below.refl _ _⟩
  · rw [if_neg c1] at h
    have d1 : decide ((1048576 : Int) < (l0.length : Int)) = false := decide_eq_false c1
    clear c1
    obtain ⟨⟨ar, sd, st⟩, h0, h⟩ := Option.bind_eq_some_iff.mp h
    obtain ⟨o1, h1, h⟩ := Option.bind_eq_some_iff.mp h
    obtain ⟨o2, h2, h⟩ := Option.bind_eq_some_iff.mp h
    have HO0 := Aside0.mk h0
    have HO1 := Aside0.mk h1
    have HO2 := Aside0.mk h2
    clear h0 h1 h2
    by_cases c2 : (o1 != o2) = true
    · rw [if_pos c2] at h
      have e0 : false = r := Option.some.inj h
      subst e0
      have d2 : o1 ≠ o2 := by simpa using c2
      clear h
      cases o1 <;> cases o2 <;> first | exact absurd rfl d2 | skip
      all_goals
        clear c2 d2
        go_enter Try.func6, Try.ntmps6
        go_wp2_with (first | ((with_reducible refine gate_callee (f := 20) rfl ?_); refine goesL_ (some 12) rfl rfl Try.func20 (by kernel_rfl) rfl #[.slice A0 l0.length c0] rfl (by (try simp only [List.map_toArray, List.map_cons, List.map_nil]); first | done | rfl) ?_; (with_reducible refine (spec_DrawStarsFit.calls k A0 c0 l0 ar sd st w HR.out hc0 HO0.out).mono ?_); rintro e wb ⟨v3, v5, rfl, hq, hr, hb⟩; obtain ⟨A3, c3, e3, hc3⟩ := Kd.Q_slice hq; subst e3; obtain ⟨A5, c5, e5⟩ := Kd.R_slice hr; subst e5; have HA := Aside0.mk (Kd.Q_mono (ok' := fun _ => True) hq (fun _ _ => trivial)); have HS := Aside0.mk (Kd.R_mono (ok' := fun _ => True) hr (fun _ _ => trivial)); have HB := Aside0.mk hb; clear hq hr hb hc3; refine ⟨_, rfl, ?_⟩) | ((with_reducible refine gate_callee (f := 12) rfl ?_); refine goesL_ (some 19) rfl rfl Try.func12 (by kernel_rfl) rfl #[.slice A3 ar.length c3, .int .i64 sd, .slice A5 st.length c5] rfl (by (try simp only [List.map_toArray, List.map_cons, List.map_nil]); first | done | rfl) ?_; (with_reducible refine (impl_StarsFit.calls k A3 c3 ar sd A5 c5 st _ _ (Kd.Q_reads' HA.out).2.2 (Kd.Q_reads' HA.out).2.1 (Kd.R_reads' HS.out).2.2 (Kd.R_reads' HS.out).2.1 HO1.out).mono ?_); rintro e wb ⟨rfl, hd⟩; have n1_ := Aside0.mk (Kd.Q_below HA.out hd); have n2_ := Aside0.mk (Kd.R_below HS.out hd); have n3_ := Aside0.mk (below_step HB.out hd); clear HA HS HB; have HA := n1_; have HS := n2_; have HB := n3_; clear n1_ n2_ n3_ hd; refine ⟨_, rfl, ?_⟩) | ((with_reducible refine gate_callee (f := 10) rfl ?_); refine goesL_ (some 24) rfl rfl Try.func10 (by kernel_rfl) rfl #[.slice A3 ar.length c3, .int .i64 sd, .slice A5 st.length c5] rfl (by (try simp only [List.map_toArray, List.map_cons, List.map_nil]); first | done | rfl) ?_; (with_reducible refine (spec_StarsFit.calls k A3 c3 ar sd A5 c5 st _ _ (Kd.Q_reads' HA.out).2.2 (Kd.Q_reads' HA.out).2.1 (Kd.R_reads' HS.out).2.2 (Kd.R_reads' HS.out).2.1 HO2.out).mono ?_); rintro e wb ⟨rfl, hd⟩; have n1_ := Aside0.mk (Kd.Q_below HA.out hd); have n2_ := Aside0.mk (Kd.R_below HS.out hd); have n3_ := Aside0.mk (below_step HB.out hd); clear HA HS HB; have HA := n1_; have HS := n2_; have HB := n3_; clear n1_ n2_ n3_ hd; refine ⟨_, rfl, ?_⟩))
        go_ret
        exact ⟨rfl, HB.out⟩
    · rw [if_neg c2] at h
      have e2 : o1 = o2 := by simpa using c2
      subst e2
      clear c2
      cases o1 with
      | false =>
        have HO3 : Aside0 (laws_alive.f k = some r) := ⟨h⟩
        clear h
        go_enter Try.func6, Try.ntmps6
        go_wp2_with (first | ((with_reducible refine gate_callee (f := 20) rfl ?_); refine goesL_ (some 12) rfl rfl Try.func20 (by kernel_rfl) rfl #[.slice A0 l0.length c0] rfl (by (try simp only [List.map_toArray, List.map_cons, List.map_nil]); first | done | rfl) ?_; (with_reducible refine (spec_DrawStarsFit.calls k A0 c0 l0 ar sd st w HR.out hc0 HO0.out).mono ?_); rintro e wb ⟨v3, v5, rfl, hq, hr, hb⟩; obtain ⟨A3, c3, e3, hc3⟩ := Kd.Q_slice hq; subst e3; obtain ⟨A5, c5, e5⟩ := Kd.R_slice hr; subst e5; have HA := Aside0.mk (Kd.Q_mono (ok' := fun _ => True) hq (fun _ _ => trivial)); have HS := Aside0.mk (Kd.R_mono (ok' := fun _ => True) hr (fun _ _ => trivial)); have HB := Aside0.mk hb; clear hq hr hb hc3; refine ⟨_, rfl, ?_⟩) | ((with_reducible refine gate_callee (f := 12) rfl ?_); refine goesL_ (some 19) rfl rfl Try.func12 (by kernel_rfl) rfl #[.slice A3 ar.length c3, .int .i64 sd, .slice A5 st.length c5] rfl (by (try simp only [List.map_toArray, List.map_cons, List.map_nil]); first | done | rfl) ?_; (with_reducible refine (impl_StarsFit.calls k A3 c3 ar sd A5 c5 st _ _ (Kd.Q_reads' HA.out).2.2 (Kd.Q_reads' HA.out).2.1 (Kd.R_reads' HS.out).2.2 (Kd.R_reads' HS.out).2.1 HO1.out).mono ?_); rintro e wb ⟨rfl, hd⟩; have n1_ := Aside0.mk (Kd.Q_below HA.out hd); have n2_ := Aside0.mk (Kd.R_below HS.out hd); have n3_ := Aside0.mk (below_step HB.out hd); clear HA HS HB; have HA := n1_; have HS := n2_; have HB := n3_; clear n1_ n2_ n3_ hd; refine ⟨_, rfl, ?_⟩) | ((with_reducible refine gate_callee (f := 10) rfl ?_); refine goesL_ (some 24) rfl rfl Try.func10 (by kernel_rfl) rfl #[.slice A3 ar.length c3, .int .i64 sd, .slice A5 st.length c5] rfl (by (try simp only [List.map_toArray, List.map_cons, List.map_nil]); first | done | rfl) ?_; (with_reducible refine (spec_StarsFit.calls k A3 c3 ar sd A5 c5 st _ _ (Kd.Q_reads' HA.out).2.2 (Kd.Q_reads' HA.out).2.1 (Kd.R_reads' HS.out).2.2 (Kd.R_reads' HS.out).2.1 HO2.out).mono ?_); rintro e wb ⟨rfl, hd⟩; have n1_ := Aside0.mk (Kd.Q_below HA.out hd); have n2_ := Aside0.mk (Kd.R_below HS.out hd); have n3_ := Aside0.mk (below_step HB.out hd); clear HA HS HB; have HA := n1_; have HS := n2_; have HB := n3_; clear n1_ n2_ n3_ hd; refine ⟨_, rfl, ?_⟩) | ((with_reducible refine gate_callee (f := 21) rfl ?_); refine goesL_ (some 33) rfl rfl Try.func21 (by kernel_rfl) rfl #[] rfl (by (try simp only [List.map_toArray, List.map_cons, List.map_nil]); first | done | rfl) ?_; (with_reducible refine (laws_alive.calls k r _ HO3.out).mono ?_); rintro e wb ⟨rfl, hd⟩; have n3_ := Aside0.mk (below_step HB.out hd); clear HB; have HB := n3_; clear n3_ hd; refine ⟨_, rfl, ?_⟩))
        go_ret
        exact ⟨rfl, HB.out⟩
      | true =>
        rw [if_pos rfl] at h
        by_cases c3 : (st.length : Int) = 0
        · have HO3 : Aside0 (laws_alive.f k = some r) := ⟨by rw [if_pos c3] at h; exact h⟩
          have d3 : ((st.length : Int) == 0) = true := beq_iff_eq.mpr c3
          clear h c3
          go_enter Try.func6, Try.ntmps6
          go_wp2_with (first | ((with_reducible refine gate_callee (f := 20) rfl ?_); refine goesL_ (some 12) rfl rfl Try.func20 (by kernel_rfl) rfl #[.slice A0 l0.length c0] rfl (by (try simp only [List.map_toArray, List.map_cons, List.map_nil]); first | done | rfl) ?_; (with_reducible refine (spec_DrawStarsFit.calls k A0 c0 l0 ar sd st w HR.out hc0 HO0.out).mono ?_); rintro e wb ⟨v3, v5, rfl, hq, hr, hb⟩; obtain ⟨A3, c3, e3, hc3⟩ := Kd.Q_slice hq; subst e3; obtain ⟨A5, c5, e5⟩ := Kd.R_slice hr; subst e5; have HA := Aside0.mk (Kd.Q_mono (ok' := fun _ => True) hq (fun _ _ => trivial)); have HS := Aside0.mk (Kd.R_mono (ok' := fun _ => True) hr (fun _ _ => trivial)); have HB := Aside0.mk hb; clear hq hr hb hc3; refine ⟨_, rfl, ?_⟩) | ((with_reducible refine gate_callee (f := 12) rfl ?_); refine goesL_ (some 19) rfl rfl Try.func12 (by kernel_rfl) rfl #[.slice A3 ar.length c3, .int .i64 sd, .slice A5 st.length c5] rfl (by (try simp only [List.map_toArray, List.map_cons, List.map_nil]); first | done | rfl) ?_; (with_reducible refine (impl_StarsFit.calls k A3 c3 ar sd A5 c5 st _ _ (Kd.Q_reads' HA.out).2.2 (Kd.Q_reads' HA.out).2.1 (Kd.R_reads' HS.out).2.2 (Kd.R_reads' HS.out).2.1 HO1.out).mono ?_); rintro e wb ⟨rfl, hd⟩; have n1_ := Aside0.mk (Kd.Q_below HA.out hd); have n2_ := Aside0.mk (Kd.R_below HS.out hd); have n3_ := Aside0.mk (below_step HB.out hd); clear HA HS HB; have HA := n1_; have HS := n2_; have HB := n3_; clear n1_ n2_ n3_ hd; refine ⟨_, rfl, ?_⟩) | ((with_reducible refine gate_callee (f := 10) rfl ?_); refine goesL_ (some 24) rfl rfl Try.func10 (by kernel_rfl) rfl #[.slice A3 ar.length c3, .int .i64 sd, .slice A5 st.length c5] rfl (by (try simp only [List.map_toArray, List.map_cons, List.map_nil]); first | done | rfl) ?_; (with_reducible refine (spec_StarsFit.calls k A3 c3 ar sd A5 c5 st _ _ (Kd.Q_reads' HA.out).2.2 (Kd.Q_reads' HA.out).2.1 (Kd.R_reads' HS.out).2.2 (Kd.R_reads' HS.out).2.1 HO2.out).mono ?_); rintro e wb ⟨rfl, hd⟩; have n1_ := Aside0.mk (Kd.Q_below HA.out hd); have n2_ := Aside0.mk (Kd.R_below HS.out hd); have n3_ := Aside0.mk (below_step HB.out hd); clear HA HS HB; have HA := n1_; have HS := n2_; have HB := n3_; clear n1_ n2_ n3_ hd; refine ⟨_, rfl, ?_⟩) | ((with_reducible refine gate_callee (f := 21) rfl ?_); refine goesL_ (some 33) rfl rfl Try.func21 (by kernel_rfl) rfl #[] rfl (by (try simp only [List.map_toArray, List.map_cons, List.map_nil]); first | done | rfl) ?_; (with_reducible refine (laws_alive.calls k r _ HO3.out).mono ?_); rintro e wb ⟨rfl, hd⟩; have n3_ := Aside0.mk (below_step HB.out hd); clear HB; have HB := n3_; clear n3_ hd; refine ⟨_, rfl, ?_⟩))
          go_ret
          exact ⟨rfl, HB.out⟩
        · rw [if_neg c3] at h
          have d3 : ((st.length : Int) == 0) = false := beq_eq_false_iff_ne.mpr c3
          by_cases c4 : st.length < 4398046511104
          · replace h : ((impl_StarsFit.f k ar sd (st.take (st.length / 2))).bind fun a => (if a = true then ((impl_StarsFit.f k ar sd (st ++ [rd st 0])).bind fun c => some (!c)) else some false)) = some r := by rw [if_pos c4] at h; exact h
            have LM := Aside0.mk c4
            have hpos : 0 < st.length := by omega
            obtain ⟨a, h3, h⟩ := Option.bind_eq_some_iff.mp h
            have HO3 := Aside0.mk h3
            clear h3 c4 c3
            obtain ⟨t2, ht2⟩ : ∃ m, m = st.take (st.length / 2) := ⟨_, rfl⟩
            rw [← ht2] at HO3
            have hhf : t2.length = st.length / 2 := by rw [ht2, List.length_take]; omega
            have Nt2 : Aside0 (st.take t2.length = t2) := ⟨by rw [hhf, ← ht2]⟩
            have Nhf := Aside0.mk hhf
            have LH := Aside0.mk (show t2.length ≤ st.length by omega)
            clear ht2
            have p0 : (0 ≤ (0 : Int)) = True := eq_true (by omega)
            have q0 : ((0 : Int) < (st.length : Int)) = True := eq_true (by omega)
            have HPOS := Aside0.mk hpos
            clear hhf hpos
            cases a with
            | false =>
              have e0 : false = r := Option.some.inj h
              subst e0
              clear h
              go_enter Try.func6, Try.ntmps6
              go_wp2_with (first | ((with_reducible refine gate_callee (f := 20) rfl ?_); refine goesL_ (some 12) rfl rfl Try.func20 (by kernel_rfl) rfl #[.slice A0 l0.length c0] rfl (by (try simp only [List.map_toArray, List.map_cons, List.map_nil]); first | done | rfl) ?_; (with_reducible refine (spec_DrawStarsFit.calls k A0 c0 l0 ar sd st w HR.out hc0 HO0.out).mono ?_); rintro e wb ⟨v3, v5, rfl, hq, hr, hb⟩; obtain ⟨A3, c3, e3, hc3⟩ := Kd.Q_slice hq; subst e3; obtain ⟨A5, c5, e5⟩ := Kd.R_slice hr; subst e5; have HA := Aside0.mk (Kd.Q_mono (ok' := fun _ => True) hq (fun _ _ => trivial)); have HS := Aside0.mk (Kd.R_mono (ok' := fun _ => True) hr (fun _ _ => trivial)); have HB := Aside0.mk hb; clear hq hr hb hc3; refine ⟨_, rfl, ?_⟩) | ((with_reducible refine gate_callee (f := 12) rfl ?_); refine goesL_ (some 19) rfl rfl Try.func12 (by kernel_rfl) rfl #[.slice A3 ar.length c3, .int .i64 sd, .slice A5 st.length c5] rfl (by (try simp only [List.map_toArray, List.map_cons, List.map_nil]); first | done | rfl) ?_; (with_reducible refine (impl_StarsFit.calls k A3 c3 ar sd A5 c5 st _ _ (Kd.Q_reads' HA.out).2.2 (Kd.Q_reads' HA.out).2.1 (Kd.R_reads' HS.out).2.2 (Kd.R_reads' HS.out).2.1 HO1.out).mono ?_); rintro e wb ⟨rfl, hd⟩; have n1_ := Aside0.mk (Kd.Q_below HA.out hd); have n2_ := Aside0.mk (Kd.R_below HS.out hd); have n3_ := Aside0.mk (below_step HB.out hd); clear HA HS HB; have HA := n1_; have HS := n2_; have HB := n3_; clear n1_ n2_ n3_ hd; refine ⟨_, rfl, ?_⟩) | ((with_reducible refine gate_callee (f := 10) rfl ?_); refine goesL_ (some 24) rfl rfl Try.func10 (by kernel_rfl) rfl #[.slice A3 ar.length c3, .int .i64 sd, .slice A5 st.length c5] rfl (by (try simp only [List.map_toArray, List.map_cons, List.map_nil]); first | done | rfl) ?_; (with_reducible refine (spec_StarsFit.calls k A3 c3 ar sd A5 c5 st _ _ (Kd.Q_reads' HA.out).2.2 (Kd.Q_reads' HA.out).2.1 (Kd.R_reads' HS.out).2.2 (Kd.R_reads' HS.out).2.1 HO2.out).mono ?_); rintro e wb ⟨rfl, hd⟩; have n1_ := Aside0.mk (Kd.Q_below HA.out hd); have n2_ := Aside0.mk (Kd.R_below HS.out hd); have n3_ := Aside0.mk (below_step HB.out hd); clear HA HS HB; have HA := n1_; have HS := n2_; have HB := n3_; clear n1_ n2_ n3_ hd; refine ⟨_, rfl, ?_⟩))
              obtain ⟨ad, ead, hx0⟩ := Kd.at_int (Kd.R_reads' HS.out).2.2 0 (by omega) (by have := HPOS.out; omega)
              cases ead
              have eadd : ad.add (0 : Int).toNat = ad := by first | rfl | (simp; done) | (go_simp; done)
              rw [eadd] at hx0
              have q0n : (0 < st.length) = True := eq_true HPOS.out
              have HBd : Aside0 (Below wb.heap.size wb wb.drew) := ⟨below_drew1 (Below.refl _ _)⟩
              have HX0 := Aside0.mk hx0
              have LT := Aside0.mk (World.block_lt_of_cell? wb _ hx0)
              have hcap : t2.length ≤ c5 := Nat.le_trans LH.out (Kd.R_reads' HS.out).2.1
              have hdv : Int.tdiv (st.length : Int) 2 = (t2.length : Int) := by have := Nhf.out; rw [Int.tdiv_eq_ediv_of_nonneg (by omega)]; omega
              have hwf : wrap64 (t2.length : Int) = (t2.length : Int) := by have := LM.out; have := LH.out; unfold wrap64; omega
              have hwg : IntKind.i64.wrap (t2.length : Int) = (t2.length : Int) := by rw [i64_w]; exact hwf
              have hca : ((t2.length : Int) ≤ (c5 : Int)) = True := eq_true (by omega)
              have hcb : (0 ≤ (t2.length : Int)) = True := eq_true (by omega)
              refine start_ (n := 23) (S := fun w' => w'.cell? ad = some (.int .i64 (rd st 0))) (ds := []) #[false, false, false, false, false, false, false, false, false, false, false, false, false, false, false, false, false, false, false, false, false, false, false] (by kernel_rfl) rfl rfl ((HBd.out.cell LT.out).trans HX0.out) (fun hHeld => ?_)
              generalize wb.drew = wd at HBd hHeld ⊢
              refine pure_ (i := 0) (N := some 34) (v := ?_) (a' := ?_) #[true, false, false, false, false, false, false, false, false, false, false, false, false, false, false, false, false, false, false, false, false, false, false] rfl rfl (by kernel_rfl) (fun _ _ _ h => h) (Or.inl ⟨by rfl, ?_⟩) ?_ ?_
              rotate_left
              · intro w'
                go_simp
                with_reducible rfl
              rotate_left
              · simp only [Act.put, List.setIfInBounds_toArray, List.set_cons_zero, List.set_cons_succ, i64_w, i32_w]
                rfl
              refine pure_ (i := 1) (N := some 35) (v := ?_) (a' := ?_) #[true, true, false, false, false, false, false, false, false, false, false, false, false, false, false, false, false, false, false, false, false, false, false] rfl rfl (by kernel_rfl) (fun _ _ _ h => h) (Or.inl ⟨by rfl, ?_⟩) ?_ ?_
              rotate_left
              · intro w'
                go_simp
                with_reducible rfl
              rotate_left
              · simp only [Act.put, List.setIfInBounds_toArray, List.set_cons_zero, List.set_cons_succ, i64_w, i32_w]
                rfl
              refine pure_ (i := 2) (N := some 36) (v := ?_) (a' := ?_) #[true, true, true, false, false, false, false, false, false, false, false, false, false, false, false, false, false, false, false, false, false, false, false] rfl rfl (by kernel_rfl) (fun _ _ _ h => h) (Or.inl ⟨by rfl, ?_⟩) ?_ ?_
              rotate_left
              · intro w'
                go_simp
                with_reducible rfl
              rotate_left
              · simp only [Act.put, List.setIfInBounds_toArray, List.set_cons_zero, List.set_cons_succ, i64_w, i32_w]
                rfl
              refine pure_ (i := 3) (N := some 37) (v := ?_) (a' := ?_) #[true, true, true, true, false, false, false, false, false, false, false, false, false, false, false, false, false, false, false, false, false, false, false] rfl rfl (by kernel_rfl) (fun _ _ _ h => h) (Or.inl ⟨by rfl, ?_⟩) ?_ ?_
              rotate_left
              · intro w'
                go_simp
                with_reducible rfl
              rotate_left
              · simp only [Act.put, List.setIfInBounds_toArray, List.set_cons_zero, List.set_cons_succ, i64_w, i32_w]
                rfl
              refine pure_ (i := 4) (N := some 38) (v := ?_) (a' := ?_) #[true, true, true, true, true, false, false, false, false, false, false, false, false, false, false, false, false, false, false, false, false, false, false] rfl rfl (by kernel_rfl) (fun _ _ _ h => h) (Or.inl ⟨by rfl, ?_⟩) ?_ ?_
              rotate_left
              · intro w'
                go_simp
                with_reducible rfl
              rotate_left
              · simp only [Act.put, List.setIfInBounds_toArray, List.set_cons_zero, List.set_cons_succ, i64_w, i32_w]
                rfl
              refine pure_ (i := 5) (N := some 39) (v := ?_) (a' := ?_) #[true, true, true, true, true, true, false, false, false, false, false, false, false, false, false, false, false, false, false, false, false, false, false] rfl rfl (by kernel_rfl) (fun _ _ _ h => h) (Or.inl ⟨by rfl, ?_⟩) ?_ ?_
              rotate_left
              · intro w'
                go_simp
                with_reducible rfl
              rotate_left
              · simp only [Act.put, List.setIfInBounds_toArray, List.set_cons_zero, List.set_cons_succ, i64_w, i32_w]
                rfl
              refine pure_ (i := 6) (N := some 40) (v := ?_) (a' := ?_) #[true, true, true, true, true, true, true, false, false, false, false, false, false, false, false, false, false, false, false, false, false, false, false] rfl rfl (by kernel_rfl) (fun _ _ _ h => h) (Or.inl ⟨by rfl, ?_⟩) ?_ ?_
              rotate_left
              · intro w'
                go_simp
                with_reducible rfl
              rotate_left
              · simp only [Act.put, List.setIfInBounds_toArray, List.set_cons_zero, List.set_cons_succ, i64_w, i32_w]
                rfl
              have hs1_ := Kd.R_take (Kd.R_below HS.out HBd.out) LH.out
              rw [Nt2.out] at hs1_
              have HS1 := Aside0.mk hs1_
              clear hs1_
              have HA1 := Aside0.mk (Kd.Q_below HA.out HBd.out)
              have HBz := Aside0.mk (below_step HB.out HBd.out)
              have HSd := Aside0.mk (Kd.R_below HS.out HBd.out)
              refine one_ (i := 7) (N := some 41) #[true, true, true, true, true, true, true, true, false, false, false, false, false, false, false, false, false, false, false, false, false, false, false] rfl rfl (by kernel_rfl) (by decide) (fun K hK => ?_)
              refine goes_ Try.func12 (by kernel_rfl) rfl #[.slice A3 ar.length c3, .int .i64 sd, .slice (some ad) t2.length c5] (by rfl) rfl rfl (by (try simp only [List.map_toArray, List.map_cons, List.map_nil]); first | done | rfl) ?_
              with_reducible refine (impl_StarsFit.calls k A3 c3 ar sd (some ad) c5 t2 _ _ (Kd.Q_reads' HA1.out).2.2 (Kd.Q_reads' HA1.out).2.1 (Kd.R_reads' HS1.out).2.2 (Kd.R_reads' HS1.out).2.1 HO3.out).mono ?_
              rintro e we ⟨rfl, hd⟩
              have HBwe := Aside0.mk (below_step HBd.out hd)
              have HAwe := Aside0.mk (Kd.Q_below HA1.out hd)
              have HSwe := Aside0.mk (Kd.R_below HSd.out hd)
              clear hd
              refine ⟨_, rfl, ?_⟩
              refine hK.out _ _ ((HBwe.out.cell LT.out).trans HX0.out) (fun hHeld => ?_)
              clear hK K
              refine norm_ (a' := ?_) ?_ ?_
              rotate_left
              · show Act.put _ (some 41) _ = _
                simp only [Act.put, List.setIfInBounds_toArray, List.set_cons_zero, List.set_cons_succ, i64_w, i32_w]
                rfl
              refine pure_ (i := 8) (N := some 42) (v := ?_) (a' := ?_) #[true, true, true, true, true, true, true, true, true, false, false, false, false, false, false, false, false, false, false, false, false, false, false] rfl rfl (by kernel_rfl) (fun _ _ _ h => h) (Or.inl ⟨by rfl, ?_⟩) ?_ ?_
              rotate_left
              · intro w'
                go_simp
                with_reducible rfl
              rotate_left
              · simp only [Act.put, List.setIfInBounds_toArray, List.set_cons_zero, List.set_cons_succ, i64_w, i32_w]
                rfl
              refine pure_ (i := 9) (N := some 43) (v := undef) (a' := ?_) #[true, true, true, true, true, true, true, true, true, true, false, false, false, false, false, false, false, false, false, false, false, false, false] rfl rfl (by kernel_rfl) (fun _ _ _ h => h) (Or.inr ⟨by rfl, rfl⟩) ?_ ?_
              rotate_left
              · simp only [Act.put, List.setIfInBounds_toArray, List.set_cons_zero, List.set_cons_succ, i64_w, i32_w]
                rfl
              refine pure_ (i := 10) (N := some 44) (v := undef) (a' := ?_) #[true, true, true, true, true, true, true, true, true, true, true, false, false, false, false, false, false, false, false, false, false, false, false] rfl rfl (by kernel_rfl) (fun _ _ _ h => h) (Or.inr ⟨by rfl, rfl⟩) ?_ ?_
              rotate_left
              · simp only [Act.put, List.setIfInBounds_toArray, List.set_cons_zero, List.set_cons_succ, i64_w, i32_w]
                rfl
              refine pure_ (i := 11) (N := some 45) (v := undef) (a' := ?_) #[true, true, true, true, true, true, true, true, true, true, true, true, false, false, false, false, false, false, false, false, false, false, false] rfl rfl (by kernel_rfl) (fun _ _ _ h => h) (Or.inr ⟨by rfl, rfl⟩) ?_ ?_
              rotate_left
              · simp only [Act.put, List.setIfInBounds_toArray, List.set_cons_zero, List.set_cons_succ, i64_w, i32_w]
                rfl
              refine pure_ (i := 12) (N := some 46) (v := undef) (a' := ?_) #[true, true, true, true, true, true, true, true, true, true, true, true, true, false, false, false, false, false, false, false, false, false, false] rfl rfl (by kernel_rfl) (fun _ _ _ h => h) (Or.inr ⟨by rfl, rfl⟩) ?_ ?_
              rotate_left
              · simp only [Act.put, List.setIfInBounds_toArray, List.set_cons_zero, List.set_cons_succ, i64_w, i32_w]
                rfl
              refine pure_ (i := 13) (N := some 47) (v := undef) (a' := ?_) #[true, true, true, true, true, true, true, true, true, true, true, true, true, true, false, false, false, false, false, false, false, false, false] rfl rfl (by kernel_rfl) (fun _ _ _ h => h) (Or.inr ⟨by rfl, rfl⟩) ?_ ?_
              rotate_left
              · simp only [Act.put, List.setIfInBounds_toArray, List.set_cons_zero, List.set_cons_succ, i64_w, i32_w]
                rfl
              refine pure_ (i := 14) (N := some 48) (v := undef) (a' := ?_) #[true, true, true, true, true, true, true, true, true, true, true, true, true, true, true, false, false, false, false, false, false, false, false] rfl rfl (by kernel_rfl) (fun _ _ _ h => h) (Or.inr ⟨by rfl, rfl⟩) ?_ ?_
              rotate_left
              · simp only [Act.put, List.setIfInBounds_toArray, List.set_cons_zero, List.set_cons_succ, i64_w, i32_w]
                rfl
              refine pure_ (i := 15) (N := some 49) (v := undef) (a' := ?_) #[true, true, true, true, true, true, true, true, true, true, true, true, true, true, true, true, false, false, false, false, false, false, false] rfl rfl (by kernel_rfl) (fun _ _ _ h => h) (Or.inr ⟨by rfl, rfl⟩) ?_ ?_
              rotate_left
              · simp only [Act.put, List.setIfInBounds_toArray, List.set_cons_zero, List.set_cons_succ, i64_w, i32_w]
                rfl
              refine pure_ (i := 16) (N := some 50) (v := undef) (a' := ?_) #[true, true, true, true, true, true, true, true, true, true, true, true, true, true, true, true, true, false, false, false, false, false, false] rfl rfl (by kernel_rfl) (fun _ _ _ h => h) (Or.inr ⟨by rfl, rfl⟩) ?_ ?_
              rotate_left
              · simp only [Act.put, List.setIfInBounds_toArray, List.set_cons_zero, List.set_cons_succ, i64_w, i32_w]
                rfl
              refine pure_ (i := 17) (N := some 51) (v := undef) (a' := ?_) #[true, true, true, true, true, true, true, true, true, true, true, true, true, true, true, true, true, true, false, false, false, false, false] rfl rfl (by kernel_rfl) (fun _ _ _ h => h) (Or.inr ⟨by rfl, rfl⟩) ?_ ?_
              rotate_left
              · simp only [Act.put, List.setIfInBounds_toArray, List.set_cons_zero, List.set_cons_succ, i64_w, i32_w]
                rfl
              refine pure_ (i := 18) (N := some 52) (v := undef) (a' := ?_) #[true, true, true, true, true, true, true, true, true, true, true, true, true, true, true, true, true, true, true, false, false, false, false] rfl rfl (by kernel_rfl) (fun _ _ _ h => h) (Or.inr ⟨by rfl, rfl⟩) ?_ ?_
              rotate_left
              · simp only [Act.put, List.setIfInBounds_toArray, List.set_cons_zero, List.set_cons_succ, i64_w, i32_w]
                rfl
              refine pure_ (i := 19) (N := some 53) (v := undef) (a' := ?_) #[true, true, true, true, true, true, true, true, true, true, true, true, true, true, true, true, true, true, true, true, false, false, false] rfl rfl (by kernel_rfl) (fun _ _ _ h => h) (Or.inr ⟨by rfl, rfl⟩) ?_ ?_
              rotate_left
              · simp only [Act.put, List.setIfInBounds_toArray, List.set_cons_zero, List.set_cons_succ, i64_w, i32_w]
                rfl
              refine pure_ (i := 20) (N := some 54) (v := undef) (a' := ?_) #[true, true, true, true, true, true, true, true, true, true, true, true, true, true, true, true, true, true, true, true, true, false, false] rfl rfl (by kernel_rfl) (fun _ _ _ h => h) (Or.inr ⟨by rfl, rfl⟩) ?_ ?_
              rotate_left
              · simp only [Act.put, List.setIfInBounds_toArray, List.set_cons_zero, List.set_cons_succ, i64_w, i32_w]
                rfl
              refine pure_ (i := 21) (N := some 55) (v := ?_) (a' := ?_) #[true, true, true, true, true, true, true, true, true, true, true, true, true, true, true, true, true, true, true, true, true, true, false] rfl rfl (by kernel_rfl) (fun _ _ _ h => h) (Or.inl ⟨by rfl, ?_⟩) ?_ ?_
              rotate_left
              · intro w'
                go_simp
                with_reducible rfl
              rotate_left
              · simp only [Act.put, List.setIfInBounds_toArray, List.set_cons_zero, List.set_cons_succ, i64_w, i32_w]
                rfl
              refine pure_ (i := 22) (N := some 2) (v := ?_) (a' := ?_) #[true, true, true, true, true, true, true, true, true, true, true, true, true, true, true, true, true, true, true, true, true, true, true] rfl rfl (by kernel_rfl) (fun _ _ _ h => h) (Or.inl ⟨by rfl, ?_⟩) ?_ ?_
              rotate_left
              · intro w'
                go_simp
                with_reducible rfl
              rotate_left
              · simp only [Act.put, List.setIfInBounds_toArray, List.set_cons_zero, List.set_cons_succ, i64_w, i32_w]
                rfl
              refine done_ (by kernel_rfl) ?_
              go_wp2
              go_ret
              exact ⟨rfl, below_step HB.out HBwe.out⟩
            | true =>
              obtain ⟨c, h4, h⟩ := Option.bind_eq_some_iff.mp (show ((impl_StarsFit.f k ar sd (st ++ [rd st 0])).bind fun c => some (!c)) = some r from h)
              have HO4 := Aside0.mk h4
              have e0 : (!c) = r := Option.some.inj h
              subst e0
              clear h h4
              go_enter Try.func6, Try.ntmps6
              go_wp2_with (first | ((with_reducible refine gate_callee (f := 20) rfl ?_); refine goesL_ (some 12) rfl rfl Try.func20 (by kernel_rfl) rfl #[.slice A0 l0.length c0] rfl (by (try simp only [List.map_toArray, List.map_cons, List.map_nil]); first | done | rfl) ?_; (with_reducible refine (spec_DrawStarsFit.calls k A0 c0 l0 ar sd st w HR.out hc0 HO0.out).mono ?_); rintro e wb ⟨v3, v5, rfl, hq, hr, hb⟩; obtain ⟨A3, c3, e3, hc3⟩ := Kd.Q_slice hq; subst e3; obtain ⟨A5, c5, e5⟩ := Kd.R_slice hr; subst e5; have HA := Aside0.mk (Kd.Q_mono (ok' := fun _ => True) hq (fun _ _ => trivial)); have HS := Aside0.mk (Kd.R_mono (ok' := fun _ => True) hr (fun _ _ => trivial)); have HB := Aside0.mk hb; clear hq hr hb hc3; refine ⟨_, rfl, ?_⟩) | ((with_reducible refine gate_callee (f := 12) rfl ?_); refine goesL_ (some 19) rfl rfl Try.func12 (by kernel_rfl) rfl #[.slice A3 ar.length c3, .int .i64 sd, .slice A5 st.length c5] rfl (by (try simp only [List.map_toArray, List.map_cons, List.map_nil]); first | done | rfl) ?_; (with_reducible refine (impl_StarsFit.calls k A3 c3 ar sd A5 c5 st _ _ (Kd.Q_reads' HA.out).2.2 (Kd.Q_reads' HA.out).2.1 (Kd.R_reads' HS.out).2.2 (Kd.R_reads' HS.out).2.1 HO1.out).mono ?_); rintro e wb ⟨rfl, hd⟩; have n1_ := Aside0.mk (Kd.Q_below HA.out hd); have n2_ := Aside0.mk (Kd.R_below HS.out hd); have n3_ := Aside0.mk (below_step HB.out hd); clear HA HS HB; have HA := n1_; have HS := n2_; have HB := n3_; clear n1_ n2_ n3_ hd; refine ⟨_, rfl, ?_⟩) | ((with_reducible refine gate_callee (f := 10) rfl ?_); refine goesL_ (some 24) rfl rfl Try.func10 (by kernel_rfl) rfl #[.slice A3 ar.length c3, .int .i64 sd, .slice A5 st.length c5] rfl (by (try simp only [List.map_toArray, List.map_cons, List.map_nil]); first | done | rfl) ?_; (with_reducible refine (spec_StarsFit.calls k A3 c3 ar sd A5 c5 st _ _ (Kd.Q_reads' HA.out).2.2 (Kd.Q_reads' HA.out).2.1 (Kd.R_reads' HS.out).2.2 (Kd.R_reads' HS.out).2.1 HO2.out).mono ?_); rintro e wb ⟨rfl, hd⟩; have n1_ := Aside0.mk (Kd.Q_below HA.out hd); have n2_ := Aside0.mk (Kd.R_below HS.out hd); have n3_ := Aside0.mk (below_step HB.out hd); clear HA HS HB; have HA := n1_; have HS := n2_; have HB := n3_; clear n1_ n2_ n3_ hd; refine ⟨_, rfl, ?_⟩))
              obtain ⟨ad, ead, hx0⟩ := Kd.at_int (Kd.R_reads' HS.out).2.2 0 (by omega) (by have := HPOS.out; omega)
              cases ead
              have eadd : ad.add (0 : Int).toNat = ad := by first | rfl | (simp; done) | (go_simp; done)
              rw [eadd] at hx0
              have q0n : (0 < st.length) = True := eq_true HPOS.out
              have HBd : Aside0 (Below wb.heap.size wb wb.drew) := ⟨below_drew1 (Below.refl _ _)⟩
              have HX0 := Aside0.mk hx0
              have LT := Aside0.mk (World.block_lt_of_cell? wb _ hx0)
              have hcap : t2.length ≤ c5 := Nat.le_trans LH.out (Kd.R_reads' HS.out).2.1
              have hdv : Int.tdiv (st.length : Int) 2 = (t2.length : Int) := by have := Nhf.out; rw [Int.tdiv_eq_ediv_of_nonneg (by omega)]; omega
              have hwf : wrap64 (t2.length : Int) = (t2.length : Int) := by have := LM.out; have := LH.out; unfold wrap64; omega
              have hwg : IntKind.i64.wrap (t2.length : Int) = (t2.length : Int) := by rw [i64_w]; exact hwf
              have hca : ((t2.length : Int) ≤ (c5 : Int)) = True := eq_true (by omega)
              have hcb : (0 ≤ (t2.length : Int)) = True := eq_true (by omega)
              refine start_ (n := 23) (S := fun w' => w'.cell? ad = some (.int .i64 (rd st 0))) (ds := []) #[false, false, false, false, false, false, false, false, false, false, false, false, false, false, false, false, false, false, false, false, false, false, false] (by kernel_rfl) rfl rfl ((HBd.out.cell LT.out).trans HX0.out) (fun hHeld => ?_)
              generalize wb.drew = wd at HBd hHeld ⊢
              refine pure_ (i := 0) (N := some 34) (v := ?_) (a' := ?_) #[true, false, false, false, false, false, false, false, false, false, false, false, false, false, false, false, false, false, false, false, false, false, false] rfl rfl (by kernel_rfl) (fun _ _ _ h => h) (Or.inl ⟨by rfl, ?_⟩) ?_ ?_
              rotate_left
              · intro w'
                go_simp
                with_reducible rfl
              rotate_left
              · simp only [Act.put, List.setIfInBounds_toArray, List.set_cons_zero, List.set_cons_succ, i64_w, i32_w]
                rfl
              refine pure_ (i := 1) (N := some 35) (v := ?_) (a' := ?_) #[true, true, false, false, false, false, false, false, false, false, false, false, false, false, false, false, false, false, false, false, false, false, false] rfl rfl (by kernel_rfl) (fun _ _ _ h => h) (Or.inl ⟨by rfl, ?_⟩) ?_ ?_
              rotate_left
              · intro w'
                go_simp
                with_reducible rfl
              rotate_left
              · simp only [Act.put, List.setIfInBounds_toArray, List.set_cons_zero, List.set_cons_succ, i64_w, i32_w]
                rfl
              refine pure_ (i := 2) (N := some 36) (v := ?_) (a' := ?_) #[true, true, true, false, false, false, false, false, false, false, false, false, false, false, false, false, false, false, false, false, false, false, false] rfl rfl (by kernel_rfl) (fun _ _ _ h => h) (Or.inl ⟨by rfl, ?_⟩) ?_ ?_
              rotate_left
              · intro w'
                go_simp
                with_reducible rfl
              rotate_left
              · simp only [Act.put, List.setIfInBounds_toArray, List.set_cons_zero, List.set_cons_succ, i64_w, i32_w]
                rfl
              refine pure_ (i := 3) (N := some 37) (v := ?_) (a' := ?_) #[true, true, true, true, false, false, false, false, false, false, false, false, false, false, false, false, false, false, false, false, false, false, false] rfl rfl (by kernel_rfl) (fun _ _ _ h => h) (Or.inl ⟨by rfl, ?_⟩) ?_ ?_
              rotate_left
              · intro w'
                go_simp
                with_reducible rfl
              rotate_left
              · simp only [Act.put, List.setIfInBounds_toArray, List.set_cons_zero, List.set_cons_succ, i64_w, i32_w]
                rfl
              refine pure_ (i := 4) (N := some 38) (v := ?_) (a' := ?_) #[true, true, true, true, true, false, false, false, false, false, false, false, false, false, false, false, false, false, false, false, false, false, false] rfl rfl (by kernel_rfl) (fun _ _ _ h => h) (Or.inl ⟨by rfl, ?_⟩) ?_ ?_
              rotate_left
              · intro w'
                go_simp
                with_reducible rfl
              rotate_left
              · simp only [Act.put, List.setIfInBounds_toArray, List.set_cons_zero, List.set_cons_succ, i64_w, i32_w]
                rfl
              refine pure_ (i := 5) (N := some 39) (v := ?_) (a' := ?_) #[true, true, true, true, true, true, false, false, false, false, false, false, false, false, false, false, false, false, false, false, false, false, false] rfl rfl (by kernel_rfl) (fun _ _ _ h => h) (Or.inl ⟨by rfl, ?_⟩) ?_ ?_
              rotate_left
              · intro w'
                go_simp
                with_reducible rfl
              rotate_left
              · simp only [Act.put, List.setIfInBounds_toArray, List.set_cons_zero, List.set_cons_succ, i64_w, i32_w]
                rfl
              refine pure_ (i := 6) (N := some 40) (v := ?_) (a' := ?_) #[true, true, true, true, true, true, true, false, false, false, false, false, false, false, false, false, false, false, false, false, false, false, false] rfl rfl (by kernel_rfl) (fun _ _ _ h => h) (Or.inl ⟨by rfl, ?_⟩) ?_ ?_
              rotate_left
              · intro w'
                go_simp
                with_reducible rfl
              rotate_left
              · simp only [Act.put, List.setIfInBounds_toArray, List.set_cons_zero, List.set_cons_succ, i64_w, i32_w]
                rfl
              have hs1_ := Kd.R_take (Kd.R_below HS.out HBd.out) LH.out
              rw [Nt2.out] at hs1_
              have HS1 := Aside0.mk hs1_
              clear hs1_
              have HA1 := Aside0.mk (Kd.Q_below HA.out HBd.out)
              have HBz := Aside0.mk (below_step HB.out HBd.out)
              have HSd := Aside0.mk (Kd.R_below HS.out HBd.out)
              refine one_ (i := 7) (N := some 41) #[true, true, true, true, true, true, true, true, false, false, false, false, false, false, false, false, false, false, false, false, false, false, false] rfl rfl (by kernel_rfl) (by decide) (fun K hK => ?_)
              refine goes_ Try.func12 (by kernel_rfl) rfl #[.slice A3 ar.length c3, .int .i64 sd, .slice (some ad) t2.length c5] (by rfl) rfl rfl (by (try simp only [List.map_toArray, List.map_cons, List.map_nil]); first | done | rfl) ?_
              with_reducible refine (impl_StarsFit.calls k A3 c3 ar sd (some ad) c5 t2 _ _ (Kd.Q_reads' HA1.out).2.2 (Kd.Q_reads' HA1.out).2.1 (Kd.R_reads' HS1.out).2.2 (Kd.R_reads' HS1.out).2.1 HO3.out).mono ?_
              rintro e we ⟨rfl, hd⟩
              have HBwe := Aside0.mk (below_step HBd.out hd)
              have HAwe := Aside0.mk (Kd.Q_below HA1.out hd)
              have HSwe := Aside0.mk (Kd.R_below HSd.out hd)
              clear hd
              refine ⟨_, rfl, ?_⟩
              refine hK.out _ _ ((HBwe.out.cell LT.out).trans HX0.out) (fun hHeld => ?_)
              clear hK K
              refine norm_ (a' := ?_) ?_ ?_
              rotate_left
              · show Act.put _ (some 41) _ = _
                simp only [Act.put, List.setIfInBounds_toArray, List.set_cons_zero, List.set_cons_succ, i64_w, i32_w]
                rfl
              refine pure_ (i := 8) (N := some 42) (v := ?_) (a' := ?_) #[true, true, true, true, true, true, true, true, true, false, false, false, false, false, false, false, false, false, false, false, false, false, false] rfl rfl (by kernel_rfl) (fun _ _ _ h => h) (Or.inl ⟨by rfl, ?_⟩) ?_ ?_
              rotate_left
              · intro w'
                go_simp
                with_reducible rfl
              rotate_left
              · simp only [Act.put, List.setIfInBounds_toArray, List.set_cons_zero, List.set_cons_succ, i64_w, i32_w]
                rfl
              refine pure_ (i := 9) (N := some 43) (v := ?_) (a' := ?_) #[true, true, true, true, true, true, true, true, true, true, false, false, false, false, false, false, false, false, false, false, false, false, false] rfl rfl (by kernel_rfl) (fun _ _ _ h => h) (Or.inl ⟨by rfl, ?_⟩) ?_ ?_
              rotate_left
              · intro w'
                go_simp
                with_reducible rfl
              rotate_left
              · simp only [Act.put, List.setIfInBounds_toArray, List.set_cons_zero, List.set_cons_succ, i64_w, i32_w]
                rfl
              refine pure_ (i := 10) (N := some 44) (v := ?_) (a' := ?_) #[true, true, true, true, true, true, true, true, true, true, true, false, false, false, false, false, false, false, false, false, false, false, false] rfl rfl (by kernel_rfl) (fun _ _ _ h => h) (Or.inl ⟨by rfl, ?_⟩) ?_ ?_
              rotate_left
              · intro w'
                go_simp
                with_reducible rfl
              rotate_left
              · simp only [Act.put, List.setIfInBounds_toArray, List.set_cons_zero, List.set_cons_succ, i64_w, i32_w]
                rfl
              refine pure_ (i := 12) (N := some 46) (v := ?_) (a' := ?_) #[true, true, true, true, true, true, true, true, true, true, true, false, true, false, false, false, false, false, false, false, false, false, false] rfl rfl (by kernel_rfl) (fun _ _ _ h => h) (Or.inl ⟨by rfl, ?_⟩) ?_ ?_
              rotate_left
              · intro w'
                go_simp
                with_reducible rfl
              rotate_left
              · simp only [Act.put, List.setIfInBounds_toArray, List.set_cons_zero, List.set_cons_succ, i64_w, i32_w]
                rfl
              refine pure_ (i := 14) (N := some 48) (v := ?_) (a' := ?_) #[true, true, true, true, true, true, true, true, true, true, true, false, true, false, true, false, false, false, false, false, false, false, false] rfl rfl (by kernel_rfl) (fun _ _ _ h => h) (Or.inl ⟨by rfl, ?_⟩) ?_ ?_
              rotate_left
              · intro w'
                go_simp
                with_reducible rfl
              rotate_left
              · simp only [Act.put, List.setIfInBounds_toArray, List.set_cons_zero, List.set_cons_succ, i64_w, i32_w]
                rfl
              refine pure_ (i := 15) (N := some 49) (v := ?_) (a' := ?_) #[true, true, true, true, true, true, true, true, true, true, true, false, true, false, true, true, false, false, false, false, false, false, false] rfl rfl (by kernel_rfl) (fun _ _ _ h => h) (Or.inl ⟨by rfl, ?_⟩) ?_ ?_
              rotate_left
              · intro w'
                go_simp
                with_reducible rfl
              rotate_left
              · simp only [Act.put, List.setIfInBounds_toArray, List.set_cons_zero, List.set_cons_succ, i64_w, i32_w]
                rfl
              refine take_ (i := 16) (N := some 50) (v := ?_) (a' := ?_) #[true, true, true, true, true, true, true, true, true, true, true, false, true, false, true, true, true, false, false, false, false, false, false] rfl rfl (by kernel_rfl) (fun _ _ _ h => h) (Or.inl ⟨by rfl, ?_⟩) hHeld ?_ ?_
              rotate_left
              · rintro w' s0
                go_simp
                with_reducible rfl
              rotate_left
              · simp only [Act.put, List.setIfInBounds_toArray, List.set_cons_zero, List.set_cons_succ, i64_w, i32_w]
                rfl
              refine two_ (i := 11) (j := 17) (Ni := some 45) (Nj := some 51) #[true, true, true, true, true, true, true, true, true, true, true, true, true, false, true, true, true, false, false, false, false, false, false] #[true, true, true, true, true, true, true, true, true, true, true, false, true, false, true, true, true, true, false, false, false, false, false] rfl rfl rfl rfl (by kernel_rfl) (by decide) (by decide) (fun K hK => ?_) (fun K hK => ?_)
              · refine Kd.R_lit_step (Kd.int .i64) (w0 := wb) wb.heap.size 3 (by rfl) (N := 45) rfl (xs := ([] : List Int)) (inner := []) (ok := fun _ => True) (okp := fun _ => True) (by first | (go_simp; done) | (go_simp; rfl)) (Reps.none _ _) (fun _ hk => hk) trivial HBwe.out HBwe.out.size (by simp) ?_
                intro v45 x1_ ho hb hg_ hnew_
                have G451_ := Aside0.mk ho
                have GB1_ := Aside0.mk hb
                clear ho hb hg_ hnew_
                refine hK.out _ _ ((GB1_.out.cell LT.out).trans HX0.out) (fun hHeld => ?_)
                clear hK K
                refine norm_ (a' := ?_) ?_ ?_
                rotate_left
                · show Act.put _ (some 45) _ = _
                  simp only [Act.put, List.setIfInBounds_toArray, List.set_cons_zero, List.set_cons_succ, i64_w, i32_w]
                  rfl
                refine two_ (i := 13) (j := 17) (Ni := some 47) (Nj := some 51) #[true, true, true, true, true, true, true, true, true, true, true, true, true, true, true, true, true, false, false, false, false, false, false] #[true, true, true, true, true, true, true, true, true, true, true, true, true, false, true, true, true, true, false, false, false, false, false] rfl rfl rfl rfl (by kernel_rfl) (by decide) (by decide) (fun K hK => ?_) (fun K hK => ?_)
                · refine Kd.R_append_rows_step (Kd.int .i64) (w0 := wb) wb.heap.size (by rfl) (.tmp 45) (.tmp 46) 22 3 (.int .i64 0) 8 rfl Try.underlying22 hi3 rfl (by decide) (by omega) v45 [] st _ _ _ (fun _ => True) (fun _ => False) rfl rfl G451_.out (Kd.R_reads' (Kd.R_below HS.out GB1_.out)).2.2 (fun _ _ h => h) (fun _ h => h.elim) (fun _ _ => trivial) GB1_.out GB1_.out.size (by have := LM.out; simp; omega) ?_
                  intro v47 x3_ ho hb hg hat
                  rw [List.nil_append] at ho
                  have G473_ := Aside0.mk ho
                  have GB3_ := Aside0.mk hb
                  clear ho hb hg hat
                  refine hK.out _ _ ((GB3_.out.cell LT.out).trans HX0.out) (fun hHeld => ?_)
                  clear hK K
                  refine norm_ (a' := ?_) ?_ ?_
                  rotate_left
                  · show Act.put _ (some 47) _ = _
                    simp only [Act.put, List.setIfInBounds_toArray, List.set_cons_zero, List.set_cons_succ, i64_w, i32_w]
                    rfl
                  refine one_ (i := 17) (N := some 51) #[true, true, true, true, true, true, true, true, true, true, true, true, true, true, true, true, true, true, false, false, false, false, false] rfl rfl (by kernel_rfl) (by decide) (fun K hK => ?_)
                  refine event_step (v := .slice (some ⟨x3_.heap.size, 0, none⟩) 1 1) (w1 := x3_.alloc (Obj.cells #[.int .i64 (rd st 0)] 3)) (by rfl) ?_ ?_
                  · first | (go_simp; done) | (go_simp; rfl)
                  have G575_ := Aside0.mk (blk_new x3_ (Obj.cells #[.int .i64 (rd st 0)] 3))
                  have GB5_ := Aside0.mk (GB3_.out.alloc GB3_.out.size (Obj.cells #[.int .i64 (rd st 0)] 3))
                  have G455_ := Aside0.mk (Kd.R_alloc G451_.out (Obj.cells #[.int .i64 (rd st 0)] 3))
                  have G475_ := Aside0.mk (Kd.R_alloc G473_.out (Obj.cells #[.int .i64 (rd st 0)] 3))
                  generalize x3_.alloc (Obj.cells #[.int .i64 (rd st 0)] 3) = x5_ at G575_ GB5_ G455_ G475_ ⊢
                  obtain ⟨b57, hb57⟩ : ∃ b_, x3_.heap.size = b_ := ⟨_, rfl⟩
                  rw [hb57] at G575_ ⊢
                  clear hb57
                  refine hK.out _ _ ((GB5_.out.cell LT.out).trans HX0.out) (fun hHeld => ?_)
                  clear hK K
                  refine norm_ (a' := ?_) ?_ ?_
                  rotate_left
                  · show Act.put _ (some 51) _ = _
                    simp only [Act.put, List.setIfInBounds_toArray, List.set_cons_zero, List.set_cons_succ, i64_w, i32_w]
                    rfl
                  refine one_ (i := 18) (N := some 52) #[true, true, true, true, true, true, true, true, true, true, true, true, true, true, true, true, true, true, true, false, false, false, false] rfl rfl (by kernel_rfl) (by decide) (fun K hK => ?_)
                  refine int_lies_step2 (w0 := wb) (base := wb.heap.size) (ok := fun _ => True) (by rfl) (.tmp 47) (.tmp 51) 22 3 rfl Try.underlying22 hi3 v47 st (rd st 0) b57 rfl rfl G475_.out G575_.out GB5_.out GB5_.out.size (fun _ _ => trivial) (by have := LM.out; omega) ?_
                  intro v52 w52 ho hb hg
                  obtain ⟨y, hy⟩ : ∃ y_ : List Int, y_ = st ++ [rd st 0] := ⟨_, rfl⟩
                  rw [← hy] at ho HO4
                  obtain ⟨An, cn, en⟩ := Kd.R_slice ho
                  subst en
                  have HY := Aside0.mk ho
                  have HB52 := Aside0.mk hb
                  clear ho hb hg hy
                  refine hK.out _ _ ((HB52.out.cell LT.out).trans HX0.out) (fun hHeld => ?_)
                  clear hK K
                  refine norm_ (a' := ?_) ?_ ?_
                  rotate_left
                  · show Act.put _ (some 52) _ = _
                    simp only [Act.put, List.setIfInBounds_toArray, List.set_cons_zero, List.set_cons_succ, i64_w, i32_w]
                    rfl
                  refine one_ (i := 19) (N := some 53) #[true, true, true, true, true, true, true, true, true, true, true, true, true, true, true, true, true, true, true, true, false, false, false] rfl rfl (by kernel_rfl) (by decide) (fun K hK => ?_)
                  refine goes_ Try.func12 (by kernel_rfl) rfl #[.slice A3 ar.length c3, .int .i64 sd, .slice An y.length cn] (by rfl) rfl rfl (by (try simp only [List.map_toArray, List.map_cons, List.map_nil]); first | done | rfl) ?_
                  with_reducible refine (impl_StarsFit.calls k A3 c3 ar sd An cn y _ _ (Kd.Q_reads' (Kd.Q_below HA.out HB52.out)).2.2 (Kd.Q_reads' HA.out).2.1 (Kd.R_reads' HY.out).2.2 (Kd.R_reads' HY.out).2.1 HO4.out).mono ?_
                  rintro e wz ⟨rfl, hd⟩
                  have HBz2 := Aside0.mk (below_step HB52.out hd)
                  clear hd
                  refine ⟨_, rfl, ?_⟩
                  refine hK.out _ _ ((HBz2.out.cell LT.out).trans HX0.out) (fun hHeld => ?_)
                  clear hK K
                  refine norm_ (a' := ?_) ?_ ?_
                  rotate_left
                  · show Act.put _ (some 53) _ = _
                    simp only [Act.put, List.setIfInBounds_toArray, List.set_cons_zero, List.set_cons_succ, i64_w, i32_w]
                    rfl
                  refine pure_ (i := 20) (N := some 54) (v := ?_) (a' := ?_) #[true, true, true, true, true, true, true, true, true, true, true, true, true, true, true, true, true, true, true, true, true, false, false] rfl rfl (by kernel_rfl) (fun _ _ _ h => h) (Or.inl ⟨by rfl, ?_⟩) ?_ ?_
                  rotate_left
                  · intro w'
                    go_simp
                    with_reducible rfl
                  rotate_left
                  · simp only [Act.put, List.setIfInBounds_toArray, List.set_cons_zero, List.set_cons_succ, i64_w, i32_w]
                    rfl
                  refine pure_ (i := 21) (N := some 55) (v := ?_) (a' := ?_) #[true, true, true, true, true, true, true, true, true, true, true, true, true, true, true, true, true, true, true, true, true, true, false] rfl rfl (by kernel_rfl) (fun _ _ _ h => h) (Or.inl ⟨by rfl, ?_⟩) ?_ ?_
                  rotate_left
                  · intro w'
                    go_simp
                    with_reducible rfl
                  rotate_left
                  · simp only [Act.put, List.setIfInBounds_toArray, List.set_cons_zero, List.set_cons_succ, i64_w, i32_w]
                    rfl
                  refine pure_ (i := 22) (N := some 2) (v := ?_) (a' := ?_) #[true, true, true, true, true, true, true, true, true, true, true, true, true, true, true, true, true, true, true, true, true, true, true] rfl rfl (by kernel_rfl) (fun _ _ _ h => h) (Or.inl ⟨by rfl, ?_⟩) ?_ ?_
                  rotate_left
                  · intro w'
                    go_simp
                    with_reducible rfl
                  rotate_left
                  · simp only [Act.put, List.setIfInBounds_toArray, List.set_cons_zero, List.set_cons_succ, i64_w, i32_w]
                    rfl
                  refine done_ (by kernel_rfl) ?_
                  go_wp2
                  go_ret
                  exact ⟨by first | rfl | (simp; done), below_step HB.out HBz2.out⟩
                · refine event_step (v := .slice (some ⟨x1_.heap.size, 0, none⟩) 1 1) (w1 := x1_.alloc (Obj.cells #[.int .i64 (rd st 0)] 3)) (by rfl) ?_ ?_
                  · first | (go_simp; done) | (go_simp; rfl)
                  have G574_ := Aside0.mk (blk_new x1_ (Obj.cells #[.int .i64 (rd st 0)] 3))
                  have GB4_ := Aside0.mk (GB1_.out.alloc GB1_.out.size (Obj.cells #[.int .i64 (rd st 0)] 3))
                  have G454_ := Aside0.mk (Kd.R_alloc G451_.out (Obj.cells #[.int .i64 (rd st 0)] 3))
                  have NE := Aside0.mk (show some x1_.heap.size ≠ v45.ownBlock from fun e_ => by have h3_ := Kd.R_lt G451_.out _ e_.symm; omega)
                  generalize x1_.alloc (Obj.cells #[.int .i64 (rd st 0)] 3) = x4_ at G574_ GB4_ G454_ ⊢
                  obtain ⟨b57, hb57⟩ : ∃ b_, x1_.heap.size = b_ := ⟨_, rfl⟩
                  rw [hb57] at G574_ NE ⊢
                  clear hb57
                  refine hK.out _ _ ((GB4_.out.cell LT.out).trans HX0.out) (fun hHeld => ?_)
                  clear hK K
                  refine norm_ (a' := ?_) ?_ ?_
                  rotate_left
                  · show Act.put _ (some 51) _ = _
                    simp only [Act.put, List.setIfInBounds_toArray, List.set_cons_zero, List.set_cons_succ, i64_w, i32_w]
                    rfl
                  refine one_ (i := 13) (N := some 47) #[true, true, true, true, true, true, true, true, true, true, true, true, true, true, true, true, true, true, false, false, false, false, false] rfl rfl (by kernel_rfl) (by decide) (fun K hK => ?_)
                  refine Kd.R_append_rows_step (Kd.int .i64) (w0 := wb) wb.heap.size (by rfl) (.tmp 45) (.tmp 46) 22 3 (.int .i64 0) 8 rfl Try.underlying22 hi3 rfl (by decide) (by omega) v45 [] st _ _ _ (fun _ => True) (fun _ => False) rfl rfl G454_.out (Kd.R_reads' (Kd.R_below HS.out GB4_.out)).2.2 (fun _ _ h => h) (fun _ h => h.elim) (fun _ _ => trivial) GB4_.out GB4_.out.size (by have := LM.out; simp; omega) ?_
                  intro v47 x6_ ho hb hg hat
                  rw [List.nil_append] at ho
                  have G476_ := Aside0.mk ho
                  have GB6_ := Aside0.mk hb
                  have G576_ := Aside0.mk (blk_grown G574_.out hg NE.out)
                  clear ho hb hg hat
                  refine hK.out _ _ ((GB6_.out.cell LT.out).trans HX0.out) (fun hHeld => ?_)
                  clear hK K
                  refine norm_ (a' := ?_) ?_ ?_
                  rotate_left
                  · show Act.put _ (some 47) _ = _
                    simp only [Act.put, List.setIfInBounds_toArray, List.set_cons_zero, List.set_cons_succ, i64_w, i32_w]
                    rfl
                  refine one_ (i := 18) (N := some 52) #[true, true, true, true, true, true, true, true, true, true, true, true, true, true, true, true, true, true, true, false, false, false, false] rfl rfl (by kernel_rfl) (by decide) (fun K hK => ?_)
                  refine int_lies_step2 (w0 := wb) (base := wb.heap.size) (ok := fun _ => True) (by rfl) (.tmp 47) (.tmp 51) 22 3 rfl Try.underlying22 hi3 v47 st (rd st 0) b57 rfl rfl G476_.out G576_.out GB6_.out GB6_.out.size (fun _ _ => trivial) (by have := LM.out; omega) ?_
                  intro v52 w52 ho hb hg
                  obtain ⟨y, hy⟩ : ∃ y_ : List Int, y_ = st ++ [rd st 0] := ⟨_, rfl⟩
                  rw [← hy] at ho HO4
                  obtain ⟨An, cn, en⟩ := Kd.R_slice ho
                  subst en
                  have HY := Aside0.mk ho
                  have HB52 := Aside0.mk hb
                  clear ho hb hg hy
                  refine hK.out _ _ ((HB52.out.cell LT.out).trans HX0.out) (fun hHeld => ?_)
                  clear hK K
                  refine norm_ (a' := ?_) ?_ ?_
                  rotate_left
                  · show Act.put _ (some 52) _ = _
                    simp only [Act.put, List.setIfInBounds_toArray, List.set_cons_zero, List.set_cons_succ, i64_w, i32_w]
                    rfl
                  refine one_ (i := 19) (N := some 53) #[true, true, true, true, true, true, true, true, true, true, true, true, true, true, true, true, true, true, true, true, false, false, false] rfl rfl (by kernel_rfl) (by decide) (fun K hK => ?_)
                  refine goes_ Try.func12 (by kernel_rfl) rfl #[.slice A3 ar.length c3, .int .i64 sd, .slice An y.length cn] (by rfl) rfl rfl (by (try simp only [List.map_toArray, List.map_cons, List.map_nil]); first | done | rfl) ?_
                  with_reducible refine (impl_StarsFit.calls k A3 c3 ar sd An cn y _ _ (Kd.Q_reads' (Kd.Q_below HA.out HB52.out)).2.2 (Kd.Q_reads' HA.out).2.1 (Kd.R_reads' HY.out).2.2 (Kd.R_reads' HY.out).2.1 HO4.out).mono ?_
                  rintro e wz ⟨rfl, hd⟩
                  have HBz2 := Aside0.mk (below_step HB52.out hd)
                  clear hd
                  refine ⟨_, rfl, ?_⟩
                  refine hK.out _ _ ((HBz2.out.cell LT.out).trans HX0.out) (fun hHeld => ?_)
                  clear hK K
                  refine norm_ (a' := ?_) ?_ ?_
                  rotate_left
                  · show Act.put _ (some 53) _ = _
                    simp only [Act.put, List.setIfInBounds_toArray, List.set_cons_zero, List.set_cons_succ, i64_w, i32_w]
                    rfl
                  refine pure_ (i := 20) (N := some 54) (v := ?_) (a' := ?_) #[true, true, true, true, true, true, true, true, true, true, true, true, true, true, true, true, true, true, true, true, true, false, false] rfl rfl (by kernel_rfl) (fun _ _ _ h => h) (Or.inl ⟨by rfl, ?_⟩) ?_ ?_
                  rotate_left
                  · intro w'
                    go_simp
                    with_reducible rfl
                  rotate_left
                  · simp only [Act.put, List.setIfInBounds_toArray, List.set_cons_zero, List.set_cons_succ, i64_w, i32_w]
                    rfl
                  refine pure_ (i := 21) (N := some 55) (v := ?_) (a' := ?_) #[true, true, true, true, true, true, true, true, true, true, true, true, true, true, true, true, true, true, true, true, true, true, false] rfl rfl (by kernel_rfl) (fun _ _ _ h => h) (Or.inl ⟨by rfl, ?_⟩) ?_ ?_
                  rotate_left
                  · intro w'
                    go_simp
                    with_reducible rfl
                  rotate_left
                  · simp only [Act.put, List.setIfInBounds_toArray, List.set_cons_zero, List.set_cons_succ, i64_w, i32_w]
                    rfl
                  refine pure_ (i := 22) (N := some 2) (v := ?_) (a' := ?_) #[true, true, true, true, true, true, true, true, true, true, true, true, true, true, true, true, true, true, true, true, true, true, true] rfl rfl (by kernel_rfl) (fun _ _ _ h => h) (Or.inl ⟨by rfl, ?_⟩) ?_ ?_
                  rotate_left
                  · intro w'
                    go_simp
                    with_reducible rfl
                  rotate_left
                  · simp only [Act.put, List.setIfInBounds_toArray, List.set_cons_zero, List.set_cons_succ, i64_w, i32_w]
                    rfl
                  refine done_ (by kernel_rfl) ?_
                  go_wp2
                  go_ret
                  exact ⟨by first | rfl | (simp; done), below_step HB.out HBz2.out⟩
              · refine event_step (v := .slice (some ⟨we.heap.size, 0, none⟩) 1 1) (w1 := we.alloc (Obj.cells #[.int .i64 (rd st 0)] 3)) (by rfl) ?_ ?_
                · first | (go_simp; done) | (go_simp; rfl)
                have G572_ := Aside0.mk (blk_new we (Obj.cells #[.int .i64 (rd st 0)] 3))
                have GB2_ := Aside0.mk (HBwe.out.alloc HBwe.out.size (Obj.cells #[.int .i64 (rd st 0)] 3))
                generalize we.alloc (Obj.cells #[.int .i64 (rd st 0)] 3) = x2_ at G572_ GB2_ ⊢
                obtain ⟨b57, hb57⟩ : ∃ b_, we.heap.size = b_ := ⟨_, rfl⟩
                rw [hb57] at G572_ ⊢
                clear hb57
                refine hK.out _ _ ((GB2_.out.cell LT.out).trans HX0.out) (fun hHeld => ?_)
                clear hK K
                refine norm_ (a' := ?_) ?_ ?_
                rotate_left
                · show Act.put _ (some 51) _ = _
                  simp only [Act.put, List.setIfInBounds_toArray, List.set_cons_zero, List.set_cons_succ, i64_w, i32_w]
                  rfl
                refine one_ (i := 11) (N := some 45) #[true, true, true, true, true, true, true, true, true, true, true, true, true, false, true, true, true, true, false, false, false, false, false] rfl rfl (by kernel_rfl) (by decide) (fun K hK => ?_)
                refine Kd.R_lit_step (Kd.int .i64) (w0 := wb) wb.heap.size 3 (by rfl) (N := 45) rfl (xs := ([] : List Int)) (inner := []) (ok := fun _ => True) (okp := fun _ => True) (by first | (go_simp; done) | (go_simp; rfl)) (Reps.none _ _) (fun _ hk => hk) trivial GB2_.out GB2_.out.size (by simp) ?_
                intro v45 x7_ ho hb hg_ hnew_
                have G457_ := Aside0.mk ho
                have GB7_ := Aside0.mk hb
                have G577_ := Aside0.mk (blk_grown G572_.out hg_ (by simp))
                have NE := Aside0.mk (show some b57 ≠ v45.ownBlock from fun e_ => by obtain ⟨b_, h1_, h2_⟩ := hnew_; rw [h1_] at e_; injection e_ with e_; have h3_ := blk_lt G572_.out; omega)
                clear ho hb hg_ hnew_
                refine hK.out _ _ ((GB7_.out.cell LT.out).trans HX0.out) (fun hHeld => ?_)
                clear hK K
                refine norm_ (a' := ?_) ?_ ?_
                rotate_left
                · show Act.put _ (some 45) _ = _
                  simp only [Act.put, List.setIfInBounds_toArray, List.set_cons_zero, List.set_cons_succ, i64_w, i32_w]
                  rfl
                refine one_ (i := 13) (N := some 47) #[true, true, true, true, true, true, true, true, true, true, true, true, true, true, true, true, true, true, false, false, false, false, false] rfl rfl (by kernel_rfl) (by decide) (fun K hK => ?_)
                refine Kd.R_append_rows_step (Kd.int .i64) (w0 := wb) wb.heap.size (by rfl) (.tmp 45) (.tmp 46) 22 3 (.int .i64 0) 8 rfl Try.underlying22 hi3 rfl (by decide) (by omega) v45 [] st _ _ _ (fun _ => True) (fun _ => False) rfl rfl G457_.out (Kd.R_reads' (Kd.R_below HS.out GB7_.out)).2.2 (fun _ _ h => h) (fun _ h => h.elim) (fun _ _ => trivial) GB7_.out GB7_.out.size (by have := LM.out; simp; omega) ?_
                intro v47 x8_ ho hb hg hat
                rw [List.nil_append] at ho
                have G478_ := Aside0.mk ho
                have GB8_ := Aside0.mk hb
                have G578_ := Aside0.mk (blk_grown G577_.out hg NE.out)
                clear ho hb hg hat
                refine hK.out _ _ ((GB8_.out.cell LT.out).trans HX0.out) (fun hHeld => ?_)
                clear hK K
                refine norm_ (a' := ?_) ?_ ?_
                rotate_left
                · show Act.put _ (some 47) _ = _
                  simp only [Act.put, List.setIfInBounds_toArray, List.set_cons_zero, List.set_cons_succ, i64_w, i32_w]
                  rfl
                refine one_ (i := 18) (N := some 52) #[true, true, true, true, true, true, true, true, true, true, true, true, true, true, true, true, true, true, true, false, false, false, false] rfl rfl (by kernel_rfl) (by decide) (fun K hK => ?_)
                refine int_lies_step2 (w0 := wb) (base := wb.heap.size) (ok := fun _ => True) (by rfl) (.tmp 47) (.tmp 51) 22 3 rfl Try.underlying22 hi3 v47 st (rd st 0) b57 rfl rfl G478_.out G578_.out GB8_.out GB8_.out.size (fun _ _ => trivial) (by have := LM.out; omega) ?_
                intro v52 w52 ho hb hg
                obtain ⟨y, hy⟩ : ∃ y_ : List Int, y_ = st ++ [rd st 0] := ⟨_, rfl⟩
                rw [← hy] at ho HO4
                obtain ⟨An, cn, en⟩ := Kd.R_slice ho
                subst en
                have HY := Aside0.mk ho
                have HB52 := Aside0.mk hb
                clear ho hb hg hy
                refine hK.out _ _ ((HB52.out.cell LT.out).trans HX0.out) (fun hHeld => ?_)
                clear hK K
                refine norm_ (a' := ?_) ?_ ?_
                rotate_left
                · show Act.put _ (some 52) _ = _
                  simp only [Act.put, List.setIfInBounds_toArray, List.set_cons_zero, List.set_cons_succ, i64_w, i32_w]
                  rfl
                refine one_ (i := 19) (N := some 53) #[true, true, true, true, true, true, true, true, true, true, true, true, true, true, true, true, true, true, true, true, false, false, false] rfl rfl (by kernel_rfl) (by decide) (fun K hK => ?_)
                refine goes_ Try.func12 (by kernel_rfl) rfl #[.slice A3 ar.length c3, .int .i64 sd, .slice An y.length cn] (by rfl) rfl rfl (by (try simp only [List.map_toArray, List.map_cons, List.map_nil]); first | done | rfl) ?_
                with_reducible refine (impl_StarsFit.calls k A3 c3 ar sd An cn y _ _ (Kd.Q_reads' (Kd.Q_below HA.out HB52.out)).2.2 (Kd.Q_reads' HA.out).2.1 (Kd.R_reads' HY.out).2.2 (Kd.R_reads' HY.out).2.1 HO4.out).mono ?_
                rintro e wz ⟨rfl, hd⟩
                have HBz2 := Aside0.mk (below_step HB52.out hd)
                clear hd
                refine ⟨_, rfl, ?_⟩
                refine hK.out _ _ ((HBz2.out.cell LT.out).trans HX0.out) (fun hHeld => ?_)
                clear hK K
                refine norm_ (a' := ?_) ?_ ?_
                rotate_left
                · show Act.put _ (some 53) _ = _
                  simp only [Act.put, List.setIfInBounds_toArray, List.set_cons_zero, List.set_cons_succ, i64_w, i32_w]
                  rfl
                refine pure_ (i := 20) (N := some 54) (v := ?_) (a' := ?_) #[true, true, true, true, true, true, true, true, true, true, true, true, true, true, true, true, true, true, true, true, true, false, false] rfl rfl (by kernel_rfl) (fun _ _ _ h => h) (Or.inl ⟨by rfl, ?_⟩) ?_ ?_
                rotate_left
                · intro w'
                  go_simp
                  with_reducible rfl
                rotate_left
                · simp only [Act.put, List.setIfInBounds_toArray, List.set_cons_zero, List.set_cons_succ, i64_w, i32_w]
                  rfl
                refine pure_ (i := 21) (N := some 55) (v := ?_) (a' := ?_) #[true, true, true, true, true, true, true, true, true, true, true, true, true, true, true, true, true, true, true, true, true, true, false] rfl rfl (by kernel_rfl) (fun _ _ _ h => h) (Or.inl ⟨by rfl, ?_⟩) ?_ ?_
                rotate_left
                · intro w'
                  go_simp
                  with_reducible rfl
                rotate_left
                · simp only [Act.put, List.setIfInBounds_toArray, List.set_cons_zero, List.set_cons_succ, i64_w, i32_w]
                  rfl
                refine pure_ (i := 22) (N := some 2) (v := ?_) (a' := ?_) #[true, true, true, true, true, true, true, true, true, true, true, true, true, true, true, true, true, true, true, true, true, true, true] rfl rfl (by kernel_rfl) (fun _ _ _ h => h) (Or.inl ⟨by rfl, ?_⟩) ?_ ?_
                rotate_left
                · intro w'
                  go_simp
                  with_reducible rfl
                rotate_left
                · simp only [Act.put, List.setIfInBounds_toArray, List.set_cons_zero, List.set_cons_succ, i64_w, i32_w]
                  rfl
                refine done_ (by kernel_rfl) ?_
                go_wp2
                go_ret
                exact ⟨by first | rfl | (simp; done), below_step HB.out HBz2.out⟩
          · rw [if_neg c4] at h
            exact absurd h (by simp)

/-- THE ONE PURE STATEMENT of laws_FnStarsFit: yours. -/
def laws_FnStarsFit.Pure : Prop := ∀ (l0 : List Int), l0.length ≤ maxLen → l0.length * 1 ≤ 140737488351232 → (∀ x ∈ l0, (Lit.int .u8 x).wf = true) → ∃ k, laws_FnStarsFit.f k l0 = some true
theorem laws_FnStarsFit.walk (P : laws_FnStarsFit.Pure) (a0 : Option Addr) (len0 cap0 : Nat) (z0 : List Int) (w : World) (w0 : (a0 = none ∧ len0 = 0 ∧ cap0 = 0 ∧ z0 = []) ∨ ∃ x, a0 = some x ∧ len0 ≤ cap0 ∧ cap0 ≤ maxLen ∧ z0.length = cap0 ∧ (∀ i, i < z0.length → w.cell? (x.add i) = some (.int .u8 (z0.getD i 0))) ∧ ∀ n ∈ z0, (Lit.int .u8 n).wf = true) (y0 : len0 * 1 ≤ 140737488351232) :
    Calls Try.prog 6 #[.slice a0 len0 cap0] w fun e w' => e = .returned (.bool true) ∧ Below w.heap.size w w' := by
  obtain ⟨l0, rfl, hr0, hm0, hw0, hc0⟩ := ReadsInt.ofRowC w0
  obtain ⟨k, h⟩ := P l0 hm0 y0 hw0
  refine (laws_FnStarsFit.calls k _ _ l0 true w (Kd.C_of_reads (d := (0 : Int)) (h1 := fun _ => rfl) hr0) hc0 h).mono ?_
  rintro e w' ⟨rfl, hd⟩
  exact ⟨rfl, hd⟩

end Go.Proofs.Ytcghheaelgjnfaa.PFnStarsFit
