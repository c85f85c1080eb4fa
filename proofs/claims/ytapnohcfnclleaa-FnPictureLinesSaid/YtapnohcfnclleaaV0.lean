/- Words of my own: variables in memory that hold rows; what keeps rows of some types. -/
import Derived.Test.YtapnohcfnclleaaWMore
import Derived.Deep.AppendLies
namespace Go.Proofs.Ytapnohcfnclleaa.My
open Go.RowKit Go.Proofs.YtapnohcfnclleaaW.PrintWords Go.Proofs.YtapnohcfnclleaaW.PrintLast Go.Proofs.YtapnohcfnclleaaW.PrintMore
set_option linter.unusedVariables false
def Keep (Es : List Nat) (w w' : World) : Prop := w.heap.size ≤ w'.heap.size ∧ ∀ (i q : Nat) (cells : Array Value), q ∈ Es → w.heap[i]? = some (Obj.cells cells q (0, 0)) → w'.heap[i]? = w.heap[i]?
theorem Keep.refl (Es : List Nat) (w : World) : Keep Es w w := ⟨Nat.le_refl _, fun _ _ _ _ _ => rfl⟩
theorem Keep.trans {Es : List Nat} {w w1 w2 : World} (h : Keep Es w w1) (h' : Keep Es w1 w2) : Keep Es w w2 :=
  ⟨Nat.le_trans h.1 h'.1, fun i q cells hq hi => by
    have h1 := h.2 i q cells hq hi
    rw [h'.2 i q cells hq (h1.trans hi), h1]⟩
theorem lt_of_some {w : World} {i : Nat} {o : Obj} (h : w.heap[i]? = some o) : i < w.heap.size := by
  rcases Nat.lt_or_ge i w.heap.size with h1 | h1
  · exact h1
  · rw [Array.getElem?_eq_none h1] at h; cases h
theorem Keep.of_below {Es : List Nat} {w w1 w2 : World} (h : Keep Es w w1) (hb : Below w1.heap.size w1 w2) : Keep Es w w2 :=
  h.trans ⟨hb.size, fun i q cells _ hi => hb.block i (lt_of_some hi)⟩
theorem Keep.set {Es : List Nat} {w w1 : World} (h : Keep Es w w1) {g t : Nat} {cs : Array Value} (hg : w1.heap[g]? = some (Obj.cells cs t (0, 0))) (ht : t ∉ Es) (j : Nat) (u : Value) : Keep Es w (w1.setCell ⟨g, j, none⟩ u) :=
  h.trans ⟨by rw [World.size_setCell]; exact Nat.le_refl _, fun i q cells hq hi => Below.heap_setCell w1 ⟨g, j, none⟩ u i (by
    rintro rfl
    rw [hi] at hg
    injection hg with hg
    injection hg with _ hg
    exact ht (hg ▸ hq))⟩
theorem Keep.R {α : Type} {d : Kd α} {e base : Nat} {ok : Nat → Prop} {v : Value} {xs : List α} {Es : List Nat} {w w' : World} (hk : Keep Es w w') (hE : ∀ q, q ∈ e :: d.E → q ∈ Es) (h : d.R e w base ok v xs) : d.R e w' base ok v xs :=
  Kd.R_mono (Kd.R_move (Kd.R_bound h) (fun k ⟨_, _, _, q, hq, cells, hc⟩ => hk.2 k q cells (hE q hq) hc)) (fun _ hk => hk.1)
theorem own_block_typed {α : Type} {d : Kd α} {e base : Nat} {ok : Nat → Prop} {v : Value} {xs : List α} {w : World} (h : d.R e w base ok v xs) (k : Nat) (hk : v.ownBlock = some k) : ∃ cells, w.heap[k]? = some (Obj.cells cells e (0, 0)) := by
  obtain ⟨_, inner, ho, _⟩ := h
  exact own_typed ho k hk
theorem R_apart {α β : Type} {d : Kd α} {d' : Kd β} {e e' base base' : Nat} {ok ok' : Nat → Prop} {v v' : Value} {xs : List α} {ys : List β} {w : World} (h : d.R e w base ok v xs) (h' : d'.R e' w base' ok' v' ys) (ht : ∀ q, q ∈ e :: d.E → q ≠ e') : d.R e w base (fun k => ok k ∧ some k ≠ v'.ownBlock) v xs :=
  Kd.R_mono (Kd.R_bound h) (fun k ⟨h1, _, _, q, hq, cells, hc⟩ => ⟨h1, fun e1 => by
    obtain ⟨cells', hc'⟩ := own_block_typed h' k e1.symm
    rw [hc] at hc'
    injection hc' with hc'
    injection hc' with _ hc'
    exact ht q hq hc'⟩)
def Var {α : Type} (d : Kd α) (e T g base : Nat) (w : World) (xs : List α) : Prop := ∃ v, w.heap[g]? = some (Obj.cells #[v] T (0, 0)) ∧ d.R e w base (fun _ => True) v xs
theorem Var.below {α : Type} {d : Kd α} {e T g base : Nat} {w w' : World} {xs : List α} (h : Var d e T g base w xs) (hb : Below w.heap.size w w') : Var d e T g base w' xs := by
  obtain ⟨v, hg, hr⟩ := h
  exact ⟨v, (hb.block g (lt_of_some hg)).trans hg, Kd.R_below hr hb⟩
theorem Keep.grown {Es : List Nat} {w w1 w2 : World} (h : Keep Es w w1) {α : Type} {d : Kd α} {e base : Nat} {ok : Nat → Prop} {v : Value} {xs : List α} (hr : d.R e w1 base ok v xs) (he : e ∉ Es) (hg : w1.grownBy w2 v.ownBlock) : Keep Es w w2 :=
  h.trans ⟨hg.size, fun i q cells hq hi => hg.block i (lt_of_some hi) (fun e1 => by
    obtain ⟨cells', hc'⟩ := own_block_typed hr i e1.symm
    rw [hi] at hc'
    injection hc' with hc'
    injection hc' with _ hc'
    exact he (hc' ▸ hq))⟩
theorem int_lies_step {P : Program} {ops : Array Oper} {o : Oper} {a : Act} {K : Act → World → Prop} {Q : Exit → Act → World → Prop} {E : Prop} {w w0 : World} {base : Nat} {ok : Nat → Prop} (hgd : o.guard = none) (s x : Operand) (t e : TypeId)
    (ho : o.op = .call { callee := .builtin .append, args := #[s, x], argTypes := #[t, t] }) (ht : P.underlying t = some (.slice e)) (hinfo : (P.info? e).map (fun i => (i.zero, i.size, i.bytes)) = some (some (.int .i64 0), 1, 8))
    (v : Value) (xs : List Int) (p : Int) (b : Nat) (hs : a.eval s = v) (hx : a.eval x = .slice (some ⟨b, 0, none⟩) 1 1) (HO : Kd.R (Kd.int .i64) e w base ok v xs) (hb : w.heap[b]? = some (Obj.cells #[.int .i64 p] e (0, 0)))
    (HB : Below base w0 w) (hbase : base ≤ w.heap.size) (hfresh : ∀ k, w.heap.size ≤ k → ok k) (hl : (xs.length + 1) * 8 ≤ 140737488355328)
    (h : ∀ v1 w1, Kd.R (Kd.int .i64) e w1 base ok v1 (xs ++ [p]) → Below base w0 w1 → w.grownBy w1 v.ownBlock → K (a.put o.dst v1) w1) :
    if Region.wanted o (yielded ops a.tmps) = true then Oper.wp P o a w K Q else E := by
  obtain ⟨i0, hi, hzz⟩ := Option.map_eq_some_iff.1 hinfo
  simp only [Prod.mk.injEq] at hzz
  obtain ⟨h1, h2, h3⟩ := hzz
  have hown := Kd.own_of_R HO
  refine step_append_lies (w := w) hgd s x t ho base e i0 (.int .i64 0) 1 8 ht hi h1 h2 h3 rfl (by omega) v xs.length (encs (Value.int .i64) xs) hs hown ⟨b, 0, none⟩ 1 1 [.int .i64 p] hx rfl (World.news_of_block (cs := #[.int .i64 p]) hb) (by simp [Value.oneCell']) (by omega) (by unfold maxLen; omega) hl hbase w.heap.size rfl ?_
  intro g cap w' hown' hg hor hlt
  refine h _ _ (Kd.R_of_own ?_ ?_) (HB.grown hg hbase (own_base hown)) hg
  · have e1 : encs (Value.int .i64) (xs ++ [p]) = encs (Value.int .i64) xs ++ [.int .i64 p] := by simp [encs]
    rw [e1, List.length_append, List.length_singleton]
    exact hown'
  · intro k hk
    have hk' : g = k := by simpa [Value.ownBlock] using hk
    subst hk'
    rcases hor with h4 | h4
    · exact HO.1 g h4
    · exact hfresh g (by omega)
end Go.Proofs.Ytapnohcfnclleaa.My
