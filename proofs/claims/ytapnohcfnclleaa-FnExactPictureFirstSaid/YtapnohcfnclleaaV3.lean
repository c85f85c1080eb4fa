/- Words of my own, 4: appends of rows that are new since a time, in regions that draw. -/
import Derived.Test.YtapnohcfnclleaaV2
import Derived.Test.YtapnohcfnclleaaWMore
namespace Go.Proofs.Ytapnohcfnclleaa.My
open Go.RowKit Go.Proofs.YtapnohcfnclleaaW.PrintWords Go.Proofs.YtapnohcfnclleaaW.PrintLast Go.Proofs.YtapnohcfnclleaaW.PrintMore
set_option linter.unusedVariables false
/-- A row from before wq, read with its elements' rows: none of them is a row made since. -/
theorem old_reads {α : Type} {d : Kd α} {e base : Nat} {ok : Nat → Prop} {wq W : World} {A : Option Addr} {c : Nat} {xs : List α} (h : d.R e wq base ok (.slice A xs.length c) xs) (hb : Below wq.heap.size wq W) (u : Value) (hu : ∀ k, u.ownBlock = some k → wq.heap.size ≤ k) :
    ReadsRow (d.M W base (fun k => some k ≠ u.ownBlock)) d.sz W A xs.length xs := by
  have h1 := Kd.R_mono (ok' := fun k => some k ≠ u.ownBlock) (Kd.R_below (Kd.R_bound h) hb) (fun k hk he => by have := hu k he.symm; have := hk.2.2.1; omega)
  obtain ⟨A', c', ev, _, hr⟩ := OwnRow.reads h1.2
  injection ev with e1 e2 e3
  subst e1
  obtain ⟨r1, r2, r3⟩ := hr
  refine ⟨r1, r2, fun hn => ?_⟩
  obtain ⟨ad, ea, hc⟩ := r3 hn
  refine ⟨ad, ea, fun j p hj => ?_⟩
  obtain ⟨cs, l1, l2, l3⟩ := hc j p hj
  exact ⟨cs, l1, d.M_mono (fun k hk => hk.1) l2, l3⟩
/-- The variadic's block with one row in it. -/
theorem reads_one {α : Type} {d : Kd α} {e base b : Nat} {t : TypeId} {ok : Nat → Prop} {wq W : World} {v : Value} {xs : List α} (h : d.R e wq base ok v xs) (hb : Below wq.heap.size wq W) (u : Value) (hu : ∀ k, u.ownBlock = some k → wq.heap.size ≤ k) (hB : W.heap[b]? = some (Obj.cells #[v] t (0, 0))) :
    ReadsRow ((Kd.slice e d).M W base (fun k => some k ≠ u.ownBlock)) (Kd.slice e d).sz W (some ⟨b, 0, none⟩) 1 [xs] := by
  have h1 := Kd.R_mono (ok' := fun k => some k ≠ u.ownBlock) (Kd.R_below (Kd.R_bound h) hb) (fun k hk he => by have := hu k he.symm; have := hk.2.2.1; omega)
  refine ⟨rfl, by decide, fun _ => ⟨_, rfl, fun j p hj => ?_⟩⟩
  cases j with
  | succ j => simp at hj
  | zero =>
    simp only [List.getElem?_cons_zero, Option.some.injEq] at hj
    subst hj
    refine ⟨[v], rfl, Kd.M_row h1, fun i u hi => ?_⟩
    cases i with
    | succ i => simp at hi
    | zero =>
      simp only [List.getElem?_cons_zero, Option.some.injEq] at hi
      subst hi
      have := blk_cell hB 0
      simpa [Addr.add, Kd.slice] using this
theorem row_at {α : Type} {d : Kd α} {e e' base : Nat} {ok : Nat → Prop} {w : World} {A : Option Addr} {c n : Nat} {xs : List (List α)} (h : (Kd.slice e d).R e' w base ok (.slice A n c) xs) (i : Nat) (hi : i < xs.length) :
    ∃ ad A' c', A = some ad ∧ w.cell? (ad.add i) = some (.slice A' (xs[i]).length c') ∧ d.R e w base (fun _ => True) (.slice A' (xs[i]).length c') xs[i] := by
  obtain ⟨A1, c1, ev, _, hr⟩ := OwnRow.reads h.2
  injection ev with e1 e2 e3
  subst e1
  obtain ⟨ad, ea, hc⟩ := hr.2.2 (by omega)
  obtain ⟨cs, l, ⟨v, ecs, hR⟩, hcell⟩ := hc i xs[i] (List.getElem?_eq_getElem hi)
  subst ecs
  have h1 := hcell 0 v rfl
  obtain ⟨A', c', ev'⟩ := Kd.R_slice hR
  subst ev'
  refine ⟨ad, A', c', ea, ?_, Kd.R_mono hR (fun _ _ => trivial)⟩
  simpa [Kd.slice] using h1
theorem own_lt_R {α : Type} {d : Kd α} {e base : Nat} {ok : Nat → Prop} {w : World} {v : Value} {xs : List α} (h : d.R e w base ok v xs) (k : Nat) (hk : v.ownBlock = some k) : k < w.heap.size := by
  obtain ⟨_, inner, ho, _⟩ := h
  exact own_lt ho k hk
theorem below_new {wq W w1 : World} {v : Value} (HB : Below wq.heap.size wq W) (hg : W.grownBy w1 v.ownBlock) (hv : ∀ k, v.ownBlock = some k → wq.heap.size ≤ k) : Below wq.heap.size wq w1 := HB.grown hg HB.size hv
theorem rows_new_step {P : Program} {ops : Array Oper} {o : Oper} {a : Act} {Q : Exit → Act → World → Prop} {Kc : Act → World → Prop} {α : Type} (d : Kd α) (w0 wq : World) {W : World} (hw : Region.wanted o (yielded ops a.tmps) = true) (s x : Operand) (t e : TypeId) (z : Value) (bytes : Nat)
    (ho : o.op = .call { callee := .builtin .append, args := #[s, x], argTypes := #[t, t] })
    (ht : P.underlying t = some (.slice e)) (hinfo : (P.info? e).map (fun i => (i.zero, i.size, i.bytes)) = some (some z, d.sz, bytes)) (hz : z.cells.size = d.sz) (hs0 : 0 < d.sz) (hb0 : 0 < bytes)
    (v : Value) (xs ys : List α) (A : Option Addr) (m c : Nat) (hs : a.eval s = v) (hx : a.eval x = .slice A m c)
    (HO : d.R e W w0.heap.size (fun _ => True) v xs) (hv : ∀ k, v.ownBlock = some k → wq.heap.size ≤ k) (HR : ReadsRow (d.M W w0.heap.size (fun k => some k ≠ v.ownBlock)) d.sz W A m ys)
    (HB0 : Below w0.heap.size w0 wq) (HB : Below wq.heap.size wq W) (hl : (xs.length + m) * bytes ≤ 140737488355328)
    (h : ∀ v1 w1, d.R e w1 w0.heap.size (fun _ => True) v1 (xs ++ ys) → Below wq.heap.size wq w1 → W.grownBy w1 v.ownBlock → (∀ k, v1.ownBlock = some k → wq.heap.size ≤ k) → Kc (a.put o.dst v1) w1) :
    if Region.wanted o (yielded ops a.tmps) = true then Oper.wp P o a W Kc Q else Kc (a.put o.dst undef) W := by
  refine Kd.R_append_rows_step d (Rr := d.M W w0.heap.size (fun k => some k ≠ v.ownBlock)) (w0 := w0) w0.heap.size hw s x t e z bytes ho ht hinfo hz hs0 hb0 v xs ys A m c (fun _ => True) (fun k => some k ≠ v.ownBlock) hs hx HO HR (fun _ _ h => h) (fun _ h => ⟨trivial, h⟩) (fun _ _ => trivial) (below_step HB0 HB) (below_step HB0 HB).size hl ?_
  intro v1 w1 h1 hb hg hat
  refine h v1 w1 h1 (HB.grown hg HB.size hv) hg ?_
  intro k hk
  rcases hat with h2 | ⟨b, h2, h3⟩
  · rw [h2] at hk; exact hv k hk
  · rw [h2] at hk
    injection hk with hk
    have := HB.size
    omega
end Go.Proofs.Ytapnohcfnclleaa.My
