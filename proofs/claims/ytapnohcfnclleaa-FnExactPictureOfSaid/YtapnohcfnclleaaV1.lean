/- Words of my own, 2: make with a capacity of its own; arrays of whole numbers. -/
import Derived.Test.YtapnohcfnclleaaV0
namespace Go.Proofs.Ytapnohcfnclleaa.My
open Go.RowKit Go.Proofs.YtapnohcfnclleaaW.PrintWords Go.Proofs.YtapnohcfnclleaaW.PrintLast Go.Proofs.YtapnohcfnclleaaW.PrintMore
set_option linter.unusedVariables false
section
variable {P : Program} {ops : Array Oper} {rest : List Oper} {o : Oper} {a : Act} {Q : Exit → Act → World → Prop} {α : Type}
/-- make([]T, 0, c): an empty row of one's own. -/
theorem R_make0 (d : Kd α) {w0 W : World} (base e : Nat) (hgd : o.guard = none) {N : Tmp} (hd : o.dst = some N) (t : TypeId) (x y : Operand) (ho : o.op = .makeSlice t x y) (n : Int) (hx : a.eval x = .int .i64 0) (hy : a.eval y = .int .i64 n)
    (ht : P.underlying t = some (.slice e)) (z : Value) (bytes : Nat) (hinfo : (P.info? e).map (fun i => (i.zero, i.size, i.bytes)) = some (some z, d.sz, bytes)) (hb0 : 0 < bytes)
    {ok : Nat → Prop} (hfresh : ok W.heap.size) (h0 : 0 ≤ n) (hl : n.toNat * bytes ≤ 281474976710656) (HB : Below base w0 W) (hbase : base ≤ W.heap.size)
    (h : ∀ v1 w1, d.R e w1 base ok v1 [] → Below base w0 w1 → W.grownBy w1 none → (∃ b, v1.ownBlock = some b ∧ W.heap.size ≤ b) → wpList P ops Q rest (a.put o.dst v1) w1) : wpList P ops Q (o :: rest) a W := by
  obtain ⟨m, rfl⟩ := Int.eq_ofNat_of_zero_le h0
  simp only [Int.toNat_natCast] at hl
  obtain ⟨i0, hi, hzz⟩ := Option.map_eq_some_iff.1 hinfo
  simp only [Prod.mk.injEq] at hzz
  obtain ⟨hz0, hz1, hz2⟩ := hzz
  have hm : m ≤ 281474976710656 := Nat.le_trans (Nat.le_mul_of_pos_right _ hb0) hl
  obtain ⟨w', hr, hown, hg⟩ := run_make_own (P := P) (w := W) base t e i0 z d.sz ht hi hz0 hz1 .i64 .i64 m (by rw [hz2, Nat.mul_comm]; exact hl) (by unfold maxLen; omega) hbase
  refine Kd.event_run hgd (v := .slice (some ⟨W.heap.size, 0, none⟩) 0 m) (w1 := w') ?_ (h _ _ ⟨fun k hk => ?_, [], hown, Reps.none _ _⟩ (HB.grown hg hbase (by intro b hb; cases hb)) hg ⟨W.heap.size, by simp [Value.ownBlock], Nat.le_refl _⟩)
  · simp [execOp, ho, hx, hy, hr]
  · have : W.heap.size = k := by simpa [Value.ownBlock] using hk
    subst this
    exact hfresh
end
theorem S_of_nil {α : Type} {d : Kd α} {e base : Nat} {w : World} {ok : Nat → Prop} {v : Value} (h : d.R e w base ok v []) : Kd.S d e w base ok v [] := by
  obtain ⟨h0, inner, ho, hr⟩ := h
  exact ⟨fun _ => 0, h0, inner, ho, hr.1, fun j p hj => by simp at hj⟩
theorem int_cell {w : World} {g : Nat} {t : TypeId} {c : List Int} (h : w.heap[g]? = some (Obj.cells (c.map (Value.int .i64)).toArray t (0, 0))) (i : Int) (h0 : 0 ≤ i) (h1 : i < c.length) : w.cell? ⟨g, i.toNat, none⟩ = some (.int .i64 (rd c i)) := by
  rw [blk_cell h]
  have h2 : i.toNat < c.length := by omega
  simp [rd, List.getD_eq_getElem?_getD, h2]
theorem int_put {w : World} {g : Nat} {t : TypeId} {c : List Int} (h : w.heap[g]? = some (Obj.cells (c.map (Value.int .i64)).toArray t (0, 0))) (i : Int) (b : Int) : (w.setCell ⟨g, i.toNat, none⟩ (.int .i64 b)).heap[g]? = some (Obj.cells ((c.set i.toNat b).map (Value.int .i64)).toArray t (0, 0)) :=
  blk_put h i.toNat _ (by apply Array.ext'; simp [List.map_set])
end Go.Proofs.Ytapnohcfnclleaa.My
