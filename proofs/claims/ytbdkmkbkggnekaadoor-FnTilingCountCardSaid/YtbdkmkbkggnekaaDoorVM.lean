/- Words of my own, 6: a map of whole numbers that the call has made, by its stores. -/
import Derived.Test.YtbdkmkbkggnekaaDoorV2
import Derived.Maps.OwnSet
namespace Go.Proofs.YtbdkmkbkggnekaaDoor.My
open Go Go.RowKit Go.Maps Go.Proofs.YtbdkmkbkggnekaaDoorW.PrintWords
set_option linter.unusedVariables false
/-- Block b is a map of ints that reads as the stores tell it, the newest first. -/
def MapI (P : Program) (kt et : TypeId) (w : World) (b : Nat) (ps : List (Int × Int)) : Prop :=
  ∃ D : DataW Nat, w.ownsMap P kt (plainElem P et) b ps.length D ∧ ∀ q : Int, Maps.has D (.int .i64 q) = (ps.lookup q).isSome ∧ ∀ v, ps.lookup q = some v → D.atKey (.int .i64 q) (.lit (.int .i64 0)) = .lit (.int .i64 v) ∧ (Lit.int .i64 v).wf = true
theorem key_int (q : Int) : WideAt.IsKeyLit (.int .i64 q) := by simp [WideAt.IsKeyLit]
section
variable {P : Program} {kt et : TypeId} {w : World} {b : Nat} {ps : List (Int × Int)}
theorem MapI.lt (h : MapI P kt et w b ps) : b < w.heap.size := by
  obtain ⟨D, h1, _⟩ := h
  exact h1.lt
theorem MapI.kept {w' : World} {row : Option Nat} (h : MapI P kt et w b ps) (hg : w.grownBy w' row) (hne : some b ≠ row) : MapI P kt et w' b ps := by
  obtain ⟨D, h1, h2⟩ := h
  exact ⟨D, h1.kept hg hne, h2⟩
theorem MapI.below {w' : World} (h : MapI P kt et w b ps) (hb : Below w.heap.size w w') : MapI P kt et w' b ps := h.kept (grown_of_below hb none) (by simp)
theorem MapI.alloc (h : MapI P kt et w b ps) (o : Obj) : MapI P kt et (w.alloc o) b ps := h.kept (World.grownBy_alloc w o none) (by simp)
theorem MapI.wf (h : MapI P kt et w b ps) {q v : Int} (hl : ps.lookup q = some v) : (Lit.int .i64 v).wf = true := by
  obtain ⟨D, _, h2⟩ := h
  exact ((h2 q).2 v hl).2
theorem MapI.made (w : World) : MapI P kt et (w.alloc (.map #[] 0)) w.heap.size [] := by
  refine ⟨.map [], World.ownsMap_made w P kt _, fun q => ⟨by simp [Maps.has], fun v hv => by simp at hv⟩⟩
theorem mapI_look {ops : Array Oper} {rest : List Oper} {o : Oper} {a : Act} {Q : Exit → Act → World → Prop} (h : MapI P kt et w b ps) (hg : o.guard = none) (m x : Operand) (t : TypeId) (hop : o.op = Op.lookup t m x true)
    (hk : P.underlying kt = some (.int .i64)) (ht : P.underlying t = some (.map kt et)) (he : P.underlying et = some (.int .i64)) (hz : (zeroValue et).run P w = .ok (.int .i64 0) w)
    (hm : a.eval m = .map (some b)) (q : Int) (hx : a.eval x = .int .i64 q) (hkey : keyOf P kt (.int .i64 q) = some (.int .i64 q))
    (hK : ∀ c : Int, (∀ v, ps.lookup q = some v → c = v) → wpList P ops Q rest (a.put o.dst (.tuple #[.int .i64 c, .bool (ps.lookup q).isSome])) w) : wpList P ops Q (o :: rest) a w := by
  obtain ⟨D, h1, h2⟩ := h
  refine wpList_lookup_own_ok_int w hg m x t hop kt et .i64 (int_keyed hk) ht he hz b ps.length D hm h1 _ (.int .i64 q) hx hkey ?_
  intro c hc _
  rw [(h2 q).1]
  refine hK c (fun v hv => ?_)
  have := ((h2 q).2 v hv).1
  rw [hc] at this
  simpa using this
theorem mapI_put {ops : Array Oper} {rest : List Oper} {o : Oper} {a : Act} {Q : Exit → Act → World → Prop} (h : MapI P kt et w b ps) (hg : o.guard = none) (m x v : Operand) (t : TypeId) (hop : o.op = Op.mapUpdate t m x v)
    (hk : P.underlying kt = some (.int .i64)) (ht : P.underlying t = some (.map kt et)) (he : P.underlying et = some (.int .i64))
    (hm : a.eval m = .map (some b)) (q : Int) (hx : a.eval x = .int .i64 q) (hkey : keyOf P kt (.int .i64 q) = some (.int .i64 q)) (n : Int) (hv : a.eval v = .int .i64 n) (hw : (Lit.int .i64 n).wf = true) (hn : ps.length < 4398046511104)
    (hK : ∀ w', MapI P kt et w' b ((q, n) :: ps) → w.grownBy w' (some b) → wpList P ops Q rest (a.put o.dst undef) w') : wpList P ops Q (o :: rest) a w := by
  obtain ⟨D, h1, h2⟩ := h
  have hml : maxLen = 9223372036854775807 := by decide +kernel
  refine wpList_mapUpdate_own w hg m x v t hop kt et (int_keyed hk) ht _ b ps.length D hm h1 (by omega) _ _ (.int .i64 q) hx hv hkey (.lit (.int .i64 n)) [] (plainElem_int he hw) ?_
  intro w' h3 hgr
  refine hK w' ⟨_, h3, fun k => ?_⟩ hgr
  by_cases c : k = q
  · subst c
    refine ⟨by rw [Maps.has_put_same h1.isMap (key_int k)]; simp, fun u hu => ?_⟩
    simp at hu
    subst hu
    exact ⟨by rw [Maps.atKey_put_same h1.isMap (key_int k)], hw⟩
  · have hne : (Lit.int .i64 k) ≠ (Lit.int .i64 q) := by intro e; injection e with _ e; exact c e
    have hl : List.lookup k ((q, n) :: ps) = List.lookup k ps := by
      rw [List.lookup_cons]
      have : (k == q) = false := beq_eq_false_iff_ne.mpr c
      rw [this]
    rw [hl, Maps.has_put_other hne, Maps.atKey_put_other hne]
    exact h2 k
end
end Go.Proofs.YtbdkmkbkggnekaaDoor.My
