/- Words of my own, 5. -/
import Derived.Test.YtapnohcfnclleaaWN
import Derived.Test.YtapnohcfnclleaaWLast
namespace Go.Proofs.YtapnohcfnclleaaW.PrintWords
open Go.RowKit
theorem ifs {c : Prop} [Decidable c] {α : Type} {a : Option α} {r : α} (h : (if c then a else none) = some r) : c ∧ a = some r := by
  by_cases q : c
  · rw [if_pos q] at h; exact ⟨q, h⟩
  · rw [if_neg q] at h; cases h
theorem bm {w W W' : World} (h : Aside0 (Below w.heap.size w W)) (hb : Below W.heap.size W W' := by repeat (with_reducible first | exact Below.refl _ _ | apply below_alloc | apply pw_below_drewN | apply below_drew1)) : Below w.heap.size w W' := below_step h.out hb
theorem bv {w w1 : World} {g : Nat} {o : Obj} (h : w.heap[g]? = some o) (hb : Below w.heap.size w w1 := by repeat (with_reducible first | exact Below.refl _ _ | apply below_alloc | apply pw_below_drewN | apply below_drew1)) : w1.heap[g]? = some o := blk_below h hb
theorem Kd.rv {α : Type} {d : Kd α} {e base : Nat} {w w1 : World} {ok : Nat → Prop} {v : Value} {xs : List α} (h : d.R e w base ok v xs) (hb : Below w.heap.size w w1 := by repeat (with_reducible first | exact Below.refl _ _ | apply below_alloc | apply pw_below_drewN | apply below_drew1)) : d.R e w1 base ok v xs := Kd.R_below h hb
theorem Kd.nv {α : Type} {d : Kd α} {e base : Nat} {w w1 : World} {ok : Nat → Prop} {v : Value} {xs : List α} (h : Kd.N d e w base ok v xs) (hb : Below w.heap.size w w1 := by repeat (with_reducible first | exact Below.refl _ _ | apply below_alloc | apply pw_below_drewN | apply below_drew1)) : Kd.N d e w1 base ok v xs := Kd.N_below h hb
theorem am {p : Prop} (h : p) : Aside0 p := ⟨h⟩
theorem da {p : Prop} [Decidable p] (h : decide p = true := by first | (with_reducible assumption) | assumption) : p := of_decide_eq_true h
theorem Kd.cv {α : Type} {d : Kd α} {n : Nat} {w w1 : World} {A : Option Addr} {xs : List α} (h : d.C w A n xs) (hb : Below w.heap.size w w1 := by repeat (with_reducible first | exact Below.refl _ _ | apply below_alloc | apply pw_below_drewN | apply below_drew1)) : d.C w1 A n xs := Kd.C_below h hb
end Go.Proofs.YtapnohcfnclleaaW.PrintWords
