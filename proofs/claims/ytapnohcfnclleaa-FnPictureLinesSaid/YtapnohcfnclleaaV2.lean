/- Words of my own, 3: rows of one's own by the time of their making. -/
import Derived.Test.YtapnohcfnclleaaV1
import Derived.Test.YtapnohcfnclleaaWKept
namespace Go.Proofs.Ytapnohcfnclleaa.My
open Go.RowKit Go.Proofs.YtapnohcfnclleaaW.PrintWords Go.Proofs.YtapnohcfnclleaaW.PrintLast Go.Proofs.YtapnohcfnclleaaW.PrintMore
set_option linter.unusedVariables false
def Own {α : Type} (d : Kd α) (e : Nat) (w : World) (b lo hi : Nat) (v : Value) (xs : List α) : Prop := Kd.S d e w b (fun k => lo ≤ k ∧ k < hi) v xs ∧ hi ≤ w.heap.size
def OwnR {α : Type} (d : Kd α) (e : Nat) (w : World) (b lo hi : Nat) (v : Value) (xs : List α) : Prop := d.R e w b (fun k => lo ≤ k ∧ k < hi) v xs ∧ hi ≤ w.heap.size
section
variable {α : Type} {d : Kd α} {e b lo hi : Nat} {w w' w1 : World} {v : Value} {xs : List α} {ok P : Nat → Prop}
theorem Own.below (h : Own d e w b lo hi v xs) (hb : Below w.heap.size w w') : Own d e w' b lo hi v xs := ⟨Kd.S_below h.1 hb, Nat.le_trans h.2 hb.size⟩
theorem OwnR.below (h : OwnR d e w b lo hi v xs) (hb : Below w.heap.size w w') : OwnR d e w' b lo hi v xs := ⟨Kd.R_below h.1 hb, Nat.le_trans h.2 hb.size⟩
theorem Own.kept (h : Own d e w b lo hi v xs) (hk : Kept w w' P) (hd : ∀ k, lo ≤ k ∧ k < hi → ¬ P k) : Own d e w' b lo hi v xs := ⟨Kd.S_kept h.1 hk hd, Nat.le_trans h.2 hk.1⟩
theorem OwnR.kept (h : OwnR d e w b lo hi v xs) (hk : Kept w w' P) (hd : ∀ k, lo ≤ k ∧ k < hi → ¬ P k) : OwnR d e w' b lo hi v xs := ⟨Kd.R_kept h.1 hk hd, Nat.le_trans h.2 hk.1⟩
theorem Own.reads {A : Option Addr} {n c : Nat} (h : Own d e w b lo hi (.slice A n c) xs) : n = xs.length ∧ n ≤ c ∧ d.C w A xs.length xs := Kd.S_reads' h.1
theorem OwnR.reads {A : Option Addr} {n c : Nat} (h : OwnR d e w b lo hi (.slice A n c) xs) : n = xs.length ∧ n ≤ c ∧ d.C w A xs.length xs := Kd.R_reads' h.1
theorem Own.row (h : Own d e w b lo hi v xs) : Kd.S d e w b (fun k => lo ≤ k ∧ k < hi) v xs := h.1
theorem OwnR.row (h : OwnR d e w b lo hi v xs) : d.R e w b (fun k => lo ≤ k ∧ k < hi) v xs := h.1
end
theorem blk_lower' {w w' : World} {g : Nat} {o : Obj} (h : w.heap[g]? = some o) (hb : Below w.heap.size w w') : w'.heap[g]? = some o := (hb.block g (lt_of_some h)).trans h
end Go.Proofs.Ytapnohcfnclleaa.My
