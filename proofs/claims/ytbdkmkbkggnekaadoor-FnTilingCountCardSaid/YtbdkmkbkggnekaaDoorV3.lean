/- Words of my own, 4: appends of rows that are new since a time, in regions that draw. -/
import Derived.Test.YtbdkmkbkggnekaaDoorV2
import Derived.Test.YtbdkmkbkggnekaaDoorWMore
namespace Go.Proofs.YtbdkmkbkggnekaaDoor.My
open Go.RowKit Go.Proofs.YtbdkmkbkggnekaaDoorW.PrintWords Go.Proofs.YtbdkmkbkggnekaaDoorW.PrintLast Go.Proofs.YtbdkmkbkggnekaaDoorW.PrintMore
set_option linter.unusedVariables false
theorem own_lt_R {α : Type} {d : Kd α} {e base : Nat} {ok : Nat → Prop} {w : World} {v : Value} {xs : List α} (h : d.R e w base ok v xs) (k : Nat) (hk : v.ownBlock = some k) : k < w.heap.size := by
  obtain ⟨_, inner, ho, _⟩ := h
  exact own_lt ho k hk
end Go.Proofs.YtbdkmkbkggnekaaDoor.My
