/- Words of my own, 2: make with a capacity of its own; arrays of whole numbers. -/
import Derived.Test.YtbdkmkbkggnekaaDoorV0
namespace Go.Proofs.YtbdkmkbkggnekaaDoor.My
open Go.RowKit Go.Proofs.YtbdkmkbkggnekaaDoorW.PrintWords Go.Proofs.YtbdkmkbkggnekaaDoorW.PrintLast Go.Proofs.YtbdkmkbkggnekaaDoorW.PrintMore
set_option linter.unusedVariables false
section
variable {P : Program} {ops : Array Oper} {rest : List Oper} {o : Oper} {a : Act} {Q : Exit → Act → World → Prop} {α : Type}
end
end Go.Proofs.YtbdkmkbkggnekaaDoor.My
