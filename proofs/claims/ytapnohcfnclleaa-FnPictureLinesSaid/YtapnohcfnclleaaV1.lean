/- Words of my own, 2: make with a capacity of its own; arrays of whole numbers. -/
import Derived.Test.YtapnohcfnclleaaV0
namespace Go.Proofs.Ytapnohcfnclleaa.My
open Go.RowKit Go.Proofs.YtapnohcfnclleaaW.PrintWords Go.Proofs.YtapnohcfnclleaaW.PrintLast Go.Proofs.YtapnohcfnclleaaW.PrintMore
set_option linter.unusedVariables false
section
variable {P : Program} {ops : Array Oper} {rest : List Oper} {o : Oper} {a : Act} {Q : Exit → Act → World → Prop} {α : Type}
end
end Go.Proofs.Ytapnohcfnclleaa.My
