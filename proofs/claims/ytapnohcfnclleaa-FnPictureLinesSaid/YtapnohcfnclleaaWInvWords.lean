-- Made by a program of this session (a text of the kit print, without the theorems that this claim does not name)
import Derived.Test.YtapnohcfnclleaaWInv
import Derived.Test.YtapnohcfnclleaaWFootNe
namespace Go.Proofs.YtapnohcfnclleaaW.PrintWords
open Go.RowKit
end Go.Proofs.YtapnohcfnclleaaW.PrintWords
namespace Go.Proofs.YtapnohcfnclleaaW.PrintLast
section
variable {ops : Array Oper} {a : Act} {o og : Oper} {g : Nat} {t : Tmp} {u : Bool}
end
end Go.Proofs.YtapnohcfnclleaaW.PrintLast
