-- Made by a program of this session (a text of the kit print, without the theorems that this claim does not name)
import Derived.Test.YtbdkmkbkggnekaaDoorWInv
import Derived.Test.YtbdkmkbkggnekaaDoorWFootNe
namespace Go.Proofs.YtbdkmkbkggnekaaDoorW.PrintWords
open Go.RowKit
end Go.Proofs.YtbdkmkbkggnekaaDoorW.PrintWords
namespace Go.Proofs.YtbdkmkbkggnekaaDoorW.PrintLast
section
variable {ops : Array Oper} {a : Act} {o og : Oper} {g : Nat} {t : Tmp} {u : Bool}
end
end Go.Proofs.YtbdkmkbkggnekaaDoorW.PrintLast
