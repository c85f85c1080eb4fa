-- Made by a program of this session (a text of the kit print, without the theorems that this claim does not name)
import Derived.Test.YtapnohcfnclleaaWWords
import Derived.Laws.StructEq
namespace Go.Proofs.YtapnohcfnclleaaW.PrintWords
open Go.RowKit
section
variable {P : Program} {d : Nat} {xs ys : Array Value} {f : Field} {fs : List Field} {a b : Value} {r s : Bool} {w : World}
end
end Go.Proofs.YtapnohcfnclleaaW.PrintWords
