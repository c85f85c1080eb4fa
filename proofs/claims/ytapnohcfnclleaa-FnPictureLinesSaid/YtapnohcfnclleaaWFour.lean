-- Made by a program of this session (a text of the kit print, without the theorems that this claim does not name)
import Derived.Test.YtapnohcfnclleaaWTab
namespace Go.Proofs.YtapnohcfnclleaaW.PrintLast
section
variable {P : Program} {ops : Array Oper} {Q : Exit → Act → World → Prop} {md : Region.Mode} {S : World → Prop} {ds : List Nat} {T : Bool × List (List Nat × List Nat)}
end
end Go.Proofs.YtapnohcfnclleaaW.PrintLast
