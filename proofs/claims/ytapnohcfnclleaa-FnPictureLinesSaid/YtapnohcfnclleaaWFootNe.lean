-- Made by a program of this session (a text of the kit print, without the theorems that this claim does not name)
import Derived.Test.YtapnohcfnclleaaWN
namespace Go.Proofs.YtapnohcfnclleaaW.PrintWords
open Go.RowKit
namespace Kd
section
variable {α : Type} {d : Kd α} {W : World} {g n : Nat} {S ok : Nat → Prop} {A : Option Addr} {ad : Addr} {xs : List α}
end
end Kd
end Go.Proofs.YtapnohcfnclleaaW.PrintWords
