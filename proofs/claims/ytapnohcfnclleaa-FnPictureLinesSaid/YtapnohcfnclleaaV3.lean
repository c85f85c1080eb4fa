/- Words of my own, 4: appends of rows that are new since a time, in regions that draw. -/
import Derived.Test.YtapnohcfnclleaaV2
import Derived.Test.YtapnohcfnclleaaWMore
namespace Go.Proofs.Ytapnohcfnclleaa.My
open Go.RowKit Go.Proofs.YtapnohcfnclleaaW.PrintWords Go.Proofs.YtapnohcfnclleaaW.PrintLast Go.Proofs.YtapnohcfnclleaaW.PrintMore
set_option linter.unusedVariables false
theorem row_at {α : Type} {d : Kd α} {e e' base : Nat} {ok : Nat → Prop} {w : World} {A : Option Addr} {c n : Nat} {xs : List (List α)} (h : (Kd.slice e d).R e' w base ok (.slice A n c) xs) (i : Nat) (hi : i < xs.length) :
    ∃ ad A' c', A = some ad ∧ w.cell? (ad.add i) = some (.slice A' (xs[i]).length c') ∧ d.R e w base (fun _ => True) (.slice A' (xs[i]).length c') xs[i] := by
  obtain ⟨A1, c1, ev, _, hr⟩ := OwnRow.reads h.2
  injection ev with e1 e2 e3
  subst e1
  obtain ⟨ad, ea, hc⟩ := hr.2.2 (by omega)
  obtain ⟨cs, l, ⟨v, ecs, hR⟩, hcell⟩ := hc i xs[i] (List.getElem?_eq_getElem hi)
  subst ecs
  have h1 := hcell 0 v rfl
  obtain ⟨A', c', ev'⟩ := Kd.R_slice hR
  subst ev'
  refine ⟨ad, A', c', ea, ?_, Kd.R_mono hR (fun _ _ => trivial)⟩
  simpa [Kd.slice] using h1
end Go.Proofs.Ytapnohcfnclleaa.My
