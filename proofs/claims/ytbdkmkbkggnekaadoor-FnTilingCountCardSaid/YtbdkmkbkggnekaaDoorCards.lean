/-
  DERIVED. GIVEN WITH THE SEED: THE CARDS: each row of YtbdkmkbkggnekaaDoorRows.lean that lists a variable, with what it lists TIED to the program's text (the seventh form; the later family's looks); each row that meets fmt, with fmt's text TOLD by the authors' own Lean function (tested against real Go, not proved from fmt's source: count such statements apart). THE CARD IS WHAT COUNTS. Prove the row's statement (the work); the ties are given (YtbdkmkbkggnekaaDoorTie.lean); close each card by the builder's one call (the guide's Derived/Test/ToyasCard.lean, 'card_holds'). Laid BY PROGRAM, IN A SANDBOX (cutbox-door.mjs). By AI agents, Wed Nov 11 2026. No macro, syntax, notation, axiom, sorry.
-/
import Derived.Test.YtbdkmkbkggnekaaDoorRows
import GoSem.ClaimSeven
namespace Go.Proofs.YtbdkmkbkggnekaaDoor
namespace Rows

/-- THE TIED CARD OF 'laws.FnExactTilingCount'. -/
def fnExactTilingCountCard : Claim7 := { stood := { row := fnExactTilingCountRow, standIns := [], harness := (true, "b7bd0d2e836968aef87d5fa13c8caefbc4f103f9b0b3823f57ce685a576cd84a"), looks := false }, kinds := [], alts := [], laidByText := true, laidKinds := [.data, .data], laidTests := true, laidLooks := .later }
def FnExactTilingCountCardSaid : Prop := Claim7.holds Tryd.pinned (.plain (OpenSpec.ofChange fnExactTilingCountSpec)) fnExactTilingCountCard

/-- THE TIED CARD OF 'laws.FnExactTilingFirst'. -/
def fnExactTilingFirstCard : Claim7 := { stood := { row := fnExactTilingFirstRow, standIns := [], harness := (true, "b7bd0d2e836968aef87d5fa13c8caefbc4f103f9b0b3823f57ce685a576cd84a"), looks := false }, kinds := [], alts := [], laidByText := true, laidKinds := [.data, .data], laidTests := true, laidLooks := .later }
def FnExactTilingFirstCardSaid : Prop := Claim7.holds Tryd.pinned (.plain (OpenSpec.ofChange fnExactTilingFirstSpec)) fnExactTilingFirstCard

/-- THE TIED CARD OF 'laws.FnTilingCount'. -/
def fnTilingCountCard : Claim7 := { stood := { row := fnTilingCountRow, standIns := [], harness := (true, "b7bd0d2e836968aef87d5fa13c8caefbc4f103f9b0b3823f57ce685a576cd84a"), looks := false }, kinds := [], alts := [], laidByText := true, laidKinds := [.data, .data], laidTests := true, laidLooks := .later }
def FnTilingCountCardSaid : Prop := Claim7.holds Tryd.pinned (.plain (OpenSpec.ofChange fnTilingCountSpec)) fnTilingCountCard

/-- THE TIED CARD OF 'laws.FnDominoHoles'. -/
def fnDominoHolesCard : Claim7 := { stood := { row := fnDominoHolesRow, standIns := [], harness := (true, "b7bd0d2e836968aef87d5fa13c8caefbc4f103f9b0b3823f57ce685a576cd84a"), looks := false }, kinds := [], alts := [], laidByText := true, laidKinds := [.data, .data], laidTests := true, laidLooks := .later }
def FnDominoHolesCardSaid : Prop := Claim7.holds Tryd.pinned (.plain (OpenSpec.ofChange fnDominoHolesSpec)) fnDominoHolesCard

/-- THE TIED CARD OF 'laws.FnTilingFirst'. -/
def fnTilingFirstCard : Claim7 := { stood := { row := fnTilingFirstRow, standIns := [], harness := (true, "b7bd0d2e836968aef87d5fa13c8caefbc4f103f9b0b3823f57ce685a576cd84a"), looks := false }, kinds := [], alts := [], laidByText := true, laidKinds := [.data, .data], laidTests := true, laidLooks := .later }
def FnTilingFirstCardSaid : Prop := Claim7.holds Tryd.pinned (.plain (OpenSpec.ofChange fnTilingFirstSpec)) fnTilingFirstCard

/-- THE SECOND FORM's CARD OF 'laws.FnExactTilingCount'. -/
def fnExactTilingCountUptoCard : Claim7 := { stood := { row := fnExactTilingCountUptoRow, standIns := [], harness := (true, "b7bd0d2e836968aef87d5fa13c8caefbc4f103f9b0b3823f57ce685a576cd84a"), looks := false }, kinds := [], alts := [], laidByText := true, laidKinds := [.data, .data], laidTests := true, laidLooks := .later }
def FnExactTilingCountUptoCardSaid : Prop := Claim7.holds Tryd.pinned (.plain (OpenSpec.upto fnExactTilingCountSpec)) fnExactTilingCountUptoCard

/-- THE SECOND FORM's CARD OF 'laws.FnExactTilingFirst'. -/
def fnExactTilingFirstUptoCard : Claim7 := { stood := { row := fnExactTilingFirstUptoRow, standIns := [], harness := (true, "b7bd0d2e836968aef87d5fa13c8caefbc4f103f9b0b3823f57ce685a576cd84a"), looks := false }, kinds := [], alts := [], laidByText := true, laidKinds := [.data, .data], laidTests := true, laidLooks := .later }
def FnExactTilingFirstUptoCardSaid : Prop := Claim7.holds Tryd.pinned (.plain (OpenSpec.upto fnExactTilingFirstSpec)) fnExactTilingFirstUptoCard

/-- THE SECOND FORM's CARD OF 'laws.FnTilingCount'. -/
def fnTilingCountUptoCard : Claim7 := { stood := { row := fnTilingCountUptoRow, standIns := [], harness := (true, "b7bd0d2e836968aef87d5fa13c8caefbc4f103f9b0b3823f57ce685a576cd84a"), looks := false }, kinds := [], alts := [], laidByText := true, laidKinds := [.data, .data], laidTests := true, laidLooks := .later }
def FnTilingCountUptoCardSaid : Prop := Claim7.holds Tryd.pinned (.plain (OpenSpec.upto fnTilingCountSpec)) fnTilingCountUptoCard

/-- THE SECOND FORM's CARD OF 'laws.FnDominoHoles'. -/
def fnDominoHolesUptoCard : Claim7 := { stood := { row := fnDominoHolesUptoRow, standIns := [], harness := (true, "b7bd0d2e836968aef87d5fa13c8caefbc4f103f9b0b3823f57ce685a576cd84a"), looks := false }, kinds := [], alts := [], laidByText := true, laidKinds := [.data, .data], laidTests := true, laidLooks := .later }
def FnDominoHolesUptoCardSaid : Prop := Claim7.holds Tryd.pinned (.plain (OpenSpec.upto fnDominoHolesSpec)) fnDominoHolesUptoCard

/-- THE SECOND FORM's CARD OF 'laws.FnTilingFirst'. -/
def fnTilingFirstUptoCard : Claim7 := { stood := { row := fnTilingFirstUptoRow, standIns := [], harness := (true, "b7bd0d2e836968aef87d5fa13c8caefbc4f103f9b0b3823f57ce685a576cd84a"), looks := false }, kinds := [], alts := [], laidByText := true, laidKinds := [.data, .data], laidTests := true, laidLooks := .later }
def FnTilingFirstUptoCardSaid : Prop := Claim7.holds Tryd.pinned (.plain (OpenSpec.upto fnTilingFirstSpec)) fnTilingFirstUptoCard
end Rows
end Go.Proofs.YtbdkmkbkggnekaaDoor
