/-
  DERIVED. GIVEN WITH THE SEED: THE CARDS: each row of YtmmipabgoikibaaDoorRows.lean that lists a variable, with what it lists TIED to the program's text (the seventh form; the later family's looks); each row that meets fmt, with fmt's text TOLD by the authors' own Lean function (tested against real Go, not proved from fmt's source: count such statements apart). THE CARD IS WHAT COUNTS. Prove the row's statement (the work); the ties are given (YtmmipabgoikibaaDoorTie.lean); close each card by the builder's one call (the guide's Derived/Test/ToyasCard.lean, 'card_holds'). Laid BY PROGRAM, IN A SANDBOX (cutbox-door.mjs). By AI agents, Wed Nov 11 2026. No macro, syntax, notation, axiom, sorry.
-/
import Derived.Test.YtmmipabgoikibaaDoorRows
import GoSem.ClaimSeven
namespace Go.Proofs.YtmmipabgoikibaaDoor
namespace Rows

/-- THE TIED CARD OF 'lightclientlaw36.ReplaceSignals'. -/
def replaceSignalsCard : Claim7 := { stood := { row := replaceSignalsRow, standIns := [], harness := (true, "1435a90e18df2331f88e6a44b4865a70cdd35d6fc5aeb760b8cb9f2cf750d2a1"), looks := false }, kinds := [], alts := [], laidByText := true, laidKinds := [.data, .data], laidTests := true, laidLooks := .later }
def ReplaceSignalsCardSaid : Prop := Claim7.holds Tryd.pinned (.plain (OpenSpec.ofChange replaceSignalsSpec)) replaceSignalsCard

/-- THE TIED CARD OF 'lightclientlaw36.ReplaceEarns'. -/
def replaceEarnsCard : Claim7 := { stood := { row := replaceEarnsRow, standIns := [], harness := (true, "1435a90e18df2331f88e6a44b4865a70cdd35d6fc5aeb760b8cb9f2cf750d2a1"), looks := false }, kinds := [], alts := [], laidByText := true, laidKinds := [.data, .data], laidTests := true, laidLooks := .later }
def ReplaceEarnsCardSaid : Prop := Claim7.holds Tryd.pinned (.plain (OpenSpec.ofChange replaceEarnsSpec)) replaceEarnsCard

/-- THE TIED CARD OF 'lightclientlaw36.ReplaceRises'. -/
def replaceRisesCard : Claim7 := { stood := { row := replaceRisesRow, standIns := [], harness := (true, "1435a90e18df2331f88e6a44b4865a70cdd35d6fc5aeb760b8cb9f2cf750d2a1"), looks := false }, kinds := [], alts := [], laidByText := true, laidKinds := [.data, .data], laidTests := true, laidLooks := .later }
def ReplaceRisesCardSaid : Prop := Claim7.holds Tryd.pinned (.plain (OpenSpec.ofChange replaceRisesSpec)) replaceRisesCard

/-- THE SECOND FORM's CARD OF 'lightclientlaw36.ReplaceSignals'. -/
def replaceSignalsUptoCard : Claim7 := { stood := { row := replaceSignalsUptoRow, standIns := [], harness := (true, "1435a90e18df2331f88e6a44b4865a70cdd35d6fc5aeb760b8cb9f2cf750d2a1"), looks := false }, kinds := [], alts := [], laidByText := true, laidKinds := [.data, .data], laidTests := true, laidLooks := .later }
def ReplaceSignalsUptoCardSaid : Prop := Claim7.holds Tryd.pinned (.plain (OpenSpec.upto replaceSignalsSpec)) replaceSignalsUptoCard

/-- THE SECOND FORM's CARD OF 'lightclientlaw36.ReplaceEarns'. -/
def replaceEarnsUptoCard : Claim7 := { stood := { row := replaceEarnsUptoRow, standIns := [], harness := (true, "1435a90e18df2331f88e6a44b4865a70cdd35d6fc5aeb760b8cb9f2cf750d2a1"), looks := false }, kinds := [], alts := [], laidByText := true, laidKinds := [.data, .data], laidTests := true, laidLooks := .later }
def ReplaceEarnsUptoCardSaid : Prop := Claim7.holds Tryd.pinned (.plain (OpenSpec.upto replaceEarnsSpec)) replaceEarnsUptoCard

/-- THE SECOND FORM's CARD OF 'lightclientlaw36.ReplaceRises'. -/
def replaceRisesUptoCard : Claim7 := { stood := { row := replaceRisesUptoRow, standIns := [], harness := (true, "1435a90e18df2331f88e6a44b4865a70cdd35d6fc5aeb760b8cb9f2cf750d2a1"), looks := false }, kinds := [], alts := [], laidByText := true, laidKinds := [.data, .data], laidTests := true, laidLooks := .later }
def ReplaceRisesUptoCardSaid : Prop := Claim7.holds Tryd.pinned (.plain (OpenSpec.upto replaceRisesSpec)) replaceRisesUptoCard
end Rows
end Go.Proofs.YtmmipabgoikibaaDoor
