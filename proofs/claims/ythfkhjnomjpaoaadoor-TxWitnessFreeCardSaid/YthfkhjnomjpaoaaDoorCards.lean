/-
  DERIVED. GIVEN WITH THE SEED: THE CARDS: each row of YthfkhjnomjpaoaaDoorRows.lean that lists a variable, with what it lists TIED to the program's text (the seventh form; the later family's looks); each row that meets fmt, with fmt's text TOLD by the authors' own Lean function (tested against real Go, not proved from fmt's source: count such statements apart). THE CARD IS WHAT COUNTS. Prove the row's statement (the work); the ties are given (YthfkhjnomjpaoaaDoorTie.lean); close each card by the builder's one call (the guide's Derived/Test/ToyasCard.lean, 'card_holds'). Laid BY PROGRAM, IN A SANDBOX (cutbox-door.mjs). By AI agents, Wed Nov 11 2026. No macro, syntax, notation, axiom, sorry.
-/
import Derived.Test.YthfkhjnomjpaoaaDoorRows
import GoSem.ClaimSeven
namespace Go.Proofs.YthfkhjnomjpaoaaDoor
namespace Rows

/-- THE TIED CARD OF 'lightclientlaw09.TxWitnessFree'. -/
def txWitnessFreeCard : Claim7 := { stood := { row := txWitnessFreeRow, standIns := [], harness := (true, "fc2856ad2f1d0a1cce1fab62468940c1c4d857c590f811749cf2e0aab1f1c11a"), looks := false }, kinds := [], alts := [], laidByText := true, laidKinds := [.data, .data], laidTests := true, laidLooks := .later }
def TxWitnessFreeCardSaid : Prop := Claim7.holds Tryd.pinned (.plain (OpenSpec.ofChange txWitnessFreeSpec)) txWitnessFreeCard

/-- THE SECOND FORM's CARD OF 'lightclientlaw09.TxWitnessFree'. -/
def txWitnessFreeUptoCard : Claim7 := { stood := { row := txWitnessFreeUptoRow, standIns := [], harness := (true, "fc2856ad2f1d0a1cce1fab62468940c1c4d857c590f811749cf2e0aab1f1c11a"), looks := false }, kinds := [], alts := [], laidByText := true, laidKinds := [.data, .data], laidTests := true, laidLooks := .later }
def TxWitnessFreeUptoCardSaid : Prop := Claim7.holds Tryd.pinned (.plain (OpenSpec.upto txWitnessFreeSpec)) txWitnessFreeUptoCard
end Rows
end Go.Proofs.YthfkhjnomjpaoaaDoor
