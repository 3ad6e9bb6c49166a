/-
  No cell of these rows narrows 'for every input' (looked for: loops, veiled, ifaces, maps, wideKeys, modest, calm, conditions, laid).
  DERIVED. THE GIVEN ROWS OF THIS SEAT. 5 by the template 'for every input the law returns true; each argument reads behind the call as it read before'; 0 by the template 'total and deterministic' (their statements: YtcikfbmkonhbbaaTotals.lean).
  GIVEN WITH THE SEED: the statements are not yours to turn. If you find one false, say at which input.
  Laid BY PROGRAM, IN A SANDBOX (cutbox-rows.mjs): the forced cells as the released guide's own fill.sh prints them over the translation 56039622eab4977f… (all of the seat's roots in one cut). By AI agents, Wed Nov 11 2026. No macro, syntax, notation, axiom, sorry.
-/
import Derived.Test.YtcikfbmkonhbbaaChecked
import GoSem.Claim
import GoSem.ClaimJoined
import GoSem.ClaimMapViews
import Derived.JoinedTies
import Derived.KernelRfl
namespace Go.Proofs.Ytcikfbmkonhbbaa
/- THE CELL 'sum', in the pinned program and in every row, IS THE sha256 OF THE DUMP (.gsa) THAT YtcikfbmkonhbbaaProg.lean LOADS. Nothing in Lean hashes anything: it is a label: what it is worth is what the hold of that sum in a sandbox is worth. -/
noncomputable def Try.pinned : Pinned := { name := "ytcikfbmkonhbbaa", sum := "56039622eab4977f5cf38cc822b0bfae0b6a0edef70e874fc80a44a89b6e5243", checked := Try.checked }
namespace Rows
def none {H : Type} : Left H := { results := [], args := [] }

/-- 'lightclientlaw18.BitsAppends': WHATEVER THE INPUT: true; the input reads as it did. -/
def bitsAppendsSpec : ChangeSpec := { name := "bitsAppends", fn := fun _ => fun
  | [d1, d2, d3] => { results := [.lit (.bool true)], args := [d1, d2, d3] }
  | _ => none }
def bitsAppendsRow : OpenClaim := { program := "ytcikfbmkonhbbaa", sum := "56039622eab4977f5cf38cc822b0bfae0b6a0edef70e874fc80a44a89b6e5243", func := "lightclient/lightclientlaw18.BitsAppends", spec := "bitsAppends", apart := false }
def BitsAppendsSaid : Prop := bitsAppendsRow.holds Try.pinned (OpenSpec.ofChange bitsAppendsSpec)

/-- ITS FALSE NEIGHBOUR: 'it returns false'. Refute it at one input. -/
def bitsAppendsWrong : ChangeSpec := { name := "bitsAppends", fn := fun _ => fun
  | [d1, d2, d3] => { results := [.lit (.bool false)], args := [d1, d2, d3] }
  | _ => none }
def BitsAppendsWrongFalsely : Prop := bitsAppendsRow.holds Try.pinned (OpenSpec.ofChange bitsAppendsWrong)

/-- 'lightclientlaw18.BitsReads': WHATEVER THE INPUT: true; the input reads as it did. -/
def bitsReadsSpec : ChangeSpec := { name := "bitsReads", fn := fun _ => fun
  | [d1, d2, d3] => { results := [.lit (.bool true)], args := [d1, d2, d3] }
  | _ => none }
def bitsReadsRow : OpenClaim := { program := "ytcikfbmkonhbbaa", sum := "56039622eab4977f5cf38cc822b0bfae0b6a0edef70e874fc80a44a89b6e5243", func := "lightclient/lightclientlaw18.BitsReads", spec := "bitsReads", apart := false }
def BitsReadsSaid : Prop := bitsReadsRow.holds Try.pinned (OpenSpec.ofChange bitsReadsSpec)

/-- ITS FALSE NEIGHBOUR: 'it returns false'. Refute it at one input. -/
def bitsReadsWrong : ChangeSpec := { name := "bitsReads", fn := fun _ => fun
  | [d1, d2, d3] => { results := [.lit (.bool false)], args := [d1, d2, d3] }
  | _ => none }
def BitsReadsWrongFalsely : Prop := bitsReadsRow.holds Try.pinned (OpenSpec.ofChange bitsReadsWrong)

/-- 'lightclientlaw18.BitsBack': WHATEVER THE INPUT: true; the input reads as it did. -/
def bitsBackSpec : ChangeSpec := { name := "bitsBack", fn := fun _ => fun
  | [d1, d2, d3] => { results := [.lit (.bool true)], args := [d1, d2, d3] }
  | _ => none }
def bitsBackRow : OpenClaim := { program := "ytcikfbmkonhbbaa", sum := "56039622eab4977f5cf38cc822b0bfae0b6a0edef70e874fc80a44a89b6e5243", func := "lightclient/lightclientlaw18.BitsBack", spec := "bitsBack", apart := false }
def BitsBackSaid : Prop := bitsBackRow.holds Try.pinned (OpenSpec.ofChange bitsBackSpec)

/-- ITS FALSE NEIGHBOUR: 'it returns false'. Refute it at one input. -/
def bitsBackWrong : ChangeSpec := { name := "bitsBack", fn := fun _ => fun
  | [d1, d2, d3] => { results := [.lit (.bool false)], args := [d1, d2, d3] }
  | _ => none }
def BitsBackWrongFalsely : Prop := bitsBackRow.holds Try.pinned (OpenSpec.ofChange bitsBackWrong)

/-- 'lightclientlaw18.BitsRiceBack': WHATEVER THE INPUT: true; the input reads as it did. -/
def bitsRiceBackSpec : ChangeSpec := { name := "bitsRiceBack", fn := fun _ => fun
  | [d1, d2] => { results := [.lit (.bool true)], args := [d1, d2] }
  | _ => none }
def bitsRiceBackRow : OpenClaim := { program := "ytcikfbmkonhbbaa", sum := "56039622eab4977f5cf38cc822b0bfae0b6a0edef70e874fc80a44a89b6e5243", func := "lightclient/lightclientlaw18.BitsRiceBack", spec := "bitsRiceBack", apart := false }
def BitsRiceBackSaid : Prop := bitsRiceBackRow.holds Try.pinned (OpenSpec.ofChange bitsRiceBackSpec)

/-- ITS FALSE NEIGHBOUR: 'it returns false'. Refute it at one input. -/
def bitsRiceBackWrong : ChangeSpec := { name := "bitsRiceBack", fn := fun _ => fun
  | [d1, d2] => { results := [.lit (.bool false)], args := [d1, d2] }
  | _ => none }
def BitsRiceBackWrongFalsely : Prop := bitsRiceBackRow.holds Try.pinned (OpenSpec.ofChange bitsRiceBackWrong)

/-- 'lightclientlaw18.BitsCodes': WHATEVER THE INPUT: true; the input reads as it did. -/
def bitsCodesSpec : ChangeSpec := { name := "bitsCodes", fn := fun _ => fun
  | [d1, d2, d3] => { results := [.lit (.bool true)], args := [d1, d2, d3] }
  | _ => none }
def bitsCodesRow : OpenClaim := { program := "ytcikfbmkonhbbaa", sum := "56039622eab4977f5cf38cc822b0bfae0b6a0edef70e874fc80a44a89b6e5243", func := "lightclient/lightclientlaw18.BitsCodes", spec := "bitsCodes", apart := false }
def BitsCodesSaid : Prop := bitsCodesRow.holds Try.pinned (OpenSpec.ofChange bitsCodesSpec)

/-- ITS FALSE NEIGHBOUR: 'it returns false'. Refute it at one input. -/
def bitsCodesWrong : ChangeSpec := { name := "bitsCodes", fn := fun _ => fun
  | [d1, d2, d3] => { results := [.lit (.bool false)], args := [d1, d2, d3] }
  | _ => none }
def BitsCodesWrongFalsely : Prop := bitsCodesRow.holds Try.pinned (OpenSpec.ofChange bitsCodesWrong)

/- THE SECOND FORM. 'bulk': how many values and letters a reading holds, each counted each time it is reached (what is shared counts as often as it is met; a slice's spare places count too). A statement '..UptoSaid' is the law's where the arguments, and the package variables that the reading takes, are together of bulk at most 1048576: NARROWER than '..Said'. Prove '..Said' where nothing that the law and all that it calls make is longer than what came in: it says more and counts as full. Else prove '..UptoSaid'. A law counts once. -/
mutual
def uptoBulk {H : Type} : DataW H → Nat
  | .lit (.string bytes) => bytes.length + 1
  | .lit _ => 1
  | .nil => 1
  | .ptr d => uptoBulk d + 1
  | .slice elems spare => uptoBulkAll elems + uptoBulkAll spare + 1
  | .agg parts => uptoBulkAll parts + 1
  | .iface _ d => uptoBulk d + 1
  | .map entries => uptoBulkEntries entries + 1
  | .held _ => 1
def uptoBulkAll {H : Type} : List (DataW H) → Nat
  | [] => 0
  | d :: r => uptoBulk d + uptoBulkAll r
def uptoBulkEntries {H : Type} : List (Lit × DataW H) → Nat
  | [] => 0
  | x :: r => uptoBulkEntry x + uptoBulkEntries r
def uptoBulkEntry {H : Type} : Lit × DataW H → Nat
  | (.string bytes, d) => bytes.length + uptoBulk d + 1
  | (_, d) => uptoBulk d + 1
 end
def uptoSmall : (H : Type) → List (DataW H) → Bool := fun _ ds => decide (uptoBulkAll ds ≤ 1048576)
def OpenSpec.upto (s : _root_.Go.ChangeSpec) : _root_.Go.OpenSpec := { _root_.Go.OpenSpec.ofChange s with cond := some uptoSmall }

/-- 'lightclientlaw18.BitsAppends', WHERE WHAT IT READS IS OF BULK AT MOST 1048576: true; the input reads as it did. -/
def bitsAppendsUptoRow : OpenClaim := { program := "ytcikfbmkonhbbaa", sum := "56039622eab4977f5cf38cc822b0bfae0b6a0edef70e874fc80a44a89b6e5243", func := "lightclient/lightclientlaw18.BitsAppends", spec := "bitsAppends", apart := false, narrowed := true }
def BitsAppendsUptoSaid : Prop := bitsAppendsUptoRow.holds Try.pinned (OpenSpec.upto bitsAppendsSpec)

/-- 'lightclientlaw18.BitsReads', WHERE WHAT IT READS IS OF BULK AT MOST 1048576: true; the input reads as it did. -/
def bitsReadsUptoRow : OpenClaim := { program := "ytcikfbmkonhbbaa", sum := "56039622eab4977f5cf38cc822b0bfae0b6a0edef70e874fc80a44a89b6e5243", func := "lightclient/lightclientlaw18.BitsReads", spec := "bitsReads", apart := false, narrowed := true }
def BitsReadsUptoSaid : Prop := bitsReadsUptoRow.holds Try.pinned (OpenSpec.upto bitsReadsSpec)

/-- 'lightclientlaw18.BitsBack', WHERE WHAT IT READS IS OF BULK AT MOST 1048576: true; the input reads as it did. -/
def bitsBackUptoRow : OpenClaim := { program := "ytcikfbmkonhbbaa", sum := "56039622eab4977f5cf38cc822b0bfae0b6a0edef70e874fc80a44a89b6e5243", func := "lightclient/lightclientlaw18.BitsBack", spec := "bitsBack", apart := false, narrowed := true }
def BitsBackUptoSaid : Prop := bitsBackUptoRow.holds Try.pinned (OpenSpec.upto bitsBackSpec)

/-- 'lightclientlaw18.BitsRiceBack', WHERE WHAT IT READS IS OF BULK AT MOST 1048576: true; the input reads as it did. -/
def bitsRiceBackUptoRow : OpenClaim := { program := "ytcikfbmkonhbbaa", sum := "56039622eab4977f5cf38cc822b0bfae0b6a0edef70e874fc80a44a89b6e5243", func := "lightclient/lightclientlaw18.BitsRiceBack", spec := "bitsRiceBack", apart := false, narrowed := true }
def BitsRiceBackUptoSaid : Prop := bitsRiceBackUptoRow.holds Try.pinned (OpenSpec.upto bitsRiceBackSpec)

/-- 'lightclientlaw18.BitsCodes', WHERE WHAT IT READS IS OF BULK AT MOST 1048576: true; the input reads as it did. -/
def bitsCodesUptoRow : OpenClaim := { program := "ytcikfbmkonhbbaa", sum := "56039622eab4977f5cf38cc822b0bfae0b6a0edef70e874fc80a44a89b6e5243", func := "lightclient/lightclientlaw18.BitsCodes", spec := "bitsCodes", apart := false, narrowed := true }
def BitsCodesUptoSaid : Prop := bitsCodesUptoRow.holds Try.pinned (OpenSpec.upto bitsCodesSpec)

end Rows
end Go.Proofs.Ytcikfbmkonhbbaa
