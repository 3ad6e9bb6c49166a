/-
  No cell of these rows narrows 'for every input' (looked for: loops, veiled, ifaces, maps, wideKeys, modest, calm, conditions, laid).
  DERIVED. THE GIVEN ROWS OF THIS SEAT. 4 by the template 'for every input the law returns true; each argument reads behind the call as it read before'; 0 by the template 'total and deterministic' (their statements: YtaeaeaiebbakbaaTotals.lean).
  GIVEN WITH THE SEED: the statements are not yours to turn. If you find one false, say at which input.
  Laid BY PROGRAM, IN A SANDBOX (cutbox-rows.mjs): the forced cells as the released guide's own fill.sh prints them over the translation c3254814d7d013ad… (all of the seat's roots in one cut). By AI agents, Wed Nov 11 2026. No macro, syntax, notation, axiom, sorry.
-/
import Derived.Test.YtaeaeaiebbakbaaChecked
import GoSem.Claim
import GoSem.ClaimJoined
import GoSem.ClaimMapViews
import Derived.JoinedTies
import Derived.KernelRfl
namespace Go.Proofs.Ytaeaeaiebbakbaa
/- THE CELL 'sum', in the pinned program and in every row, IS THE sha256 OF THE DUMP (.gsa) THAT YtaeaeaiebbakbaaProg.lean LOADS. Nothing in Lean hashes anything: it is a label: what it is worth is what the hold of that sum in a sandbox is worth. -/
noncomputable def Try.pinned : Pinned := { name := "ytaeaeaiebbakbaa", sum := "c3254814d7d013ad4e161266cc5477dc5f4a5b5a9ad68b84311de61afe55db7b", checked := Try.checked }
namespace Rows
def none {H : Type} : Left H := { results := [], args := [] }

/-- 'lightclientlaw32.SelectionBest': WHATEVER THE INPUT: true; the input reads as it did. -/
def selectionBestSpec : ChangeSpec := { name := "selectionBest", fn := fun _ => fun
  | [d1, d2, d3] => { results := [.lit (.bool true)], args := [d1, d2, d3] }
  | _ => none }
def selectionBestRow : OpenClaim := { program := "ytaeaeaiebbakbaa", sum := "c3254814d7d013ad4e161266cc5477dc5f4a5b5a9ad68b84311de61afe55db7b", func := "lightclient/lightclientlaw32.SelectionBest", spec := "selectionBest", recurses := true, apart := false }
def SelectionBestSaid : Prop := selectionBestRow.holds Try.pinned (OpenSpec.ofChange selectionBestSpec)

/-- ITS FALSE NEIGHBOUR: 'it returns false'. Refute it at one input. -/
def selectionBestWrong : ChangeSpec := { name := "selectionBest", fn := fun _ => fun
  | [d1, d2, d3] => { results := [.lit (.bool false)], args := [d1, d2, d3] }
  | _ => none }
def SelectionBestWrongFalsely : Prop := selectionBestRow.holds Try.pinned (OpenSpec.ofChange selectionBestWrong)

/-- 'lightclientlaw32.SelectionProves': WHATEVER THE INPUT: true; the input reads as it did. -/
def selectionProvesSpec : ChangeSpec := { name := "selectionProves", fn := fun _ => fun
  | [d1, d2, d3] => { results := [.lit (.bool true)], args := [d1, d2, d3] }
  | _ => none }
def selectionProvesRow : OpenClaim := { program := "ytaeaeaiebbakbaa", sum := "c3254814d7d013ad4e161266cc5477dc5f4a5b5a9ad68b84311de61afe55db7b", func := "lightclient/lightclientlaw32.SelectionProves", spec := "selectionProves", recurses := true, apart := false }
def SelectionProvesSaid : Prop := selectionProvesRow.holds Try.pinned (OpenSpec.ofChange selectionProvesSpec)

/-- ITS FALSE NEIGHBOUR: 'it returns false'. Refute it at one input. -/
def selectionProvesWrong : ChangeSpec := { name := "selectionProves", fn := fun _ => fun
  | [d1, d2, d3] => { results := [.lit (.bool false)], args := [d1, d2, d3] }
  | _ => none }
def SelectionProvesWrongFalsely : Prop := selectionProvesRow.holds Try.pinned (OpenSpec.ofChange selectionProvesWrong)

/-- 'lightclientlaw32.SelectionLargest': WHATEVER THE INPUT: true; the input reads as it did. -/
def selectionLargestSpec : ChangeSpec := { name := "selectionLargest", fn := fun _ => fun
  | [d1, d2, d3] => { results := [.lit (.bool true)], args := [d1, d2, d3] }
  | _ => none }
def selectionLargestRow : OpenClaim := { program := "ytaeaeaiebbakbaa", sum := "c3254814d7d013ad4e161266cc5477dc5f4a5b5a9ad68b84311de61afe55db7b", func := "lightclient/lightclientlaw32.SelectionLargest", spec := "selectionLargest", recurses := true, apart := false }
def SelectionLargestSaid : Prop := selectionLargestRow.holds Try.pinned (OpenSpec.ofChange selectionLargestSpec)

/-- ITS FALSE NEIGHBOUR: 'it returns false'. Refute it at one input. -/
def selectionLargestWrong : ChangeSpec := { name := "selectionLargest", fn := fun _ => fun
  | [d1, d2, d3] => { results := [.lit (.bool false)], args := [d1, d2, d3] }
  | _ => none }
def SelectionLargestWrongFalsely : Prop := selectionLargestRow.holds Try.pinned (OpenSpec.ofChange selectionLargestWrong)

/-- 'lightclientlaw32.SelectionOptimal': WHATEVER THE INPUT: true; the input reads as it did. -/
def selectionOptimalSpec : ChangeSpec := { name := "selectionOptimal", fn := fun _ => fun
  | [d] => { results := [.lit (.bool true)], args := [d] }
  | _ => none }
def selectionOptimalRow : OpenClaim := { program := "ytaeaeaiebbakbaa", sum := "c3254814d7d013ad4e161266cc5477dc5f4a5b5a9ad68b84311de61afe55db7b", func := "lightclient/lightclientlaw32.SelectionOptimal", spec := "selectionOptimal", recurses := true, apart := false }
def SelectionOptimalSaid : Prop := selectionOptimalRow.holds Try.pinned (OpenSpec.ofChange selectionOptimalSpec)

/-- ITS FALSE NEIGHBOUR: 'it returns false'. Refute it at one input. -/
def selectionOptimalWrong : ChangeSpec := { name := "selectionOptimal", fn := fun _ => fun
  | [d] => { results := [.lit (.bool false)], args := [d] }
  | _ => none }
def SelectionOptimalWrongFalsely : Prop := selectionOptimalRow.holds Try.pinned (OpenSpec.ofChange selectionOptimalWrong)

/- THE SECOND FORM. 'bulk': how many values and letters a reading holds, each counted each time it is reached (what is shared counts as often as it is met; a slice's spare places count too). A statement '..UptoSaid' is the law's where the arguments, and the package variables that the reading takes, are together of bulk at most 1048576: NARROWER than '..Said'. Prove '..Said' where nothing that the law and all that it calls make is longer than what came in: it says more and counts as full. Else prove '..UptoSaid'. A law counts once. -/
mutual
def uptoBulk {H : Type} : DataW H → Nat
  | .lit (.string bytes) => bytes.length + 1
  | .lit _ => 1
  | .nil => 1
  | .ptr d => uptoBulk d + 1
  | .slice elems spare => uptoBulkAll elems + uptoBulkAll spare + 1
  | .agg parts => uptoBulkAll parts + 1
  | .iface _ d => uptoBulk d + 1
  | .map entries => uptoBulkEntries entries + 1
  | .held _ => 1
def uptoBulkAll {H : Type} : List (DataW H) → Nat
  | [] => 0
  | d :: r => uptoBulk d + uptoBulkAll r
def uptoBulkEntries {H : Type} : List (Lit × DataW H) → Nat
  | [] => 0
  | x :: r => uptoBulkEntry x + uptoBulkEntries r
def uptoBulkEntry {H : Type} : Lit × DataW H → Nat
  | (.string bytes, d) => bytes.length + uptoBulk d + 1
  | (_, d) => uptoBulk d + 1
 end
def uptoSmall : (H : Type) → List (DataW H) → Bool := fun _ ds => decide (uptoBulkAll ds ≤ 1048576)
def OpenSpec.upto (s : _root_.Go.ChangeSpec) : _root_.Go.OpenSpec := { _root_.Go.OpenSpec.ofChange s with cond := some uptoSmall }

/-- 'lightclientlaw32.SelectionBest', WHERE WHAT IT READS IS OF BULK AT MOST 1048576: true; the input reads as it did. -/
def selectionBestUptoRow : OpenClaim := { program := "ytaeaeaiebbakbaa", sum := "c3254814d7d013ad4e161266cc5477dc5f4a5b5a9ad68b84311de61afe55db7b", func := "lightclient/lightclientlaw32.SelectionBest", spec := "selectionBest", recurses := true, apart := false, narrowed := true }
def SelectionBestUptoSaid : Prop := selectionBestUptoRow.holds Try.pinned (OpenSpec.upto selectionBestSpec)

/-- 'lightclientlaw32.SelectionProves', WHERE WHAT IT READS IS OF BULK AT MOST 1048576: true; the input reads as it did. -/
def selectionProvesUptoRow : OpenClaim := { program := "ytaeaeaiebbakbaa", sum := "c3254814d7d013ad4e161266cc5477dc5f4a5b5a9ad68b84311de61afe55db7b", func := "lightclient/lightclientlaw32.SelectionProves", spec := "selectionProves", recurses := true, apart := false, narrowed := true }
def SelectionProvesUptoSaid : Prop := selectionProvesUptoRow.holds Try.pinned (OpenSpec.upto selectionProvesSpec)

/-- 'lightclientlaw32.SelectionLargest', WHERE WHAT IT READS IS OF BULK AT MOST 1048576: true; the input reads as it did. -/
def selectionLargestUptoRow : OpenClaim := { program := "ytaeaeaiebbakbaa", sum := "c3254814d7d013ad4e161266cc5477dc5f4a5b5a9ad68b84311de61afe55db7b", func := "lightclient/lightclientlaw32.SelectionLargest", spec := "selectionLargest", recurses := true, apart := false, narrowed := true }
def SelectionLargestUptoSaid : Prop := selectionLargestUptoRow.holds Try.pinned (OpenSpec.upto selectionLargestSpec)

/-- 'lightclientlaw32.SelectionOptimal', WHERE WHAT IT READS IS OF BULK AT MOST 1048576: true; the input reads as it did. -/
def selectionOptimalUptoRow : OpenClaim := { program := "ytaeaeaiebbakbaa", sum := "c3254814d7d013ad4e161266cc5477dc5f4a5b5a9ad68b84311de61afe55db7b", func := "lightclient/lightclientlaw32.SelectionOptimal", spec := "selectionOptimal", recurses := true, apart := false, narrowed := true }
def SelectionOptimalUptoSaid : Prop := selectionOptimalUptoRow.holds Try.pinned (OpenSpec.upto selectionOptimalSpec)

end Rows
end Go.Proofs.Ytaeaeaiebbakbaa
