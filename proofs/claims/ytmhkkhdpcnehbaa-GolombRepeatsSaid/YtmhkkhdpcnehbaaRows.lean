/-
  No cell of these rows narrows 'for every input' (looked for: loops, veiled, ifaces, maps, wideKeys, modest, calm, conditions, laid).
  DERIVED. THE GIVEN ROWS OF THIS SEAT. 6 by the template 'for every input the law returns true; each argument reads behind the call as it read before'; 0 by the template 'total and deterministic' (their statements: YtmhkkhdpcnehbaaTotals.lean).
  GIVEN WITH THE SEED: the statements are not yours to turn. If you find one false, say at which input.
  Laid BY PROGRAM, IN A SANDBOX (cutbox-rows.mjs): the forced cells as the released guide's own fill.sh prints them over the translation 6192e87365471139… (all of the seat's roots in one cut). By AI agents, Wed Nov 11 2026. No macro, syntax, notation, axiom, sorry.
-/
import Derived.Test.YtmhkkhdpcnehbaaChecked
import GoSem.Claim
import GoSem.ClaimJoined
import GoSem.ClaimMapViews
import Derived.JoinedTies
import Derived.KernelRfl
namespace Go.Proofs.Ytmhkkhdpcnehbaa
/- THE CELL 'sum', in the pinned program and in every row, IS THE sha256 OF THE DUMP (.gsa) THAT YtmhkkhdpcnehbaaProg.lean LOADS. Nothing in Lean hashes anything: it is a label: what it is worth is what the hold of that sum in a sandbox is worth. -/
noncomputable def Try.pinned : Pinned := { name := "ytmhkkhdpcnehbaa", sum := "6192e873654711395dba849c89b8ced997a9c3df0b55c686253dc0657023ef8f", checked := Try.checked }
namespace Rows
def none {H : Type} : Left H := { results := [], args := [] }

/-- 'lightclientlaw19.GolombEncodes': WHATEVER THE INPUT: true; the input reads as it did. -/
def golombEncodesSpec : ChangeSpec := { name := "golombEncodes", fn := fun _ => fun
  | [d1, d2] => { results := [.lit (.bool true)], args := [d1, d2] }
  | _ => none }
def golombEncodesRow : OpenClaim := { program := "ytmhkkhdpcnehbaa", sum := "6192e873654711395dba849c89b8ced997a9c3df0b55c686253dc0657023ef8f", func := "lightclient/lightclientlaw19.GolombEncodes", spec := "golombEncodes", recurses := true, apart := false }
def GolombEncodesSaid : Prop := golombEncodesRow.holds Try.pinned (OpenSpec.ofChange golombEncodesSpec)

/-- ITS FALSE NEIGHBOUR: 'it returns false'. Refute it at one input. -/
def golombEncodesWrong : ChangeSpec := { name := "golombEncodes", fn := fun _ => fun
  | [d1, d2] => { results := [.lit (.bool false)], args := [d1, d2] }
  | _ => none }
def GolombEncodesWrongFalsely : Prop := golombEncodesRow.holds Try.pinned (OpenSpec.ofChange golombEncodesWrong)

/-- 'lightclientlaw19.GolombRepeats': WHATEVER THE INPUT: true; the input reads as it did. -/
def golombRepeatsSpec : ChangeSpec := { name := "golombRepeats", fn := fun _ => fun
  | [d1, d2, d3, d4, d5] => { results := [.lit (.bool true)], args := [d1, d2, d3, d4, d5] }
  | _ => none }
def golombRepeatsRow : OpenClaim := { program := "ytmhkkhdpcnehbaa", sum := "6192e873654711395dba849c89b8ced997a9c3df0b55c686253dc0657023ef8f", func := "lightclient/lightclientlaw19.GolombRepeats", spec := "golombRepeats", recurses := true, apart := false }
def GolombRepeatsSaid : Prop := golombRepeatsRow.holds Try.pinned (OpenSpec.ofChange golombRepeatsSpec)

/-- ITS FALSE NEIGHBOUR: 'it returns false'. Refute it at one input. -/
def golombRepeatsWrong : ChangeSpec := { name := "golombRepeats", fn := fun _ => fun
  | [d1, d2, d3, d4, d5] => { results := [.lit (.bool false)], args := [d1, d2, d3, d4, d5] }
  | _ => none }
def GolombRepeatsWrongFalsely : Prop := golombRepeatsRow.holds Try.pinned (OpenSpec.ofChange golombRepeatsWrong)

/-- 'lightclientlaw19.GolombDecodes': WHATEVER THE INPUT: true; the input reads as it did. -/
def golombDecodesSpec : ChangeSpec := { name := "golombDecodes", fn := fun _ => fun
  | [d1, d2] => { results := [.lit (.bool true)], args := [d1, d2] }
  | _ => none }
def golombDecodesRow : OpenClaim := { program := "ytmhkkhdpcnehbaa", sum := "6192e873654711395dba849c89b8ced997a9c3df0b55c686253dc0657023ef8f", func := "lightclient/lightclientlaw19.GolombDecodes", spec := "golombDecodes", recurses := true, apart := false }
def GolombDecodesSaid : Prop := golombDecodesRow.holds Try.pinned (OpenSpec.ofChange golombDecodesSpec)

/-- ITS FALSE NEIGHBOUR: 'it returns false'. Refute it at one input. -/
def golombDecodesWrong : ChangeSpec := { name := "golombDecodes", fn := fun _ => fun
  | [d1, d2] => { results := [.lit (.bool false)], args := [d1, d2] }
  | _ => none }
def GolombDecodesWrongFalsely : Prop := golombDecodesRow.holds Try.pinned (OpenSpec.ofChange golombDecodesWrong)

/-- 'lightclientlaw19.GolombBack': WHATEVER THE INPUT: true; the input reads as it did. -/
def golombBackSpec : ChangeSpec := { name := "golombBack", fn := fun _ => fun
  | [d1, d2, d3] => { results := [.lit (.bool true)], args := [d1, d2, d3] }
  | _ => none }
def golombBackRow : OpenClaim := { program := "ytmhkkhdpcnehbaa", sum := "6192e873654711395dba849c89b8ced997a9c3df0b55c686253dc0657023ef8f", func := "lightclient/lightclientlaw19.GolombBack", spec := "golombBack", recurses := true, apart := false }
def GolombBackSaid : Prop := golombBackRow.holds Try.pinned (OpenSpec.ofChange golombBackSpec)

/-- ITS FALSE NEIGHBOUR: 'it returns false'. Refute it at one input. -/
def golombBackWrong : ChangeSpec := { name := "golombBack", fn := fun _ => fun
  | [d1, d2, d3] => { results := [.lit (.bool false)], args := [d1, d2, d3] }
  | _ => none }
def GolombBackWrongFalsely : Prop := golombBackRow.holds Try.pinned (OpenSpec.ofChange golombBackWrong)

/-- 'lightclientlaw19.GolombMembers': WHATEVER THE INPUT: true; the input reads as it did. -/
def golombMembersSpec : ChangeSpec := { name := "golombMembers", fn := fun _ => fun
  | [d1, d2, d3, d4, d5] => { results := [.lit (.bool true)], args := [d1, d2, d3, d4, d5] }
  | _ => none }
def golombMembersRow : OpenClaim := { program := "ytmhkkhdpcnehbaa", sum := "6192e873654711395dba849c89b8ced997a9c3df0b55c686253dc0657023ef8f", func := "lightclient/lightclientlaw19.GolombMembers", spec := "golombMembers", recurses := true, apart := false }
def GolombMembersSaid : Prop := golombMembersRow.holds Try.pinned (OpenSpec.ofChange golombMembersSpec)

/-- ITS FALSE NEIGHBOUR: 'it returns false'. Refute it at one input. -/
def golombMembersWrong : ChangeSpec := { name := "golombMembers", fn := fun _ => fun
  | [d1, d2, d3, d4, d5] => { results := [.lit (.bool false)], args := [d1, d2, d3, d4, d5] }
  | _ => none }
def GolombMembersWrongFalsely : Prop := golombMembersRow.holds Try.pinned (OpenSpec.ofChange golombMembersWrong)

/-- 'lightclientlaw19.GolombAny': WHATEVER THE INPUT: true; the input reads as it did. -/
def golombAnySpec : ChangeSpec := { name := "golombAny", fn := fun _ => fun
  | [d1, d2, d3, d4, d5] => { results := [.lit (.bool true)], args := [d1, d2, d3, d4, d5] }
  | _ => none }
def golombAnyRow : OpenClaim := { program := "ytmhkkhdpcnehbaa", sum := "6192e873654711395dba849c89b8ced997a9c3df0b55c686253dc0657023ef8f", func := "lightclient/lightclientlaw19.GolombAny", spec := "golombAny", recurses := true, apart := false }
def GolombAnySaid : Prop := golombAnyRow.holds Try.pinned (OpenSpec.ofChange golombAnySpec)

/-- ITS FALSE NEIGHBOUR: 'it returns false'. Refute it at one input. -/
def golombAnyWrong : ChangeSpec := { name := "golombAny", fn := fun _ => fun
  | [d1, d2, d3, d4, d5] => { results := [.lit (.bool false)], args := [d1, d2, d3, d4, d5] }
  | _ => none }
def GolombAnyWrongFalsely : Prop := golombAnyRow.holds Try.pinned (OpenSpec.ofChange golombAnyWrong)

/- THE SECOND FORM. 'bulk': how many values and letters a reading holds, each counted each time it is reached (what is shared counts as often as it is met; a slice's spare places count too). A statement '..UptoSaid' is the law's where the arguments, and the package variables that the reading takes, are together of bulk at most 1048576: NARROWER than '..Said'. Prove '..Said' where nothing that the law and all that it calls make is longer than what came in: it says more and counts as full. Else prove '..UptoSaid'. A law counts once. -/
mutual
def uptoBulk {H : Type} : DataW H → Nat
  | .lit (.string bytes) => bytes.length + 1
  | .lit _ => 1
  | .nil => 1
  | .ptr d => uptoBulk d + 1
  | .slice elems spare => uptoBulkAll elems + uptoBulkAll spare + 1
  | .agg parts => uptoBulkAll parts + 1
  | .iface _ d => uptoBulk d + 1
  | .map entries => uptoBulkEntries entries + 1
  | .held _ => 1
def uptoBulkAll {H : Type} : List (DataW H) → Nat
  | [] => 0
  | d :: r => uptoBulk d + uptoBulkAll r
def uptoBulkEntries {H : Type} : List (Lit × DataW H) → Nat
  | [] => 0
  | x :: r => uptoBulkEntry x + uptoBulkEntries r
def uptoBulkEntry {H : Type} : Lit × DataW H → Nat
  | (.string bytes, d) => bytes.length + uptoBulk d + 1
  | (_, d) => uptoBulk d + 1
 end
def uptoSmall : (H : Type) → List (DataW H) → Bool := fun _ ds => decide (uptoBulkAll ds ≤ 1048576)
def OpenSpec.upto (s : _root_.Go.ChangeSpec) : _root_.Go.OpenSpec := { _root_.Go.OpenSpec.ofChange s with cond := some uptoSmall }

/-- 'lightclientlaw19.GolombEncodes', WHERE WHAT IT READS IS OF BULK AT MOST 1048576: true; the input reads as it did. -/
def golombEncodesUptoRow : OpenClaim := { program := "ytmhkkhdpcnehbaa", sum := "6192e873654711395dba849c89b8ced997a9c3df0b55c686253dc0657023ef8f", func := "lightclient/lightclientlaw19.GolombEncodes", spec := "golombEncodes", recurses := true, apart := false, narrowed := true }
def GolombEncodesUptoSaid : Prop := golombEncodesUptoRow.holds Try.pinned (OpenSpec.upto golombEncodesSpec)

/-- 'lightclientlaw19.GolombRepeats', WHERE WHAT IT READS IS OF BULK AT MOST 1048576: true; the input reads as it did. -/
def golombRepeatsUptoRow : OpenClaim := { program := "ytmhkkhdpcnehbaa", sum := "6192e873654711395dba849c89b8ced997a9c3df0b55c686253dc0657023ef8f", func := "lightclient/lightclientlaw19.GolombRepeats", spec := "golombRepeats", recurses := true, apart := false, narrowed := true }
def GolombRepeatsUptoSaid : Prop := golombRepeatsUptoRow.holds Try.pinned (OpenSpec.upto golombRepeatsSpec)

/-- 'lightclientlaw19.GolombDecodes', WHERE WHAT IT READS IS OF BULK AT MOST 1048576: true; the input reads as it did. -/
def golombDecodesUptoRow : OpenClaim := { program := "ytmhkkhdpcnehbaa", sum := "6192e873654711395dba849c89b8ced997a9c3df0b55c686253dc0657023ef8f", func := "lightclient/lightclientlaw19.GolombDecodes", spec := "golombDecodes", recurses := true, apart := false, narrowed := true }
def GolombDecodesUptoSaid : Prop := golombDecodesUptoRow.holds Try.pinned (OpenSpec.upto golombDecodesSpec)

/-- 'lightclientlaw19.GolombBack', WHERE WHAT IT READS IS OF BULK AT MOST 1048576: true; the input reads as it did. -/
def golombBackUptoRow : OpenClaim := { program := "ytmhkkhdpcnehbaa", sum := "6192e873654711395dba849c89b8ced997a9c3df0b55c686253dc0657023ef8f", func := "lightclient/lightclientlaw19.GolombBack", spec := "golombBack", recurses := true, apart := false, narrowed := true }
def GolombBackUptoSaid : Prop := golombBackUptoRow.holds Try.pinned (OpenSpec.upto golombBackSpec)

/-- 'lightclientlaw19.GolombMembers', WHERE WHAT IT READS IS OF BULK AT MOST 1048576: true; the input reads as it did. -/
def golombMembersUptoRow : OpenClaim := { program := "ytmhkkhdpcnehbaa", sum := "6192e873654711395dba849c89b8ced997a9c3df0b55c686253dc0657023ef8f", func := "lightclient/lightclientlaw19.GolombMembers", spec := "golombMembers", recurses := true, apart := false, narrowed := true }
def GolombMembersUptoSaid : Prop := golombMembersUptoRow.holds Try.pinned (OpenSpec.upto golombMembersSpec)

/-- 'lightclientlaw19.GolombAny', WHERE WHAT IT READS IS OF BULK AT MOST 1048576: true; the input reads as it did. -/
def golombAnyUptoRow : OpenClaim := { program := "ytmhkkhdpcnehbaa", sum := "6192e873654711395dba849c89b8ced997a9c3df0b55c686253dc0657023ef8f", func := "lightclient/lightclientlaw19.GolombAny", spec := "golombAny", recurses := true, apart := false, narrowed := true }
def GolombAnyUptoSaid : Prop := golombAnyUptoRow.holds Try.pinned (OpenSpec.upto golombAnySpec)

end Rows
end Go.Proofs.Ytmhkkhdpcnehbaa
