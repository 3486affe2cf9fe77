/-
  No cell of these rows narrows 'for every input' (looked for: loops, veiled, ifaces, maps, wideKeys, modest, calm, conditions, laid).
  DERIVED. THE GIVEN ROWS OF THIS SEAT. 3 by the template 'for every input the law returns true; each argument reads behind the call as it read before'; 0 by the template 'total and deterministic' (their statements: YtapofbedapjmbaaTotals.lean).
  GIVEN WITH THE SEED: the statements are not yours to turn. If you find one false, say at which input.
  Laid BY PROGRAM, IN A SANDBOX (cutbox-rows.mjs): the forced cells as the released guide's own fill.sh prints them over the translation 63ce5c29bb8918fe… (all of the seat's roots in one cut). By AI agents, Wed Nov 11 2026. No macro, syntax, notation, axiom, sorry.
-/
import Derived.Test.YtapofbedapjmbaaChecked
import GoSem.Claim
import GoSem.ClaimJoined
import GoSem.ClaimMapViews
import Derived.JoinedTies
import Derived.KernelRfl
namespace Go.Proofs.Ytapofbedapjmbaa
/- THE CELL 'sum', in the pinned program and in every row, IS THE sha256 OF THE DUMP (.gsa) THAT YtapofbedapjmbaaProg.lean LOADS. Nothing in Lean hashes anything: it is a label: what it is worth is what the hold of that sum in a sandbox is worth. -/
noncomputable def Try.pinned : Pinned := { name := "ytapofbedapjmbaa", sum := "63ce5c29bb8918fe40b69d16538442d7b4e3d518086b6bbc625fbaa6a01a61fe", checked := Try.checked }
namespace Rows
def none {H : Type} : Left H := { results := [], args := [] }

/-- 'manifoldlaw02.SerialBack': WHATEVER THE INPUT: true; the input reads as it did. -/
def serialBackSpec : ChangeSpec := { name := "serialBack", fn := fun _ => fun
  | [d1, d2, d3, d4] => { results := [.lit (.bool true)], args := [d1, d2, d3, d4] }
  | _ => none }
def serialBackRow : OpenClaim := { program := "ytapofbedapjmbaa", sum := "63ce5c29bb8918fe40b69d16538442d7b4e3d518086b6bbc625fbaa6a01a61fe", func := "manifold/manifoldlaw02.SerialBack", spec := "serialBack", apart := false }
def SerialBackSaid : Prop := serialBackRow.holds Try.pinned (OpenSpec.ofChange serialBackSpec)

/-- ITS FALSE NEIGHBOUR: 'it returns false'. Refute it at one input. -/
def serialBackWrong : ChangeSpec := { name := "serialBack", fn := fun _ => fun
  | [d1, d2, d3, d4] => { results := [.lit (.bool false)], args := [d1, d2, d3, d4] }
  | _ => none }
def SerialBackWrongFalsely : Prop := serialBackRow.holds Try.pinned (OpenSpec.ofChange serialBackWrong)

/-- 'manifoldlaw02.SerialNear': WHATEVER THE INPUT: true; the input reads as it did. -/
def serialNearSpec : ChangeSpec := { name := "serialNear", fn := fun _ => fun
  | [d1, d2, d3] => { results := [.lit (.bool true)], args := [d1, d2, d3] }
  | _ => none }
def serialNearRow : OpenClaim := { program := "ytapofbedapjmbaa", sum := "63ce5c29bb8918fe40b69d16538442d7b4e3d518086b6bbc625fbaa6a01a61fe", func := "manifold/manifoldlaw02.SerialNear", spec := "serialNear", apart := false }
def SerialNearSaid : Prop := serialNearRow.holds Try.pinned (OpenSpec.ofChange serialNearSpec)

/-- ITS FALSE NEIGHBOUR: 'it returns false'. Refute it at one input. -/
def serialNearWrong : ChangeSpec := { name := "serialNear", fn := fun _ => fun
  | [d1, d2, d3] => { results := [.lit (.bool false)], args := [d1, d2, d3] }
  | _ => none }
def SerialNearWrongFalsely : Prop := serialNearRow.holds Try.pinned (OpenSpec.ofChange serialNearWrong)

/-- 'manifoldlaw02.SerialFollows': WHATEVER THE INPUT: true; the input reads as it did. -/
def serialFollowsSpec : ChangeSpec := { name := "serialFollows", fn := fun _ => fun
  | [d1, d2] => { results := [.lit (.bool true)], args := [d1, d2] }
  | _ => none }
def serialFollowsRow : OpenClaim := { program := "ytapofbedapjmbaa", sum := "63ce5c29bb8918fe40b69d16538442d7b4e3d518086b6bbc625fbaa6a01a61fe", func := "manifold/manifoldlaw02.SerialFollows", spec := "serialFollows", apart := false }
def SerialFollowsSaid : Prop := serialFollowsRow.holds Try.pinned (OpenSpec.ofChange serialFollowsSpec)

/-- ITS FALSE NEIGHBOUR: 'it returns false'. Refute it at one input. -/
def serialFollowsWrong : ChangeSpec := { name := "serialFollows", fn := fun _ => fun
  | [d1, d2] => { results := [.lit (.bool false)], args := [d1, d2] }
  | _ => none }
def SerialFollowsWrongFalsely : Prop := serialFollowsRow.holds Try.pinned (OpenSpec.ofChange serialFollowsWrong)

/- THE SECOND FORM. 'bulk': how many values and letters a reading holds, each counted each time it is reached (what is shared counts as often as it is met; a slice's spare places count too). A statement '..UptoSaid' is the law's where the arguments, and the package variables that the reading takes, are together of bulk at most 1048576: NARROWER than '..Said'. Prove '..Said' where nothing that the law and all that it calls make is longer than what came in: it says more and counts as full. Else prove '..UptoSaid'. A law counts once. -/
mutual
def uptoBulk {H : Type} : DataW H → Nat
  | .lit (.string bytes) => bytes.length + 1
  | .lit _ => 1
  | .nil => 1
  | .ptr d => uptoBulk d + 1
  | .slice elems spare => uptoBulkAll elems + uptoBulkAll spare + 1
  | .agg parts => uptoBulkAll parts + 1
  | .iface _ d => uptoBulk d + 1
  | .map entries => uptoBulkEntries entries + 1
  | .held _ => 1
def uptoBulkAll {H : Type} : List (DataW H) → Nat
  | [] => 0
  | d :: r => uptoBulk d + uptoBulkAll r
def uptoBulkEntries {H : Type} : List (Lit × DataW H) → Nat
  | [] => 0
  | x :: r => uptoBulkEntry x + uptoBulkEntries r
def uptoBulkEntry {H : Type} : Lit × DataW H → Nat
  | (.string bytes, d) => bytes.length + uptoBulk d + 1
  | (_, d) => uptoBulk d + 1
 end
def uptoSmall : (H : Type) → List (DataW H) → Bool := fun _ ds => decide (uptoBulkAll ds ≤ 1048576)
def OpenSpec.upto (s : _root_.Go.ChangeSpec) : _root_.Go.OpenSpec := { _root_.Go.OpenSpec.ofChange s with cond := some uptoSmall }

/-- 'manifoldlaw02.SerialBack', WHERE WHAT IT READS IS OF BULK AT MOST 1048576: true; the input reads as it did. -/
def serialBackUptoRow : OpenClaim := { program := "ytapofbedapjmbaa", sum := "63ce5c29bb8918fe40b69d16538442d7b4e3d518086b6bbc625fbaa6a01a61fe", func := "manifold/manifoldlaw02.SerialBack", spec := "serialBack", apart := false, narrowed := true }
def SerialBackUptoSaid : Prop := serialBackUptoRow.holds Try.pinned (OpenSpec.upto serialBackSpec)

/-- 'manifoldlaw02.SerialNear', WHERE WHAT IT READS IS OF BULK AT MOST 1048576: true; the input reads as it did. -/
def serialNearUptoRow : OpenClaim := { program := "ytapofbedapjmbaa", sum := "63ce5c29bb8918fe40b69d16538442d7b4e3d518086b6bbc625fbaa6a01a61fe", func := "manifold/manifoldlaw02.SerialNear", spec := "serialNear", apart := false, narrowed := true }
def SerialNearUptoSaid : Prop := serialNearUptoRow.holds Try.pinned (OpenSpec.upto serialNearSpec)

/-- 'manifoldlaw02.SerialFollows', WHERE WHAT IT READS IS OF BULK AT MOST 1048576: true; the input reads as it did. -/
def serialFollowsUptoRow : OpenClaim := { program := "ytapofbedapjmbaa", sum := "63ce5c29bb8918fe40b69d16538442d7b4e3d518086b6bbc625fbaa6a01a61fe", func := "manifold/manifoldlaw02.SerialFollows", spec := "serialFollows", apart := false, narrowed := true }
def SerialFollowsUptoSaid : Prop := serialFollowsUptoRow.holds Try.pinned (OpenSpec.upto serialFollowsSpec)

end Rows
end Go.Proofs.Ytapofbedapjmbaa
