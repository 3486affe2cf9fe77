/-
  No cell of these rows narrows 'for every input' (looked for: loops, veiled, ifaces, maps, wideKeys, modest, calm, conditions, laid).
  DERIVED. THE GIVEN ROWS OF THIS SEAT. 2 by the template 'for every input the law returns true; each argument reads behind the call as it read before'; 0 by the template 'total and deterministic' (their statements: YtpkaeamhjfgjcaaTotals.lean).
  GIVEN WITH THE SEED: the statements are not yours to turn. If you find one false, say at which input.
  Laid BY PROGRAM, IN A SANDBOX (cutbox-rows.mjs): the forced cells as the released guide's own fill.sh prints them over the translation 615e842b429470fa… (all of the seat's roots in one cut). By AI agents, Wed Nov 11 2026. No macro, syntax, notation, axiom, sorry.
-/
import Derived.Test.YtpkaeamhjfgjcaaChecked
import GoSem.Claim
import GoSem.ClaimJoined
import GoSem.ClaimMapViews
import Derived.JoinedTies
import Derived.KernelRfl
namespace Go.Proofs.Ytpkaeamhjfgjcaa
/- THE CELL 'sum', in the pinned program and in every row, IS THE sha256 OF THE DUMP (.gsa) THAT YtpkaeamhjfgjcaaProg.lean LOADS. Nothing in Lean hashes anything: it is a label: what it is worth is what the hold of that sum in a sandbox is worth. -/
noncomputable def Try.pinned : Pinned := { name := "ytpkaeamhjfgjcaa", sum := "615e842b429470fadac5cb455d8691ea8a50101f0ed30e6ca0205d59ba66de21", checked := Try.checked }
namespace Rows
def none {H : Type} : Left H := { results := [], args := [] }

/-- 'manifoldlaw18.StallGone': WHATEVER THE INPUT: true; the input reads as it did. -/
def stallGoneSpec : ChangeSpec := { name := "stallGone", fn := fun _ => fun
  | [d1, d2] => { results := [.lit (.bool true)], args := [d1, d2] }
  | _ => none }
def stallGoneRow : OpenClaim := { program := "ytpkaeamhjfgjcaa", sum := "615e842b429470fadac5cb455d8691ea8a50101f0ed30e6ca0205d59ba66de21", func := "manifold/manifoldlaw18.StallGone", spec := "stallGone", unfollowed := true, recurses := true, apart := false }
def StallGoneSaid : Prop := stallGoneRow.holds Try.pinned (OpenSpec.ofChange stallGoneSpec)

/-- ITS FALSE NEIGHBOUR: 'it returns false'. Refute it at one input. -/
def stallGoneWrong : ChangeSpec := { name := "stallGone", fn := fun _ => fun
  | [d1, d2] => { results := [.lit (.bool false)], args := [d1, d2] }
  | _ => none }
def StallGoneWrongFalsely : Prop := stallGoneRow.holds Try.pinned (OpenSpec.ofChange stallGoneWrong)

/-- 'manifoldlaw18.StallLeft': WHATEVER THE INPUT: true; the input reads as it did. -/
def stallLeftSpec : ChangeSpec := { name := "stallLeft", fn := fun _ => fun
  | [d1, d2] => { results := [.lit (.bool true)], args := [d1, d2] }
  | _ => none }
def stallLeftRow : OpenClaim := { program := "ytpkaeamhjfgjcaa", sum := "615e842b429470fadac5cb455d8691ea8a50101f0ed30e6ca0205d59ba66de21", func := "manifold/manifoldlaw18.StallLeft", spec := "stallLeft", unfollowed := true, recurses := true, apart := false }
def StallLeftSaid : Prop := stallLeftRow.holds Try.pinned (OpenSpec.ofChange stallLeftSpec)

/-- ITS FALSE NEIGHBOUR: 'it returns false'. Refute it at one input. -/
def stallLeftWrong : ChangeSpec := { name := "stallLeft", fn := fun _ => fun
  | [d1, d2] => { results := [.lit (.bool false)], args := [d1, d2] }
  | _ => none }
def StallLeftWrongFalsely : Prop := stallLeftRow.holds Try.pinned (OpenSpec.ofChange stallLeftWrong)

/- THE SECOND FORM. 'bulk': how many values and letters a reading holds, each counted each time it is reached (what is shared counts as often as it is met; a slice's spare places count too). A statement '..UptoSaid' is the law's where the arguments, and the package variables that the reading takes, are together of bulk at most 1048576: NARROWER than '..Said'. Prove '..Said' where nothing that the law and all that it calls make is longer than what came in: it says more and counts as full. Else prove '..UptoSaid'. A law counts once. -/
mutual
def uptoBulk {H : Type} : DataW H → Nat
  | .lit (.string bytes) => bytes.length + 1
  | .lit _ => 1
  | .nil => 1
  | .ptr d => uptoBulk d + 1
  | .slice elems spare => uptoBulkAll elems + uptoBulkAll spare + 1
  | .agg parts => uptoBulkAll parts + 1
  | .iface _ d => uptoBulk d + 1
  | .map entries => uptoBulkEntries entries + 1
  | .held _ => 1
def uptoBulkAll {H : Type} : List (DataW H) → Nat
  | [] => 0
  | d :: r => uptoBulk d + uptoBulkAll r
def uptoBulkEntries {H : Type} : List (Lit × DataW H) → Nat
  | [] => 0
  | x :: r => uptoBulkEntry x + uptoBulkEntries r
def uptoBulkEntry {H : Type} : Lit × DataW H → Nat
  | (.string bytes, d) => bytes.length + uptoBulk d + 1
  | (_, d) => uptoBulk d + 1
 end
def uptoSmall : (H : Type) → List (DataW H) → Bool := fun _ ds => decide (uptoBulkAll ds ≤ 1048576)
def OpenSpec.upto (s : _root_.Go.ChangeSpec) : _root_.Go.OpenSpec := { _root_.Go.OpenSpec.ofChange s with cond := some uptoSmall }

/-- 'manifoldlaw18.StallGone', WHERE WHAT IT READS IS OF BULK AT MOST 1048576: true; the input reads as it did. -/
def stallGoneUptoRow : OpenClaim := { program := "ytpkaeamhjfgjcaa", sum := "615e842b429470fadac5cb455d8691ea8a50101f0ed30e6ca0205d59ba66de21", func := "manifold/manifoldlaw18.StallGone", spec := "stallGone", unfollowed := true, recurses := true, apart := false, narrowed := true }
def StallGoneUptoSaid : Prop := stallGoneUptoRow.holds Try.pinned (OpenSpec.upto stallGoneSpec)

/-- 'manifoldlaw18.StallLeft', WHERE WHAT IT READS IS OF BULK AT MOST 1048576: true; the input reads as it did. -/
def stallLeftUptoRow : OpenClaim := { program := "ytpkaeamhjfgjcaa", sum := "615e842b429470fadac5cb455d8691ea8a50101f0ed30e6ca0205d59ba66de21", func := "manifold/manifoldlaw18.StallLeft", spec := "stallLeft", unfollowed := true, recurses := true, apart := false, narrowed := true }
def StallLeftUptoSaid : Prop := stallLeftUptoRow.holds Try.pinned (OpenSpec.upto stallLeftSpec)

end Rows
end Go.Proofs.Ytpkaeamhjfgjcaa
