/-
  No cell of these rows narrows 'for every input' (looked for: loops, veiled, ifaces, maps, wideKeys, modest, calm, conditions, laid).
  DERIVED. THE GIVEN ROWS OF THIS SEAT. 3 by the template 'for every input the law returns true; each argument reads behind the call as it read before'; 0 by the template 'total and deterministic' (their statements: YtpikchnmpdpljaaTotals.lean).
  GIVEN WITH THE SEED: the statements are not yours to turn. If you find one false, say at which input.
  Laid BY PROGRAM, IN A SANDBOX (cutbox-rows.mjs): the forced cells as the released guide's own fill.sh prints them over the translation b933b86391db194b… (all of the seat's roots in one cut). By AI agents, Wed Nov 11 2026. No macro, syntax, notation, axiom, sorry.
-/
import Derived.Test.YtpikchnmpdpljaaChecked
import GoSem.Claim
import GoSem.ClaimJoined
import GoSem.ClaimMapViews
import Derived.JoinedTies
import Derived.KernelRfl
namespace Go.Proofs.Ytpikchnmpdpljaa
/- THE CELL 'sum', in the pinned program and in every row, IS THE sha256 OF THE DUMP (.gsa) THAT YtpikchnmpdpljaaProg.lean LOADS. Nothing in Lean hashes anything: it is a label: what it is worth is what the hold of that sum in a sandbox is worth. -/
noncomputable def Try.pinned : Pinned := { name := "ytpikchnmpdpljaa", sum := "b933b86391db194b70e7c9f648b533f6dcfc8f9c0243f2627efa3c2d04e7661f", checked := Try.checked }
namespace Rows
def none {H : Type} : Left H := { results := [], args := [] }

/-- 'manifoldlaw15.AskTells': WHATEVER THE INPUT: true; the input reads as it did. -/
def askTellsSpec : ChangeSpec := { name := "askTells", fn := fun _ => fun
  | [d1, d2, d3] => { results := [.lit (.bool true)], args := [d1, d2, d3] }
  | _ => none }
def askTellsRow : OpenClaim := { program := "ytpikchnmpdpljaa", sum := "b933b86391db194b70e7c9f648b533f6dcfc8f9c0243f2627efa3c2d04e7661f", func := "manifold/manifoldlaw15.AskTells", spec := "askTells", apart := false }
def AskTellsSaid : Prop := askTellsRow.holds Try.pinned (OpenSpec.ofChange askTellsSpec)

/-- ITS FALSE NEIGHBOUR: 'it returns false'. Refute it at one input. -/
def askTellsWrong : ChangeSpec := { name := "askTells", fn := fun _ => fun
  | [d1, d2, d3] => { results := [.lit (.bool false)], args := [d1, d2, d3] }
  | _ => none }
def AskTellsWrongFalsely : Prop := askTellsRow.holds Try.pinned (OpenSpec.ofChange askTellsWrong)

/-- 'manifoldlaw15.AskSpaces': WHATEVER THE INPUT: true; the input reads as it did. -/
def askSpacesSpec : ChangeSpec := { name := "askSpaces", fn := fun _ => fun
  | [d1, d2] => { results := [.lit (.bool true)], args := [d1, d2] }
  | _ => none }
def askSpacesRow : OpenClaim := { program := "ytpikchnmpdpljaa", sum := "b933b86391db194b70e7c9f648b533f6dcfc8f9c0243f2627efa3c2d04e7661f", func := "manifold/manifoldlaw15.AskSpaces", spec := "askSpaces", apart := false }
def AskSpacesSaid : Prop := askSpacesRow.holds Try.pinned (OpenSpec.ofChange askSpacesSpec)

/-- ITS FALSE NEIGHBOUR: 'it returns false'. Refute it at one input. -/
def askSpacesWrong : ChangeSpec := { name := "askSpaces", fn := fun _ => fun
  | [d1, d2] => { results := [.lit (.bool false)], args := [d1, d2] }
  | _ => none }
def AskSpacesWrongFalsely : Prop := askSpacesRow.holds Try.pinned (OpenSpec.ofChange askSpacesWrong)

/-- 'manifoldlaw15.AskRetries': WHATEVER THE INPUT: true; the input reads as it did. -/
def askRetriesSpec : ChangeSpec := { name := "askRetries", fn := fun _ => fun
  | [d1, d2, d3] => { results := [.lit (.bool true)], args := [d1, d2, d3] }
  | _ => none }
def askRetriesRow : OpenClaim := { program := "ytpikchnmpdpljaa", sum := "b933b86391db194b70e7c9f648b533f6dcfc8f9c0243f2627efa3c2d04e7661f", func := "manifold/manifoldlaw15.AskRetries", spec := "askRetries", apart := false }
def AskRetriesSaid : Prop := askRetriesRow.holds Try.pinned (OpenSpec.ofChange askRetriesSpec)

/-- ITS FALSE NEIGHBOUR: 'it returns false'. Refute it at one input. -/
def askRetriesWrong : ChangeSpec := { name := "askRetries", fn := fun _ => fun
  | [d1, d2, d3] => { results := [.lit (.bool false)], args := [d1, d2, d3] }
  | _ => none }
def AskRetriesWrongFalsely : Prop := askRetriesRow.holds Try.pinned (OpenSpec.ofChange askRetriesWrong)

/- THE SECOND FORM. 'bulk': how many values and letters a reading holds, each counted each time it is reached (what is shared counts as often as it is met; a slice's spare places count too). A statement '..UptoSaid' is the law's where the arguments, and the package variables that the reading takes, are together of bulk at most 1048576: NARROWER than '..Said'. Prove '..Said' where nothing that the law and all that it calls make is longer than what came in: it says more and counts as full. Else prove '..UptoSaid'. A law counts once. -/
mutual
def uptoBulk {H : Type} : DataW H → Nat
  | .lit (.string bytes) => bytes.length + 1
  | .lit _ => 1
  | .nil => 1
  | .ptr d => uptoBulk d + 1
  | .slice elems spare => uptoBulkAll elems + uptoBulkAll spare + 1
  | .agg parts => uptoBulkAll parts + 1
  | .iface _ d => uptoBulk d + 1
  | .map entries => uptoBulkEntries entries + 1
  | .held _ => 1
def uptoBulkAll {H : Type} : List (DataW H) → Nat
  | [] => 0
  | d :: r => uptoBulk d + uptoBulkAll r
def uptoBulkEntries {H : Type} : List (Lit × DataW H) → Nat
  | [] => 0
  | x :: r => uptoBulkEntry x + uptoBulkEntries r
def uptoBulkEntry {H : Type} : Lit × DataW H → Nat
  | (.string bytes, d) => bytes.length + uptoBulk d + 1
  | (_, d) => uptoBulk d + 1
 end
def uptoSmall : (H : Type) → List (DataW H) → Bool := fun _ ds => decide (uptoBulkAll ds ≤ 1048576)
def OpenSpec.upto (s : _root_.Go.ChangeSpec) : _root_.Go.OpenSpec := { _root_.Go.OpenSpec.ofChange s with cond := some uptoSmall }

/-- 'manifoldlaw15.AskTells', WHERE WHAT IT READS IS OF BULK AT MOST 1048576: true; the input reads as it did. -/
def askTellsUptoRow : OpenClaim := { program := "ytpikchnmpdpljaa", sum := "b933b86391db194b70e7c9f648b533f6dcfc8f9c0243f2627efa3c2d04e7661f", func := "manifold/manifoldlaw15.AskTells", spec := "askTells", apart := false, narrowed := true }
def AskTellsUptoSaid : Prop := askTellsUptoRow.holds Try.pinned (OpenSpec.upto askTellsSpec)

/-- 'manifoldlaw15.AskSpaces', WHERE WHAT IT READS IS OF BULK AT MOST 1048576: true; the input reads as it did. -/
def askSpacesUptoRow : OpenClaim := { program := "ytpikchnmpdpljaa", sum := "b933b86391db194b70e7c9f648b533f6dcfc8f9c0243f2627efa3c2d04e7661f", func := "manifold/manifoldlaw15.AskSpaces", spec := "askSpaces", apart := false, narrowed := true }
def AskSpacesUptoSaid : Prop := askSpacesUptoRow.holds Try.pinned (OpenSpec.upto askSpacesSpec)

/-- 'manifoldlaw15.AskRetries', WHERE WHAT IT READS IS OF BULK AT MOST 1048576: true; the input reads as it did. -/
def askRetriesUptoRow : OpenClaim := { program := "ytpikchnmpdpljaa", sum := "b933b86391db194b70e7c9f648b533f6dcfc8f9c0243f2627efa3c2d04e7661f", func := "manifold/manifoldlaw15.AskRetries", spec := "askRetries", apart := false, narrowed := true }
def AskRetriesUptoSaid : Prop := askRetriesUptoRow.holds Try.pinned (OpenSpec.upto askRetriesSpec)

end Rows
end Go.Proofs.Ytpikchnmpdpljaa
