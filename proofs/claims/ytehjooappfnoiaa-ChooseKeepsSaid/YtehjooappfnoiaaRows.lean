/-
  No cell of these rows narrows 'for every input' (looked for: loops, veiled, ifaces, maps, wideKeys, modest, calm, conditions, laid).
  DERIVED. THE GIVEN ROWS OF THIS SEAT. 3 by the template 'for every input the law returns true; each argument reads behind the call as it read before'; 0 by the template 'total and deterministic' (their statements: YtehjooappfnoiaaTotals.lean).
  GIVEN WITH THE SEED: the statements are not yours to turn. If you find one false, say at which input.
  Laid BY PROGRAM, IN A SANDBOX (cutbox-rows.mjs): the forced cells as the released guide's own fill.sh prints them over the translation ab9e25878bb2b9de… (all of the seat's roots in one cut). By AI agents, Wed Nov 11 2026. No macro, syntax, notation, axiom, sorry.
-/
import Derived.Test.YtehjooappfnoiaaChecked
import GoSem.Claim
import GoSem.ClaimJoined
import GoSem.ClaimMapViews
import Derived.JoinedTies
import Derived.KernelRfl
namespace Go.Proofs.Ytehjooappfnoiaa
/- THE CELL 'sum', in the pinned program and in every row, IS THE sha256 OF THE DUMP (.gsa) THAT YtehjooappfnoiaaProg.lean LOADS. Nothing in Lean hashes anything: it is a label: what it is worth is what the hold of that sum in a sandbox is worth. -/
noncomputable def Try.pinned : Pinned := { name := "ytehjooappfnoiaa", sum := "ab9e25878bb2b9ded798d1d4ba8069ee970f4ad934647d10a6d8a549c035c502", checked := Try.checked }
namespace Rows
def none {H : Type} : Left H := { results := [], args := [] }

/-- 'manifoldlaw16.ChooseTells': WHATEVER THE INPUT: true; the input reads as it did. -/
def chooseTellsSpec : ChangeSpec := { name := "chooseTells", fn := fun _ => fun
  | [d1, d2, d3, d4] => { results := [.lit (.bool true)], args := [d1, d2, d3, d4] }
  | _ => none }
def chooseTellsRow : OpenClaim := { program := "ytehjooappfnoiaa", sum := "ab9e25878bb2b9ded798d1d4ba8069ee970f4ad934647d10a6d8a549c035c502", func := "manifold/manifoldlaw16.ChooseTells", spec := "chooseTells", apart := false }
def ChooseTellsSaid : Prop := chooseTellsRow.holds Try.pinned (OpenSpec.ofChange chooseTellsSpec)

/-- ITS FALSE NEIGHBOUR: 'it returns false'. Refute it at one input. -/
def chooseTellsWrong : ChangeSpec := { name := "chooseTells", fn := fun _ => fun
  | [d1, d2, d3, d4] => { results := [.lit (.bool false)], args := [d1, d2, d3, d4] }
  | _ => none }
def ChooseTellsWrongFalsely : Prop := chooseTellsRow.holds Try.pinned (OpenSpec.ofChange chooseTellsWrong)

/-- 'manifoldlaw16.ChooseSwitches': WHATEVER THE INPUT: true; the input reads as it did. -/
def chooseSwitchesSpec : ChangeSpec := { name := "chooseSwitches", fn := fun _ => fun
  | [d1, d2] => { results := [.lit (.bool true)], args := [d1, d2] }
  | _ => none }
def chooseSwitchesRow : OpenClaim := { program := "ytehjooappfnoiaa", sum := "ab9e25878bb2b9ded798d1d4ba8069ee970f4ad934647d10a6d8a549c035c502", func := "manifold/manifoldlaw16.ChooseSwitches", spec := "chooseSwitches", apart := false }
def ChooseSwitchesSaid : Prop := chooseSwitchesRow.holds Try.pinned (OpenSpec.ofChange chooseSwitchesSpec)

/-- ITS FALSE NEIGHBOUR: 'it returns false'. Refute it at one input. -/
def chooseSwitchesWrong : ChangeSpec := { name := "chooseSwitches", fn := fun _ => fun
  | [d1, d2] => { results := [.lit (.bool false)], args := [d1, d2] }
  | _ => none }
def ChooseSwitchesWrongFalsely : Prop := chooseSwitchesRow.holds Try.pinned (OpenSpec.ofChange chooseSwitchesWrong)

/-- 'manifoldlaw16.ChooseKeeps': WHATEVER THE INPUT: true; the input reads as it did. -/
def chooseKeepsSpec : ChangeSpec := { name := "chooseKeeps", fn := fun _ => fun
  | [d1, d2] => { results := [.lit (.bool true)], args := [d1, d2] }
  | _ => none }
def chooseKeepsRow : OpenClaim := { program := "ytehjooappfnoiaa", sum := "ab9e25878bb2b9ded798d1d4ba8069ee970f4ad934647d10a6d8a549c035c502", func := "manifold/manifoldlaw16.ChooseKeeps", spec := "chooseKeeps", apart := false }
def ChooseKeepsSaid : Prop := chooseKeepsRow.holds Try.pinned (OpenSpec.ofChange chooseKeepsSpec)

/-- ITS FALSE NEIGHBOUR: 'it returns false'. Refute it at one input. -/
def chooseKeepsWrong : ChangeSpec := { name := "chooseKeeps", fn := fun _ => fun
  | [d1, d2] => { results := [.lit (.bool false)], args := [d1, d2] }
  | _ => none }
def ChooseKeepsWrongFalsely : Prop := chooseKeepsRow.holds Try.pinned (OpenSpec.ofChange chooseKeepsWrong)

/- THE SECOND FORM. 'bulk': how many values and letters a reading holds, each counted each time it is reached (what is shared counts as often as it is met; a slice's spare places count too). A statement '..UptoSaid' is the law's where the arguments, and the package variables that the reading takes, are together of bulk at most 1048576: NARROWER than '..Said'. Prove '..Said' where nothing that the law and all that it calls make is longer than what came in: it says more and counts as full. Else prove '..UptoSaid'. A law counts once. -/
mutual
def uptoBulk {H : Type} : DataW H → Nat
  | .lit (.string bytes) => bytes.length + 1
  | .lit _ => 1
  | .nil => 1
  | .ptr d => uptoBulk d + 1
  | .slice elems spare => uptoBulkAll elems + uptoBulkAll spare + 1
  | .agg parts => uptoBulkAll parts + 1
  | .iface _ d => uptoBulk d + 1
  | .map entries => uptoBulkEntries entries + 1
  | .held _ => 1
def uptoBulkAll {H : Type} : List (DataW H) → Nat
  | [] => 0
  | d :: r => uptoBulk d + uptoBulkAll r
def uptoBulkEntries {H : Type} : List (Lit × DataW H) → Nat
  | [] => 0
  | x :: r => uptoBulkEntry x + uptoBulkEntries r
def uptoBulkEntry {H : Type} : Lit × DataW H → Nat
  | (.string bytes, d) => bytes.length + uptoBulk d + 1
  | (_, d) => uptoBulk d + 1
 end
def uptoSmall : (H : Type) → List (DataW H) → Bool := fun _ ds => decide (uptoBulkAll ds ≤ 1048576)
def OpenSpec.upto (s : _root_.Go.ChangeSpec) : _root_.Go.OpenSpec := { _root_.Go.OpenSpec.ofChange s with cond := some uptoSmall }

/-- 'manifoldlaw16.ChooseTells', WHERE WHAT IT READS IS OF BULK AT MOST 1048576: true; the input reads as it did. -/
def chooseTellsUptoRow : OpenClaim := { program := "ytehjooappfnoiaa", sum := "ab9e25878bb2b9ded798d1d4ba8069ee970f4ad934647d10a6d8a549c035c502", func := "manifold/manifoldlaw16.ChooseTells", spec := "chooseTells", apart := false, narrowed := true }
def ChooseTellsUptoSaid : Prop := chooseTellsUptoRow.holds Try.pinned (OpenSpec.upto chooseTellsSpec)

/-- 'manifoldlaw16.ChooseSwitches', WHERE WHAT IT READS IS OF BULK AT MOST 1048576: true; the input reads as it did. -/
def chooseSwitchesUptoRow : OpenClaim := { program := "ytehjooappfnoiaa", sum := "ab9e25878bb2b9ded798d1d4ba8069ee970f4ad934647d10a6d8a549c035c502", func := "manifold/manifoldlaw16.ChooseSwitches", spec := "chooseSwitches", apart := false, narrowed := true }
def ChooseSwitchesUptoSaid : Prop := chooseSwitchesUptoRow.holds Try.pinned (OpenSpec.upto chooseSwitchesSpec)

/-- 'manifoldlaw16.ChooseKeeps', WHERE WHAT IT READS IS OF BULK AT MOST 1048576: true; the input reads as it did. -/
def chooseKeepsUptoRow : OpenClaim := { program := "ytehjooappfnoiaa", sum := "ab9e25878bb2b9ded798d1d4ba8069ee970f4ad934647d10a6d8a549c035c502", func := "manifold/manifoldlaw16.ChooseKeeps", spec := "chooseKeeps", apart := false, narrowed := true }
def ChooseKeepsUptoSaid : Prop := chooseKeepsUptoRow.holds Try.pinned (OpenSpec.upto chooseKeepsSpec)

end Rows
end Go.Proofs.Ytehjooappfnoiaa
