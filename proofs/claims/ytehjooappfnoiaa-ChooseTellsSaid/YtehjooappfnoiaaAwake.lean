/- awake: the calls whose answers the document fixes. -/
import Derived.Test.YtehjooappfnoiaaWalks
namespace Go.Proofs.Ytehjooappfnoiaa
open Go.ChangeShapes Go.WideShapes Go.ChangeAt Go.RowKit
set_option linter.unusedVariables false

set_option maxHeartbeats 1000000 in
theorem awake_true (w : World) : Calls Try.prog 6 #[] w fun e w' => e = .returned (.bool true) ∧ Below w.heap.size w w' := by
  have t1 : tkC 0 2 2 true = 2 ∧ tkF 0 2 2 true = 0 ∧ tkX 0 2 2 true = true := by decide
  have t2 : tkC (-1) 2 2 false = -1 ∧ tkF (-1) 2 2 false = 5 ∧ tkX (-1) 2 2 false = false := by decide
  have t3 : tkF 2 1 0 true = 4 := by decide
  have p1 : pend 2 1 = true := by decide
  have p2 : pend 2 2 = false := by decide
  obtain ⟨t1, t1', t1''⟩ := t1
  obtain ⟨t2, t2', t2''⟩ := t2
  have d := Below.refl w.heap.size w
  go_enter Try.func6, Try.ntmps6
  go_wp2_with fail
  refine (start_in _ _ (by omega) (by omega)).mono ?_
  rintro e w1 ⟨rfl, b⟩
  replace d := bl_step d b
  clear b
  go_wp2_with fail
  refine (start_out _ _ (by omega)).mono ?_
  rintro e w2 ⟨rfl, b⟩
  have Bs := Blk.born b; have cs := Bs.cell; have zs := Bs.lt
  replace d := bl_after d b
  clear b
  go_wp2_with fail
  refine (take_any _ _ _ _ _).mono ?_
  rintro e w3 ⟨rfl, b⟩
  replace Bs := Bs.after b; replace cs := Bs.cell; replace zs := Bs.lt
  replace d := bl_after d b
  clear b
  simp only [t1, t1', t1'']
  go_wp2_with fail
  refine (take_any _ _ _ _ _).mono ?_
  rintro e w4 ⟨rfl, b⟩
  replace Bs := Bs.after b; replace cs := Bs.cell; replace zs := Bs.lt
  have Bt := Blk.born b; have ct := Bt.cell; have zt := Bt.lt
  replace d := bl_after d b
  clear b
  simp only [t2, t2', t2'']
  go_wp2_with fail
  refine (want_in _ _ _ _ (by omega) (by omega)).mono ?_
  rintro e w5 ⟨rfl, b⟩
  replace Bs := Bs.after b; replace cs := Bs.cell; replace zs := Bs.lt
  replace Bt := Bt.after b; replace ct := Bt.cell; replace zt := Bt.lt
  have Bu := Blk.born b; have cu := Bu.cell; have zu := Bu.lt
  replace d := bl_after d b
  clear b
  go_wp2_with fail
  refine (take_any _ _ _ _ _).mono ?_
  rintro e w6 ⟨rfl, b⟩
  replace Bs := Bs.after b; replace cs := Bs.cell; replace zs := Bs.lt
  replace Bt := Bt.after b; replace ct := Bt.cell; replace zt := Bt.lt
  replace Bu := Bu.after b; replace cu := Bu.cell; replace zu := Bu.lt
  have Bv := Blk.born b; have cv := Bv.cell; have zv := Bv.lt
  replace d := bl_after d b
  clear b
  simp only [t3]
  go_wp2_with fail
  refine (pending_any _ _ _).mono ?_
  rintro e w7 ⟨rfl, b⟩
  replace Bs := Bs.after b; replace cs := Bs.cell; replace zs := Bs.lt
  replace Bt := Bt.after b; replace ct := Bt.cell; replace zt := Bt.lt
  replace Bu := Bu.after b; replace cu := Bu.cell; replace zu := Bu.lt
  replace Bv := Bv.after b; replace cv := Bv.cell; replace zv := Bv.lt
  replace d := bl_after d b
  clear b
  simp only [p1]
  go_wp2_with fail
  refine (pending_any _ _ _).mono ?_
  rintro e w8 ⟨rfl, b⟩
  replace Bs := Bs.kept b; replace cs := Bs.cell; replace zs := Bs.lt
  replace Bt := Bt.kept b; replace ct := Bt.cell; replace zt := Bt.lt
  replace Bu := Bu.kept b; replace cu := Bu.cell; replace zu := Bu.lt
  replace Bv := Bv.kept b; replace cv := Bv.cell; replace zv := Bv.lt
  replace d := bl_step d b
  clear b
  simp only [p2]
  go_wp2_with fail
  go_ret
  exact ⟨rfl, d⟩
end Go.Proofs.Ytehjooappfnoiaa
