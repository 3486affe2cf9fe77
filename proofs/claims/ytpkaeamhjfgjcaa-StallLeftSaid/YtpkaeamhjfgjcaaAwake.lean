/- awake: the calls whose answers the document fixes. -/
import Derived.Test.YtpkaeamhjfgjcaaWalks
namespace Go.Proofs.Ytpkaeamhjfgjcaa
open Go.ChangeShapes Go.WideShapes Go.ChangeAt Go.RowKit
set_option linter.unusedVariables false

set_option maxRecDepth 100000 in
set_option maxHeartbeats 1000000 in
theorem awake_true (w : World) : Calls Try.prog 5 #[] w fun e w' => e = .returned (.bool true) ∧ Below w.heap.size w w' := by
  have d := Below.refl w.heap.size w
  go_enter Try.func5, Try.ntmps5
  go_wp2_with fail
  refine (start_in _ _ (by omega) (by omega)).mono ?_
  rintro e w1 ⟨rfl, b⟩
  replace d := bl_step d b
  clear b
  go_wp2_with fail
  refine (start_out _ _ (by omega)).mono ?_
  rintro e w2 ⟨rfl, b⟩
  have Bs := Blk.born b; have cs := Bs.cell; have zs := Bs.lt; have fs := Bs.frozen
  replace d := bl_after d b
  clear b
  go_wp2_with fail
  refine (offer_no _ _ false _ (by omega) (by omega) (by decide)).mono ?_
  rintro e w3 ⟨rfl, b⟩
  replace Bs := Bs.after b; replace cs := Bs.cell; replace fs := Bs.frozen; replace zs := Bs.lt
  replace d := bl_after d b
  clear b
  go_wp2_with fail
  have k3 := zs; have K3 := d.size
  refine (offer_yes _ _ _).mono ?_
  rintro e w4 ⟨rfl, b⟩
  replace Bs := Bs.after b; replace cs := Bs.cell; replace fs := Bs.frozen; replace zs := Bs.lt
  have Bt := Blk.born b; have ct := Bt.cell; have zt := Bt.lt; have ft := Bt.frozen
  replace d := bl_after d b
  clear b
  go_wp2_with fail
  have k4 := zt
  refine (offer_no _ _ false _ (by omega) (by omega) (by decide)).mono ?_
  rintro e w5 ⟨rfl, b⟩
  replace Bs := Bs.after b; replace cs := Bs.cell; replace fs := Bs.frozen; replace zs := Bs.lt
  replace Bt := Bt.after b; replace ct := Bt.cell; replace ft := Bt.frozen; replace zt := Bt.lt
  have Bu := Blk.born b; have cu := Bu.cell; have zu := Bu.lt; have fu := Bu.frozen
  replace d := bl_after d b
  clear b
  go_wp2_with fail
  have ne1 : ¬ (w1.heap.size = w3.heap.size) := by omega
  have ne2 : ¬ (w4.heap.size = w3.heap.size) := by omega
  have k5 := d.size; have k6 : w.heap.size ≤ w3.heap.size := K3
  refine calls_name (fun W => Blk W w1.heap.size 25 #[.int .i64 2, .int .i64 0, .bool false] ∧ Blk W w3.heap.size 25 #[.int .i64 2, .int .i64 1, .bool false] ∧ Blk W w4.heap.size 25 #[.int .i64 2, .int .i64 0, .bool false] ∧ Below w.heap.size w W) ⟨?_, ?_, ?_, ?_⟩ ?_
  · exact ((Bs.far (by simp; omega) _).far (by simp; omega) _).far (by simp; omega) _
  · exact ((Bt.set_ 0 _).set_ 1 _).set_ 2 _
  · exact ((Bu.far (by simp; omega) _).far (by simp; omega) _).far (by simp; omega) _
  · exact ((d.setCell (by simp; omega) _).setCell (by simp; omega) _).setCell (by simp; omega) _
  clear Bs cs zs fs Bt ct zt ft Bu cu zu fu d
  rintro W ⟨Bs, Bt, Bu, d⟩
  have cs := Bs.cell; have fs := Bs.frozen; have zs := Bs.lt; have ct := Bt.cell; have ft := Bt.frozen; have zt := Bt.lt; have cu := Bu.cell; have fu := Bu.frozen; have zu := Bu.lt
  refine (offer_no _ _ true _ (by omega) (by omega) (by decide)).mono ?_
  rintro e w6 ⟨rfl, b⟩
  replace Bs := Bs.kept b; replace cs := Bs.cell; replace fs := Bs.frozen; replace zs := Bs.lt
  replace Bt := Bt.kept b; replace ct := Bt.cell; replace ft := Bt.frozen; replace zt := Bt.lt
  replace Bu := Bu.kept b; replace cu := Bu.cell; replace fu := Bu.frozen; replace zu := Bu.lt
  replace d := bl_step d b
  clear b
  go_wp2_with fail
  refine (offer_gone _ _ _ _).mono ?_
  rintro e w7 ⟨rfl, b⟩
  replace Bs := Bs.after b; replace cs := Bs.cell; replace fs := Bs.frozen; replace zs := Bs.lt
  replace Bt := Bt.after b; replace ct := Bt.cell; replace ft := Bt.frozen; replace zt := Bt.lt
  replace Bu := Bu.after b; replace cu := Bu.cell; replace fu := Bu.frozen; replace zu := Bu.lt
  have Bv := Blk.born b; have cv := Bv.cell; have zv := Bv.lt; have fv := Bv.frozen
  replace d := bl_after d b
  clear b
  go_wp2_with fail
  refine (left_any _ _ _ (by omega) (by omega) (by omega) (by omega)).mono ?_
  rintro e w8 ⟨rfl, rfl⟩
  have k7 := d.size
  go_wp2_with fail
  go_ret
  refine ⟨rfl, ?_⟩
  repeat (first | (with_reducible exact d) | (with_reducible refine Below.drew ?_) | ((with_reducible refine Below.alloc ?_ ?hh _); case hh => (first | omega | (simp; omega) | simp)))
end Go.Proofs.Ytpkaeamhjfgjcaa
