/- Step, of the program and of the document: three ways each. -/
import Derived.Test.YtpikchnmpdpljaaWalks
namespace Go.Proofs.Ytpikchnmpdpljaa
open Go.ChangeShapes Go.WideShapes Go.ChangeAt Go.RowKit
set_option linter.unusedVariables false

/-- the tries behind which a gap is asked for, where a keyframe is wanted -/
def t0 (wa : Bool) (tr : Int) : Int := if wa then tr else 0
set_option maxHeartbeats 1000000 in
theorem step_off_t (S R : Int) (an : Bool) (la tr now : Int) (w : World) (h0 : 1 ≤ S) (h1 : S ≤ R) (h2 : R ≤ 1000) (la0 : 0 ≤ la) (la1 : la ≤ 1000000) (n0 : 0 ≤ now) (n1 : now ≤ 1000000) (tr0 : 0 ≤ tr) (tr1 : tr ≤ 1000000) :
    Calls Try.prog 11 #[ruV S R, stV true an la tr, .bool false, .int .i64 now] w fun e w' => e = .returned (.tuple #[stV false an la 0, .bool false]) ∧ Below w.heap.size w w' := by
  go_enter Try.func11, Try.ntmps11
  go_wp2_with fail
  go_quiet (fail)
  go_wp2_with fail
  all_goals
   refine bodyPost_ret (v := .tuple #[stV false an la 0, .bool false]) (by simp [results, Try.results11, go_sem]) rfl ⟨rfl, ?_⟩
   repeat (first | (with_reducible exact Below.refl _ _) | (with_reducible refine Below.drew ?_) | (with_reducible refine bl_drewN' ?_ _) | ((with_reducible refine Below.alloc ?_ ?hh _); case hh => (first | omega | (simp; omega) | simp)) | ((with_reducible refine Below.setCell ?_ ?hh _); case hh => (first | omega | (simp; omega) | simp)))
set_option maxHeartbeats 1000000 in
theorem step_off_f (S R : Int) (an : Bool) (la tr now : Int) (w : World) (h0 : 1 ≤ S) (h1 : S ≤ R) (h2 : R ≤ 1000) (la0 : 0 ≤ la) (la1 : la ≤ 1000000) (n0 : 0 ≤ now) (n1 : now ≤ 1000000) (tr0 : 0 ≤ tr) (tr1 : tr ≤ 1000000) :
    Calls Try.prog 11 #[ruV S R, stV false an la tr, .bool false, .int .i64 now] w fun e w' => e = .returned (.tuple #[stV false an la 0, .bool false]) ∧ Below w.heap.size w w' := by
  go_enter Try.func11, Try.ntmps11
  go_wp2_with fail
  go_quiet (fail)
  go_wp2_with fail
  all_goals
   refine bodyPost_ret (v := .tuple #[stV false an la 0, .bool false]) (by simp [results, Try.results11, go_sem]) rfl ⟨rfl, ?_⟩
   repeat (first | (with_reducible exact Below.refl _ _) | (with_reducible refine Below.drew ?_) | (with_reducible refine bl_drewN' ?_ _) | ((with_reducible refine Below.alloc ?_ ?hh _); case hh => (first | omega | (simp; omega) | simp)) | ((with_reducible refine Below.setCell ?_ ?hh _); case hh => (first | omega | (simp; omega) | simp)))
set_option maxHeartbeats 1000000 in
theorem step_wait_t (S R : Int) (an : Bool) (la tr now : Int) (w : World) (h0 : 1 ≤ S) (h1 : S ≤ R) (h2 : R ≤ 1000) (la0 : 0 ≤ la) (la1 : la ≤ 1000000) (n0 : 0 ≤ now) (n1 : now ≤ 1000000) (tr0 : 0 ≤ tr) (tr1 : tr ≤ 1000000) (ha : Hid (now - la < gapV S R tr)) :
    Calls Try.prog 11 #[ruV S R, stV true true la tr, .bool true, .int .i64 now] w fun e w' => e = .returned (.tuple #[stV true true la tr, .bool false]) ∧ Below w.heap.size w w' := by
  have gb := gapV_bd (t := tr) h0 h1
  have G := Lib.hid (fun W => gap_any S R tr W h0 h1 h2)
  generalize gapV S R tr = gv at ha gb G
  have ha2 := ha.out; clear ha
  have gd : decide (now - la < gv) = true := by simp; omega
  have gd2 : decide (now < la + gv) = true := by simp; omega
  obtain ⟨gb0, gb1⟩ := gb
  have wr1 : IntKind.i64.wrap (now - la) = now - la := IntWalk.i64_in _ ⟨by omega, by omega⟩
  go_enter Try.func11, Try.ntmps11
  go_wp2_with fail
  go_region_held3 (fun W => W.cell? ⟨w.heap.size, 0, none⟩ = some (.int .i64 S) ∧ W.cell? ⟨w.heap.size, 1, none⟩ = some (.int .i64 R) ∧ W.cell? ⟨w.heap.size + 1, 1, none⟩ = some (.bool true) ∧ W.cell? ⟨w.heap.size + 1, 2, none⟩ = some (.int .i64 la) ∧ W.cell? ⟨w.heap.size + 1, 3, none⟩ = some (.int .i64 tr)) (simp [go_sem]) (first | (go_at_call 9; refine (G.out _).mono ?_; rintro e w' ⟨rfl, rfl⟩))
  go_wp2_with fail
  all_goals
   refine bodyPost_ret (v := .tuple #[stV true true la tr, .bool false]) (by simp [results, Try.results11, go_sem]) rfl ⟨rfl, ?_⟩
   repeat (first | (with_reducible exact Below.refl _ _) | (with_reducible refine Below.drew ?_) | (with_reducible refine bl_drewN' ?_ _) | ((with_reducible refine Below.alloc ?_ ?hh _); case hh => (first | omega | (simp; omega) | simp)) | ((with_reducible refine Below.setCell ?_ ?hh _); case hh => (first | omega | (simp; omega) | simp)))
set_option maxHeartbeats 1000000 in
theorem step_wait_f (S R : Int) (an : Bool) (la tr now : Int) (w : World) (h0 : 1 ≤ S) (h1 : S ≤ R) (h2 : R ≤ 1000) (la0 : 0 ≤ la) (la1 : la ≤ 1000000) (n0 : 0 ≤ now) (n1 : now ≤ 1000000) (tr0 : 0 ≤ tr) (tr1 : tr ≤ 1000000) (ha : Hid (now - la < gapV S R 0)) :
    Calls Try.prog 11 #[ruV S R, stV false true la tr, .bool true, .int .i64 now] w fun e w' => e = .returned (.tuple #[stV true true la 0, .bool false]) ∧ Below w.heap.size w w' := by
  have gb := gapV_bd (t := 0) h0 h1
  have G := Lib.hid (fun W => gap_any S R 0 W h0 h1 h2)
  generalize gapV S R 0 = gv at ha gb G
  have ha2 := ha.out; clear ha
  have gd : decide (now - la < gv) = true := by simp; omega
  have gd2 : decide (now < la + gv) = true := by simp; omega
  obtain ⟨gb0, gb1⟩ := gb
  have wr1 : IntKind.i64.wrap (now - la) = now - la := IntWalk.i64_in _ ⟨by omega, by omega⟩
  go_enter Try.func11, Try.ntmps11
  go_wp2_with fail
  go_region_held3 (fun W => W.cell? ⟨w.heap.size, 0, none⟩ = some (.int .i64 S) ∧ W.cell? ⟨w.heap.size, 1, none⟩ = some (.int .i64 R) ∧ W.cell? ⟨w.heap.size + 1, 1, none⟩ = some (.bool true) ∧ W.cell? ⟨w.heap.size + 1, 2, none⟩ = some (.int .i64 la) ∧ W.cell? ⟨w.heap.size + 1, 3, none⟩ = some (.int .i64 0)) (simp [go_sem]) (first | (go_at_call 9; refine (G.out _).mono ?_; rintro e w' ⟨rfl, rfl⟩))
  go_wp2_with fail
  all_goals
   refine bodyPost_ret (v := .tuple #[stV true true la 0, .bool false]) (by simp [results, Try.results11, go_sem]) rfl ⟨rfl, ?_⟩
   repeat (first | (with_reducible exact Below.refl _ _) | (with_reducible refine Below.drew ?_) | (with_reducible refine bl_drewN' ?_ _) | ((with_reducible refine Below.alloc ?_ ?hh _); case hh => (first | omega | (simp; omega) | simp)) | ((with_reducible refine Below.setCell ?_ ?hh _); case hh => (first | omega | (simp; omega) | simp)))
set_option maxHeartbeats 1000000 in
theorem step_first_t (S R : Int) (an : Bool) (la tr now : Int) (w : World) (h0 : 1 ≤ S) (h1 : S ≤ R) (h2 : R ≤ 1000) (la0 : 0 ≤ la) (la1 : la ≤ 1000000) (n0 : 0 ≤ now) (n1 : now ≤ 1000000) (tr0 : 0 ≤ tr) (tr1 : tr ≤ 1000000) :
    Calls Try.prog 11 #[ruV S R, stV true false la tr, .bool true, .int .i64 now] w fun e w' => e = .returned (.tuple #[stV true true now (tr + 1), .bool true]) ∧ Below w.heap.size w w' := by
  go_enter Try.func11, Try.ntmps11
  go_wp2_with fail
  go_quiet (fail)
  go_wp2_with fail
  all_goals
   refine bodyPost_ret (v := .tuple #[stV true true now (tr + 1), .bool true]) (by simp [results, Try.results11, go_sem]) rfl ⟨rfl, ?_⟩
   repeat (first | (with_reducible exact Below.refl _ _) | (with_reducible refine Below.drew ?_) | (with_reducible refine bl_drewN' ?_ _) | ((with_reducible refine Below.alloc ?_ ?hh _); case hh => (first | omega | (simp; omega) | simp)) | ((with_reducible refine Below.setCell ?_ ?hh _); case hh => (first | omega | (simp; omega) | simp)))
set_option maxHeartbeats 1000000 in
theorem step_first_f (S R : Int) (an : Bool) (la tr now : Int) (w : World) (h0 : 1 ≤ S) (h1 : S ≤ R) (h2 : R ≤ 1000) (la0 : 0 ≤ la) (la1 : la ≤ 1000000) (n0 : 0 ≤ now) (n1 : now ≤ 1000000) (tr0 : 0 ≤ tr) (tr1 : tr ≤ 1000000) :
    Calls Try.prog 11 #[ruV S R, stV false false la tr, .bool true, .int .i64 now] w fun e w' => e = .returned (.tuple #[stV true true now (0 + 1), .bool true]) ∧ Below w.heap.size w w' := by
  go_enter Try.func11, Try.ntmps11
  go_wp2_with fail
  go_quiet (fail)
  go_wp2_with fail
  all_goals
   refine bodyPost_ret (v := .tuple #[stV true true now (0 + 1), .bool true]) (by simp [results, Try.results11, go_sem]) rfl ⟨rfl, ?_⟩
   repeat (first | (with_reducible exact Below.refl _ _) | (with_reducible refine Below.drew ?_) | (with_reducible refine bl_drewN' ?_ _) | ((with_reducible refine Below.alloc ?_ ?hh _); case hh => (first | omega | (simp; omega) | simp)) | ((with_reducible refine Below.setCell ?_ ?hh _); case hh => (first | omega | (simp; omega) | simp)))
set_option maxHeartbeats 1000000 in
theorem step_again_t (S R : Int) (an : Bool) (la tr now : Int) (w : World) (h0 : 1 ≤ S) (h1 : S ≤ R) (h2 : R ≤ 1000) (la0 : 0 ≤ la) (la1 : la ≤ 1000000) (n0 : 0 ≤ now) (n1 : now ≤ 1000000) (tr0 : 0 ≤ tr) (tr1 : tr ≤ 1000000) (ha : Hid (gapV S R tr ≤ now - la)) :
    Calls Try.prog 11 #[ruV S R, stV true true la tr, .bool true, .int .i64 now] w fun e w' => e = .returned (.tuple #[stV true true now (tr + 1), .bool true]) ∧ Below w.heap.size w w' := by
  have gb := gapV_bd (t := tr) h0 h1
  have G := Lib.hid (fun W => gap_any S R tr W h0 h1 h2)
  generalize gapV S R tr = gv at ha gb G
  have ha2 := ha.out; clear ha
  have gd : decide (now - la < gv) = false := by simp; omega
  have gd2 : decide (now < la + gv) = false := by simp; omega
  obtain ⟨gb0, gb1⟩ := gb
  have wr1 : IntKind.i64.wrap (now - la) = now - la := IntWalk.i64_in _ ⟨by omega, by omega⟩
  go_enter Try.func11, Try.ntmps11
  go_wp2_with fail
  go_region_held3 (fun W => W.cell? ⟨w.heap.size, 0, none⟩ = some (.int .i64 S) ∧ W.cell? ⟨w.heap.size, 1, none⟩ = some (.int .i64 R) ∧ W.cell? ⟨w.heap.size + 1, 1, none⟩ = some (.bool true) ∧ W.cell? ⟨w.heap.size + 1, 2, none⟩ = some (.int .i64 la) ∧ W.cell? ⟨w.heap.size + 1, 3, none⟩ = some (.int .i64 tr)) (simp [go_sem]) (first | (go_at_call 9; refine (G.out _).mono ?_; rintro e w' ⟨rfl, rfl⟩))
  go_wp2_with fail
  all_goals
   refine bodyPost_ret (v := .tuple #[stV true true now (tr + 1), .bool true]) (by simp [results, Try.results11, go_sem]) rfl ⟨rfl, ?_⟩
   repeat (first | (with_reducible exact Below.refl _ _) | (with_reducible refine Below.drew ?_) | (with_reducible refine bl_drewN' ?_ _) | ((with_reducible refine Below.alloc ?_ ?hh _); case hh => (first | omega | (simp; omega) | simp)) | ((with_reducible refine Below.setCell ?_ ?hh _); case hh => (first | omega | (simp; omega) | simp)))
set_option maxHeartbeats 1000000 in
theorem step_again_f (S R : Int) (an : Bool) (la tr now : Int) (w : World) (h0 : 1 ≤ S) (h1 : S ≤ R) (h2 : R ≤ 1000) (la0 : 0 ≤ la) (la1 : la ≤ 1000000) (n0 : 0 ≤ now) (n1 : now ≤ 1000000) (tr0 : 0 ≤ tr) (tr1 : tr ≤ 1000000) (ha : Hid (gapV S R 0 ≤ now - la)) :
    Calls Try.prog 11 #[ruV S R, stV false true la tr, .bool true, .int .i64 now] w fun e w' => e = .returned (.tuple #[stV true true now (0 + 1), .bool true]) ∧ Below w.heap.size w w' := by
  have gb := gapV_bd (t := 0) h0 h1
  have G := Lib.hid (fun W => gap_any S R 0 W h0 h1 h2)
  generalize gapV S R 0 = gv at ha gb G
  have ha2 := ha.out; clear ha
  have gd : decide (now - la < gv) = false := by simp; omega
  have gd2 : decide (now < la + gv) = false := by simp; omega
  obtain ⟨gb0, gb1⟩ := gb
  have wr1 : IntKind.i64.wrap (now - la) = now - la := IntWalk.i64_in _ ⟨by omega, by omega⟩
  go_enter Try.func11, Try.ntmps11
  go_wp2_with fail
  go_region_held3 (fun W => W.cell? ⟨w.heap.size, 0, none⟩ = some (.int .i64 S) ∧ W.cell? ⟨w.heap.size, 1, none⟩ = some (.int .i64 R) ∧ W.cell? ⟨w.heap.size + 1, 1, none⟩ = some (.bool true) ∧ W.cell? ⟨w.heap.size + 1, 2, none⟩ = some (.int .i64 la) ∧ W.cell? ⟨w.heap.size + 1, 3, none⟩ = some (.int .i64 0)) (simp [go_sem]) (first | (go_at_call 9; refine (G.out _).mono ?_; rintro e w' ⟨rfl, rfl⟩))
  go_wp2_with fail
  all_goals
   refine bodyPost_ret (v := .tuple #[stV true true now (0 + 1), .bool true]) (by simp [results, Try.results11, go_sem]) rfl ⟨rfl, ?_⟩
   repeat (first | (with_reducible exact Below.refl _ _) | (with_reducible refine Below.drew ?_) | (with_reducible refine bl_drewN' ?_ _) | ((with_reducible refine Below.alloc ?_ ?hh _); case hh => (first | omega | (simp; omega) | simp)) | ((with_reducible refine Below.setCell ?_ ?hh _); case hh => (first | omega | (simp; omega) | simp)))
set_option maxHeartbeats 1000000 in
theorem rstep_off_t (S R : Int) (an : Bool) (la tr now : Int) (w : World) (h0 : 1 ≤ S) (h1 : S ≤ R) (h2 : R ≤ 1000) (la0 : 0 ≤ la) (la1 : la ≤ 1000000) (n0 : 0 ≤ now) (n1 : now ≤ 1000000) (tr0 : 0 ≤ tr) (tr1 : tr ≤ 1000000) :
    Calls Try.prog 12 #[ruV S R, stV true an la tr, .bool false, .int .i64 now] w fun e w' => e = .returned (.tuple #[stV false an la 0, .bool false]) ∧ Below w.heap.size w w' := by
  go_enter Try.func12, Try.ntmps12
  go_wp2_with fail
  all_goals
   refine bodyPost_ret (v := .tuple #[stV false an la 0, .bool false]) (by simp [results, Try.results12, go_sem]) rfl ⟨rfl, ?_⟩
   repeat (first | (with_reducible exact Below.refl _ _) | (with_reducible refine Below.drew ?_) | (with_reducible refine bl_drewN' ?_ _) | ((with_reducible refine Below.alloc ?_ ?hh _); case hh => (first | omega | (simp; omega) | simp)) | ((with_reducible refine Below.setCell ?_ ?hh _); case hh => (first | omega | (simp; omega) | simp)))
set_option maxHeartbeats 1000000 in
theorem rstep_off_f (S R : Int) (an : Bool) (la tr now : Int) (w : World) (h0 : 1 ≤ S) (h1 : S ≤ R) (h2 : R ≤ 1000) (la0 : 0 ≤ la) (la1 : la ≤ 1000000) (n0 : 0 ≤ now) (n1 : now ≤ 1000000) (tr0 : 0 ≤ tr) (tr1 : tr ≤ 1000000) :
    Calls Try.prog 12 #[ruV S R, stV false an la tr, .bool false, .int .i64 now] w fun e w' => e = .returned (.tuple #[stV false an la 0, .bool false]) ∧ Below w.heap.size w w' := by
  go_enter Try.func12, Try.ntmps12
  go_wp2_with fail
  all_goals
   refine bodyPost_ret (v := .tuple #[stV false an la 0, .bool false]) (by simp [results, Try.results12, go_sem]) rfl ⟨rfl, ?_⟩
   repeat (first | (with_reducible exact Below.refl _ _) | (with_reducible refine Below.drew ?_) | (with_reducible refine bl_drewN' ?_ _) | ((with_reducible refine Below.alloc ?_ ?hh _); case hh => (first | omega | (simp; omega) | simp)) | ((with_reducible refine Below.setCell ?_ ?hh _); case hh => (first | omega | (simp; omega) | simp)))
set_option maxHeartbeats 1000000 in
theorem rstep_wait_t (S R : Int) (an : Bool) (la tr now : Int) (w : World) (h0 : 1 ≤ S) (h1 : S ≤ R) (h2 : R ≤ 1000) (la0 : 0 ≤ la) (la1 : la ≤ 1000000) (n0 : 0 ≤ now) (n1 : now ≤ 1000000) (tr0 : 0 ≤ tr) (tr1 : tr ≤ 1000000) (ha : Hid (now - la < gapV S R tr)) :
    Calls Try.prog 12 #[ruV S R, stV true true la tr, .bool true, .int .i64 now] w fun e w' => e = .returned (.tuple #[stV true true la tr, .bool false]) ∧ Below w.heap.size w w' := by
  have gb := gapV_bd (t := tr) h0 h1
  have G := Lib.hid (fun W => rgap_any S R tr W h0 h1 h2)
  generalize gapV S R tr = gv at ha gb G
  have ha2 := ha.out; clear ha
  have gd : decide (now - la < gv) = true := by simp; omega
  have gd2 : decide (now < la + gv) = true := by simp; omega
  obtain ⟨gb0, gb1⟩ := gb
  have wr1 : IntKind.i64.wrap (la + gv) = la + gv := IntWalk.i64_in _ ⟨by omega, by omega⟩
  go_enter Try.func12, Try.ntmps12
  go_wp2_with fail
  go_region_held3 (fun W => W.cell? ⟨w.heap.size, 0, none⟩ = some (.int .i64 S) ∧ W.cell? ⟨w.heap.size, 1, none⟩ = some (.int .i64 R) ∧ W.cell? ⟨w.heap.size + 1, 1, none⟩ = some (.bool true) ∧ W.cell? ⟨w.heap.size + 1, 2, none⟩ = some (.int .i64 la) ∧ W.cell? ⟨w.heap.size + 1, 3, none⟩ = some (.int .i64 tr)) (simp [go_sem]) (first | (go_at_call 10; refine (G.out _).mono ?_; rintro e w' ⟨rfl, rfl⟩))
  go_wp2_with fail
  all_goals
   refine bodyPost_ret (v := .tuple #[stV true true la tr, .bool false]) (by simp [results, Try.results12, go_sem]) rfl ⟨rfl, ?_⟩
   repeat (first | (with_reducible exact Below.refl _ _) | (with_reducible refine Below.drew ?_) | (with_reducible refine bl_drewN' ?_ _) | ((with_reducible refine Below.alloc ?_ ?hh _); case hh => (first | omega | (simp; omega) | simp)) | ((with_reducible refine Below.setCell ?_ ?hh _); case hh => (first | omega | (simp; omega) | simp)))
set_option maxHeartbeats 1000000 in
theorem rstep_wait_f (S R : Int) (an : Bool) (la tr now : Int) (w : World) (h0 : 1 ≤ S) (h1 : S ≤ R) (h2 : R ≤ 1000) (la0 : 0 ≤ la) (la1 : la ≤ 1000000) (n0 : 0 ≤ now) (n1 : now ≤ 1000000) (tr0 : 0 ≤ tr) (tr1 : tr ≤ 1000000) (ha : Hid (now - la < gapV S R 0)) :
    Calls Try.prog 12 #[ruV S R, stV false true la tr, .bool true, .int .i64 now] w fun e w' => e = .returned (.tuple #[stV true true la 0, .bool false]) ∧ Below w.heap.size w w' := by
  have gb := gapV_bd (t := 0) h0 h1
  have G := Lib.hid (fun W => rgap_any S R 0 W h0 h1 h2)
  generalize gapV S R 0 = gv at ha gb G
  have ha2 := ha.out; clear ha
  have gd : decide (now - la < gv) = true := by simp; omega
  have gd2 : decide (now < la + gv) = true := by simp; omega
  obtain ⟨gb0, gb1⟩ := gb
  have wr1 : IntKind.i64.wrap (la + gv) = la + gv := IntWalk.i64_in _ ⟨by omega, by omega⟩
  go_enter Try.func12, Try.ntmps12
  go_wp2_with fail
  go_region_held3 (fun W => W.cell? ⟨w.heap.size, 0, none⟩ = some (.int .i64 S) ∧ W.cell? ⟨w.heap.size, 1, none⟩ = some (.int .i64 R) ∧ W.cell? ⟨w.heap.size + 1, 1, none⟩ = some (.bool true) ∧ W.cell? ⟨w.heap.size + 1, 2, none⟩ = some (.int .i64 la) ∧ W.cell? ⟨w.heap.size + 1, 3, none⟩ = some (.int .i64 0)) (simp [go_sem]) (first | (go_at_call 10; refine (G.out _).mono ?_; rintro e w' ⟨rfl, rfl⟩))
  go_wp2_with fail
  all_goals
   refine bodyPost_ret (v := .tuple #[stV true true la 0, .bool false]) (by simp [results, Try.results12, go_sem]) rfl ⟨rfl, ?_⟩
   repeat (first | (with_reducible exact Below.refl _ _) | (with_reducible refine Below.drew ?_) | (with_reducible refine bl_drewN' ?_ _) | ((with_reducible refine Below.alloc ?_ ?hh _); case hh => (first | omega | (simp; omega) | simp)) | ((with_reducible refine Below.setCell ?_ ?hh _); case hh => (first | omega | (simp; omega) | simp)))
set_option maxHeartbeats 1000000 in
theorem rstep_first_t (S R : Int) (an : Bool) (la tr now : Int) (w : World) (h0 : 1 ≤ S) (h1 : S ≤ R) (h2 : R ≤ 1000) (la0 : 0 ≤ la) (la1 : la ≤ 1000000) (n0 : 0 ≤ now) (n1 : now ≤ 1000000) (tr0 : 0 ≤ tr) (tr1 : tr ≤ 1000000) :
    Calls Try.prog 12 #[ruV S R, stV true false la tr, .bool true, .int .i64 now] w fun e w' => e = .returned (.tuple #[stV true true now (tr + 1), .bool true]) ∧ Below w.heap.size w w' := by
  go_enter Try.func12, Try.ntmps12
  go_wp2_with fail
  go_quiet (fail)
  go_wp2_with fail
  all_goals
   refine bodyPost_ret (v := .tuple #[stV true true now (tr + 1), .bool true]) (by simp [results, Try.results12, go_sem]) rfl ⟨rfl, ?_⟩
   repeat (first | (with_reducible exact Below.refl _ _) | (with_reducible refine Below.drew ?_) | (with_reducible refine bl_drewN' ?_ _) | ((with_reducible refine Below.alloc ?_ ?hh _); case hh => (first | omega | (simp; omega) | simp)) | ((with_reducible refine Below.setCell ?_ ?hh _); case hh => (first | omega | (simp; omega) | simp)))
set_option maxHeartbeats 1000000 in
theorem rstep_first_f (S R : Int) (an : Bool) (la tr now : Int) (w : World) (h0 : 1 ≤ S) (h1 : S ≤ R) (h2 : R ≤ 1000) (la0 : 0 ≤ la) (la1 : la ≤ 1000000) (n0 : 0 ≤ now) (n1 : now ≤ 1000000) (tr0 : 0 ≤ tr) (tr1 : tr ≤ 1000000) :
    Calls Try.prog 12 #[ruV S R, stV false false la tr, .bool true, .int .i64 now] w fun e w' => e = .returned (.tuple #[stV true true now (0 + 1), .bool true]) ∧ Below w.heap.size w w' := by
  go_enter Try.func12, Try.ntmps12
  go_wp2_with fail
  go_quiet (fail)
  go_wp2_with fail
  all_goals
   refine bodyPost_ret (v := .tuple #[stV true true now (0 + 1), .bool true]) (by simp [results, Try.results12, go_sem]) rfl ⟨rfl, ?_⟩
   repeat (first | (with_reducible exact Below.refl _ _) | (with_reducible refine Below.drew ?_) | (with_reducible refine bl_drewN' ?_ _) | ((with_reducible refine Below.alloc ?_ ?hh _); case hh => (first | omega | (simp; omega) | simp)) | ((with_reducible refine Below.setCell ?_ ?hh _); case hh => (first | omega | (simp; omega) | simp)))
set_option maxHeartbeats 1000000 in
theorem rstep_again_t (S R : Int) (an : Bool) (la tr now : Int) (w : World) (h0 : 1 ≤ S) (h1 : S ≤ R) (h2 : R ≤ 1000) (la0 : 0 ≤ la) (la1 : la ≤ 1000000) (n0 : 0 ≤ now) (n1 : now ≤ 1000000) (tr0 : 0 ≤ tr) (tr1 : tr ≤ 1000000) (ha : Hid (gapV S R tr ≤ now - la)) :
    Calls Try.prog 12 #[ruV S R, stV true true la tr, .bool true, .int .i64 now] w fun e w' => e = .returned (.tuple #[stV true true now (tr + 1), .bool true]) ∧ Below w.heap.size w w' := by
  have gb := gapV_bd (t := tr) h0 h1
  have G := Lib.hid (fun W => rgap_any S R tr W h0 h1 h2)
  generalize gapV S R tr = gv at ha gb G
  have ha2 := ha.out; clear ha
  have gd : decide (now - la < gv) = false := by simp; omega
  have gd2 : decide (now < la + gv) = false := by simp; omega
  obtain ⟨gb0, gb1⟩ := gb
  have wr1 : IntKind.i64.wrap (la + gv) = la + gv := IntWalk.i64_in _ ⟨by omega, by omega⟩
  go_enter Try.func12, Try.ntmps12
  go_wp2_with fail
  go_region_held3 (fun W => W.cell? ⟨w.heap.size, 0, none⟩ = some (.int .i64 S) ∧ W.cell? ⟨w.heap.size, 1, none⟩ = some (.int .i64 R) ∧ W.cell? ⟨w.heap.size + 1, 1, none⟩ = some (.bool true) ∧ W.cell? ⟨w.heap.size + 1, 2, none⟩ = some (.int .i64 la) ∧ W.cell? ⟨w.heap.size + 1, 3, none⟩ = some (.int .i64 tr)) (simp [go_sem]) (first | (go_at_call 10; refine (G.out _).mono ?_; rintro e w' ⟨rfl, rfl⟩))
  go_wp2_with fail
  all_goals
   refine bodyPost_ret (v := .tuple #[stV true true now (tr + 1), .bool true]) (by simp [results, Try.results12, go_sem]) rfl ⟨rfl, ?_⟩
   repeat (first | (with_reducible exact Below.refl _ _) | (with_reducible refine Below.drew ?_) | (with_reducible refine bl_drewN' ?_ _) | ((with_reducible refine Below.alloc ?_ ?hh _); case hh => (first | omega | (simp; omega) | simp)) | ((with_reducible refine Below.setCell ?_ ?hh _); case hh => (first | omega | (simp; omega) | simp)))
set_option maxHeartbeats 1000000 in
theorem rstep_again_f (S R : Int) (an : Bool) (la tr now : Int) (w : World) (h0 : 1 ≤ S) (h1 : S ≤ R) (h2 : R ≤ 1000) (la0 : 0 ≤ la) (la1 : la ≤ 1000000) (n0 : 0 ≤ now) (n1 : now ≤ 1000000) (tr0 : 0 ≤ tr) (tr1 : tr ≤ 1000000) (ha : Hid (gapV S R 0 ≤ now - la)) :
    Calls Try.prog 12 #[ruV S R, stV false true la tr, .bool true, .int .i64 now] w fun e w' => e = .returned (.tuple #[stV true true now (0 + 1), .bool true]) ∧ Below w.heap.size w w' := by
  have gb := gapV_bd (t := 0) h0 h1
  have G := Lib.hid (fun W => rgap_any S R 0 W h0 h1 h2)
  generalize gapV S R 0 = gv at ha gb G
  have ha2 := ha.out; clear ha
  have gd : decide (now - la < gv) = false := by simp; omega
  have gd2 : decide (now < la + gv) = false := by simp; omega
  obtain ⟨gb0, gb1⟩ := gb
  have wr1 : IntKind.i64.wrap (la + gv) = la + gv := IntWalk.i64_in _ ⟨by omega, by omega⟩
  go_enter Try.func12, Try.ntmps12
  go_wp2_with fail
  go_region_held3 (fun W => W.cell? ⟨w.heap.size, 0, none⟩ = some (.int .i64 S) ∧ W.cell? ⟨w.heap.size, 1, none⟩ = some (.int .i64 R) ∧ W.cell? ⟨w.heap.size + 1, 1, none⟩ = some (.bool true) ∧ W.cell? ⟨w.heap.size + 1, 2, none⟩ = some (.int .i64 la) ∧ W.cell? ⟨w.heap.size + 1, 3, none⟩ = some (.int .i64 0)) (simp [go_sem]) (first | (go_at_call 10; refine (G.out _).mono ?_; rintro e w' ⟨rfl, rfl⟩))
  go_wp2_with fail
  all_goals
   refine bodyPost_ret (v := .tuple #[stV true true now (0 + 1), .bool true]) (by simp [results, Try.results12, go_sem]) rfl ⟨rfl, ?_⟩
   repeat (first | (with_reducible exact Below.refl _ _) | (with_reducible refine Below.drew ?_) | (with_reducible refine bl_drewN' ?_ _) | ((with_reducible refine Below.alloc ?_ ?hh _); case hh => (first | omega | (simp; omega) | simp)) | ((with_reducible refine Below.setCell ?_ ?hh _); case hh => (first | omega | (simp; omega) | simp)))
end Go.Proofs.Ytpikchnmpdpljaa
