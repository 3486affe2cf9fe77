/- The walks of layer 18 (stall): what each inner function hands back. -/
import Derived.Test.YtpkaeamhjfgjcaaBase
namespace Go.Proofs.Ytpkaeamhjfgjcaa
open Go.ChangeShapes Go.WideShapes Go.ChangeAt Go.RowKit
set_option linter.unusedVariables false

abbrev stV (m r : Int) (g : Bool) : Value := .agg #[.int .i64 m, .int .i64 r, .bool g]

theorem start_in (m : Int) (w : World) (h0 : 1 ≤ m) (h1 : m ≤ 10) :
    Calls Try.prog 6 #[.int .i64 m] w fun e w' => e = .returned (.tuple #[stV m 0 false, .int .i64 0]) ∧ Below w.heap.size w w' := by
  go_enter Try.func6, Try.ntmps6
  go_wp2
  refine bodyPost_ret (v := .tuple #[stV m 0 false, .int .i64 0]) (by simp [results, Try.results6, go_sem]) rfl ⟨rfl, ?_⟩
  repeat (first | (with_reducible exact Below.refl _ _) | (with_reducible refine Below.drew ?_) | ((with_reducible refine Below.alloc ?_ ?hh _); case hh => (first | omega | (simp; omega) | simp)) | ((with_reducible refine Below.setCell ?_ ?hh _); case hh => (first | omega | (simp; omega) | simp)))
theorem start_out (m : Int) (w : World) (h : m < 1 ∨ 10 < m) :
    Calls Try.prog 6 #[.int .i64 m] w fun e w' => e = .returned (.tuple #[stV 0 0 false, .int .i64 1]) ∧ Below w.heap.size w w' := by
  rcases h with h | h
  · go_enter Try.func6, Try.ntmps6
    go_wp2
    refine bodyPost_ret (v := .tuple #[stV 0 0 false, .int .i64 1]) (by simp [results, Try.results6, go_sem]) rfl ⟨rfl, ?_⟩
    repeat (first | (with_reducible exact Below.refl _ _) | (with_reducible refine Below.drew ?_) | ((with_reducible refine Below.alloc ?_ ?hh _); case hh => (first | omega | (simp; omega) | simp)) | ((with_reducible refine Below.setCell ?_ ?hh _); case hh => (first | omega | (simp; omega) | simp)))
  · have h' : 1 ≤ m := by omega
    have g : decide (m < 1) = false := by simp; omega
    go_enter Try.func6, Try.ntmps6
    go_wp2
    refine bodyPost_ret (v := .tuple #[stV 0 0 false, .int .i64 1]) (by simp [results, Try.results6, go_sem]) rfl ⟨rfl, ?_⟩
    repeat (first | (with_reducible exact Below.refl _ _) | (with_reducible refine Below.drew ?_) | ((with_reducible refine Below.alloc ?_ ?hh _); case hh => (first | omega | (simp; omega) | simp)) | ((with_reducible refine Below.setCell ?_ ?hh _); case hh => (first | omega | (simp; omega) | simp)))
theorem refused_any (m r : Int) (g : Bool) (b : Bool) (w : World) (h0 : 0 ≤ r) (h1 : r ≤ 100) (hb : (r + 1 == m) = b) :
    Calls Try.prog 10 #[stV m r g] w fun e w' => e = .returned (stV m (r + 1) b) ∧ w' = (w.alloc (.cells #[.int .i64 m, .int .i64 (r + 1), .bool b] 25)).alloc (.cells #[.int .i64 m, .int .i64 (r + 1), .bool b] 25) := by
  go_enter Try.func10, Try.ntmps10
  go_wp2
  exact bodyPost_ret (v := stV m (r + 1) b) (by simp [results, Try.results10, go_sem]) rfl ⟨rfl, rfl⟩
theorem accepted_any (m r : Int) (g : Bool) (w : World) :
    Calls Try.prog 11 #[stV m r g] w fun e w' => e = .returned (stV m 0 g) ∧ w' = (w.alloc (.cells #[.int .i64 m, .int .i64 0, .bool g] 25)).alloc (.cells #[.int .i64 m, .int .i64 0, .bool g] 25) := by
  go_enter Try.func11, Try.ntmps11
  go_wp2
  exact bodyPost_ret (v := stV m 0 g) (by simp [results, Try.results11, go_sem]) rfl ⟨rfl, rfl⟩
theorem offer_gone_x (m r : Int) (a : Bool) (w : World) :
    Calls Try.prog 7 #[stV m r true, .bool a] w fun e w' => e = .returned (.tuple #[stV m r true, .bool false]) ∧ ∃ c1 c2, w' = (w.alloc (.cells c1 25)).alloc (.cells c2 25) := by
  go_enter Try.func7, Try.ntmps7
  go_wp2
  exact bodyPost_ret (v := .tuple #[stV m r true, .bool false]) (by simp [results, Try.results7, go_sem]) rfl ⟨rfl, _, _, rfl⟩
theorem offer_yes_x (m r : Int) (w : World) :
    Calls Try.prog 7 #[stV m r false, .bool true] w fun e w' => e = .returned (.tuple #[stV m 0 false, .bool false]) ∧ ∃ c1 c2 c3 c4 c5, w' = (((((w.alloc (.cells c1 25)).alloc (.cells c2 25)).alloc (.cells c3 25)).alloc (.cells c4 25)).alloc (.cells c5 25)).drew := by
  go_enter Try.func7, Try.ntmps7
  go_wp2_with (go_at_call 11; refine (accepted_any _ _ _ _).mono ?_; rintro e w' ⟨rfl, rfl⟩)
  go_region
  go_wp2
  exact bodyPost_ret (v := .tuple #[stV m 0 false, .bool false]) (by simp [results, Try.results7, go_sem]) rfl ⟨rfl, _, _, _, _, _, rfl⟩
theorem offer_no_x (m r : Int) (b : Bool) (w : World) (h0 : 0 ≤ r) (h1 : r ≤ 100) (hb : (r + 1 == m) = b) :
    Calls Try.prog 7 #[stV m r false, .bool false] w fun e w' => e = .returned (.tuple #[stV m (r + 1) b, .bool b]) ∧ ∃ c1 c2 c3 c4 c5, w' = (((((w.alloc (.cells c1 25)).alloc (.cells c2 25)).alloc (.cells c3 25)).alloc (.cells c4 25)).alloc (.cells c5 25)).drew := by
  have HB := Lib.hid hb; clear hb
  go_enter Try.func7, Try.ntmps7
  go_wp2_with (go_at_call 10; refine (refused_any _ _ _ b _ h0 h1 HB.out).mono ?_; rintro e w' ⟨rfl, rfl⟩)
  go_region
  go_wp2
  exact bodyPost_ret (v := .tuple #[stV m (r + 1) b, .bool b]) (by simp [results, Try.results7, go_sem]) rfl ⟨rfl, _, _, _, _, _, rfl⟩
theorem below5 (w : World) (o1 o2 o3 o4 o5 : Obj) : Below w.heap.size w (((((w.alloc o1).alloc o2).alloc o3).alloc o4).alloc o5).drew :=
  (((((((Below.refl _ _).alloc (Nat.le_refl _) o1).alloc (by simp) o2).alloc (by simp; omega) o3).alloc (by simp; omega) o4).alloc (by simp; omega) o5).drew)
theorem offer_gone (m r : Int) (a : Bool) (w : World) :
    Calls Try.prog 7 #[stV m r true, .bool a] w fun e w' => e = .returned (.tuple #[stV m r true, .bool false]) ∧ Below w.heap.size w w' :=
  (offer_gone_x m r a w).mono fun e w' ⟨he, c1, c2, hw⟩ => ⟨he, hw ▸ ((Below.refl _ _).alloc (Nat.le_refl _) _).alloc (by simp) _⟩
theorem offer_yes (m r : Int) (w : World) :
    Calls Try.prog 7 #[stV m r false, .bool true] w fun e w' => e = .returned (.tuple #[stV m 0 false, .bool false]) ∧ Below w.heap.size w w' :=
  (offer_yes_x m r w).mono fun e w' ⟨he, c1, c2, c3, c4, c5, hw⟩ => ⟨he, hw ▸ below5 _ _ _ _ _ _⟩
theorem offer_no (m r : Int) (b : Bool) (w : World) (h0 : 0 ≤ r) (h1 : r ≤ 100) (hb : (r + 1 == m) = b) :
    Calls Try.prog 7 #[stV m r false, .bool false] w fun e w' => e = .returned (.tuple #[stV m (r + 1) b, .bool b]) ∧ Below w.heap.size w w' :=
  (offer_no_x m r b w h0 h1 hb).mono fun e w' ⟨he, c1, c2, c3, c4, c5, hw⟩ => ⟨he, hw ▸ below5 _ _ _ _ _ _⟩
theorem left_gone (m r : Int) (w : World) : Calls Try.prog 8 #[stV m r true] w fun e w' => e = .returned (.int .i64 0) ∧ w' = w.alloc (.cells #[.int .i64 m, .int .i64 r, .bool true] 25) := by
  go_enter Try.func8, Try.ntmps8
  go_wp2
  go_ret
  exact ⟨rfl, rfl⟩
theorem left_any (m r : Int) (w : World) (h0 : 0 ≤ r) (h1 : r ≤ 100) (h2 : 0 ≤ m) (h3 : m ≤ 100) : Calls Try.prog 8 #[stV m r false] w fun e w' => e = .returned (.int .i64 (m - r)) ∧ w' = w.alloc (.cells #[.int .i64 m, .int .i64 r, .bool false] 25) := by
  go_enter Try.func8, Try.ntmps8
  go_wp2
  go_ret
  exact ⟨rfl, rfl⟩
theorem may_yes (m r : Int) (w : World) (h0 : 1 ≤ m) (h1 : m ≤ 10) (h2 : 0 ≤ r) (h3 : r < m) : Calls Try.prog 9 #[stV m r false] w fun e w' => e = .returned (.bool true) ∧ Below w.heap.size w w' := by
  have g : (r == m) = false := by simp; omega
  go_enter Try.func9, Try.ntmps9
  go_wp2
  go_ret
  refine ⟨rfl, ?_⟩
  repeat (first | (with_reducible exact Below.refl _ _) | (with_reducible refine Below.drew ?_) | ((with_reducible refine Below.alloc ?_ ?hh _); case hh => (first | omega | (simp; omega) | simp)) | ((with_reducible refine Below.setCell ?_ ?hh _); case hh => (first | omega | (simp; omega) | simp)))
theorem may_no1 (m r : Int) (g : Bool) (w : World) (h0 : m < 1) : Calls Try.prog 9 #[stV m r g] w fun e w' => e = .returned (.bool false) ∧ Below w.heap.size w w' := by
  go_enter Try.func9, Try.ntmps9
  go_wp2
  go_ret
  refine ⟨rfl, ?_⟩
  repeat (first | (with_reducible exact Below.refl _ _) | (with_reducible refine Below.drew ?_) | ((with_reducible refine Below.alloc ?_ ?hh _); case hh => (first | omega | (simp; omega) | simp)) | ((with_reducible refine Below.setCell ?_ ?hh _); case hh => (first | omega | (simp; omega) | simp)))
theorem may_no2 (m r : Int) (g : Bool) (w : World) (h0 : 10 < m) : Calls Try.prog 9 #[stV m r g] w fun e w' => e = .returned (.bool false) ∧ Below w.heap.size w w' := by
  have g0 : decide (m < 1) = false := by simp; omega
  go_enter Try.func9, Try.ntmps9
  go_wp2
  go_ret
  refine ⟨rfl, ?_⟩
  repeat (first | (with_reducible exact Below.refl _ _) | (with_reducible refine Below.drew ?_) | ((with_reducible refine Below.alloc ?_ ?hh _); case hh => (first | omega | (simp; omega) | simp)) | ((with_reducible refine Below.setCell ?_ ?hh _); case hh => (first | omega | (simp; omega) | simp)))
theorem may_no3 (m r : Int) (g : Bool) (w : World) (h0 : 1 ≤ m) (h1 : m ≤ 10) (h2 : r < 0) : Calls Try.prog 9 #[stV m r g] w fun e w' => e = .returned (.bool false) ∧ Below w.heap.size w w' := by
  have g0 : decide (m < 1) = false := by simp; omega
  have g1 : decide (10 < m) = false := by simp; omega
  go_enter Try.func9, Try.ntmps9
  go_wp2
  go_ret
  refine ⟨rfl, ?_⟩
  repeat (first | (with_reducible exact Below.refl _ _) | (with_reducible refine Below.drew ?_) | ((with_reducible refine Below.alloc ?_ ?hh _); case hh => (first | omega | (simp; omega) | simp)) | ((with_reducible refine Below.setCell ?_ ?hh _); case hh => (first | omega | (simp; omega) | simp)))
theorem may_no4 (m r : Int) (g : Bool) (w : World) (h0 : 1 ≤ m) (h1 : m ≤ 10) (h2 : m < r) : Calls Try.prog 9 #[stV m r g] w fun e w' => e = .returned (.bool false) ∧ Below w.heap.size w w' := by
  have g0 : decide (m < 1) = false := by simp; omega
  have g1 : decide (10 < m) = false := by simp; omega
  have g2 : decide (r < 0) = false := by simp; omega
  go_enter Try.func9, Try.ntmps9
  go_wp2
  go_ret
  refine ⟨rfl, ?_⟩
  repeat (first | (with_reducible exact Below.refl _ _) | (with_reducible refine Below.drew ?_) | ((with_reducible refine Below.alloc ?_ ?hh _); case hh => (first | omega | (simp; omega) | simp)) | ((with_reducible refine Below.setCell ?_ ?hh _); case hh => (first | omega | (simp; omega) | simp)))
theorem may_gone (m r : Int) (g : Bool) (w : World) (h0 : 1 ≤ m) (h1 : m ≤ 10) (h2 : 0 ≤ r) (h3 : r ≤ m) (hg : (g == (r == m)) = false) : Calls Try.prog 9 #[stV m r g] w fun e w' => e = .returned (.bool false) ∧ Below w.heap.size w w' := by
  go_enter Try.func9, Try.ntmps9
  go_wp2
  go_ret
  refine ⟨rfl, ?_⟩
  repeat (first | (with_reducible exact Below.refl _ _) | (with_reducible refine Below.drew ?_) | ((with_reducible refine Below.alloc ?_ ?hh _); case hh => (first | omega | (simp; omega) | simp)) | ((with_reducible refine Below.setCell ?_ ?hh _); case hh => (first | omega | (simp; omega) | simp)))
theorem may_full (m : Int) (w : World) (h0 : 1 ≤ m) (h1 : m ≤ 10) : Calls Try.prog 9 #[stV m m true] w fun e w' => e = .returned (.bool true) ∧ Below w.heap.size w w' := by
  go_enter Try.func9, Try.ntmps9
  go_wp2
  go_ret
  refine ⟨rfl, ?_⟩
  repeat (first | (with_reducible exact Below.refl _ _) | (with_reducible refine Below.drew ?_) | ((with_reducible refine Below.alloc ?_ ?hh _); case hh => (first | omega | (simp; omega) | simp)) | ((with_reducible refine Below.setCell ?_ ?hh _); case hh => (first | omega | (simp; omega) | simp)))
end Go.Proofs.Ytpkaeamhjfgjcaa
