/- The walks of layer 16 (choose): what each inner function hands back, whatever it is handed. -/
import Derived.Test.YtehjooappfnoiaaBase
namespace Go.Proofs.Ytehjooappfnoiaa
open Go.ChangeShapes Go.WideShapes Go.ChangeAt Go.RowKit
set_option linter.unusedVariables false

abbrev stV (c t : Int) : Value := .agg #[.int .i64 c, .int .i64 t]
/-- the layer that flows behind a packet, its fate, whether it is the first one -/
def tkC (c t l : Int) (k : Bool) : Int := if l = c then c else if l = t then (if k then l else c) else c
def tkF (c t l : Int) (k : Bool) : Int := if l = c then 0 else if l = t then (if k then 0 else 5) else 4
def tkX (c t l : Int) (k : Bool) : Bool := if l = c then false else if l = t then k else false

theorem take_any (c t l : Int) (k : Bool) (w : World) :
    Calls Try.prog 10 #[stV c t, .int .i64 l, .bool k] w fun e w' =>
      e = .returned (.tuple #[stV (tkC c t l k) t, .int .i64 (tkF c t l k), .bool (tkX c t l k)]) ∧ Below w.heap.size w w' := by
  by_cases h1 : l = c
  · subst h1
    go_enter Try.func10, Try.ntmps10
    go_wp2
    refine bodyPost_ret (v := .tuple #[stV l t, .int .i64 0, .bool false]) (by simp [results, Try.results10, go_sem]) rfl ⟨by simp [tkC, tkF, tkX], ?_⟩
    repeat (first | (with_reducible exact Below.refl _ _) | ((with_reducible refine Below.alloc ?_ ?hh _); case hh => (first | omega | (simp; omega) | simp)))
  · by_cases h2 : l = t
    · subst h2
      have g1 : (l == c) = false := by simp; omega
      have g2 : (l != c) = true := by simp; omega
      cases k
      · go_enter Try.func10, Try.ntmps10
        go_wp2
        refine bodyPost_ret (v := .tuple #[stV c l, .int .i64 5, .bool false]) (by simp [results, Try.results10, go_sem]) rfl ⟨by simp [tkC, tkF, tkX, h1], ?_⟩
        repeat (first | (with_reducible exact Below.refl _ _) | ((with_reducible refine Below.alloc ?_ ?hh _); case hh => (first | omega | (simp; omega) | simp)))
      · go_enter Try.func10, Try.ntmps10
        go_wp2
        refine bodyPost_ret (v := .tuple #[stV l l, .int .i64 0, .bool true]) (by simp [results, Try.results10, go_sem]) rfl ⟨by simp [tkC, tkF, tkX, h1], ?_⟩
        repeat (first | (with_reducible exact Below.refl _ _) | ((with_reducible refine Below.alloc ?_ ?hh _); case hh => (first | omega | (simp; omega) | simp)))
    · have g1 : (l == c) = false := by simp; omega
      have g2 : (l != c) = true := by simp; omega
      have g3 : (l == t) = false := by simp; omega
      go_enter Try.func10, Try.ntmps10
      go_wp2
      refine bodyPost_ret (v := .tuple #[stV c t, .int .i64 4, .bool false]) (by simp [results, Try.results10, go_sem]) rfl ⟨by simp [tkC, tkF, tkX, h1, h2], ?_⟩
      repeat (first | (with_reducible exact Below.refl _ _) | ((with_reducible refine Below.alloc ?_ ?hh _); case hh => (first | omega | (simp; omega) | simp)))

theorem ref_any (c t l : Int) (k : Bool) (w : World) :
    Calls Try.prog 11 #[stV c t, .int .i64 l, .bool k] w fun e w' =>
      e = .returned (.tuple #[stV (tkC c t l k) t, .int .i64 (tkF c t l k), .bool (tkX c t l k)]) ∧ Below w.heap.size w w' := by
  by_cases h1 : l = c
  · subst h1
    go_enter Try.func11, Try.ntmps11
    go_wp2
    refine bodyPost_ret (v := .tuple #[stV l t, .int .i64 0, .bool false]) (by simp [results, Try.results11, go_sem]) rfl ⟨by simp [tkC, tkF, tkX], ?_⟩
    repeat (first | (with_reducible exact Below.refl _ _) | ((with_reducible refine Below.alloc ?_ ?hh _); case hh => (first | omega | (simp; omega) | simp)))
  · by_cases h2 : l = t
    · subst h2
      have g1 : (l == c) = false := by simp; omega
      have g2 : (l != c) = true := by simp; omega
      cases k
      · go_enter Try.func11, Try.ntmps11
        go_wp2
        refine bodyPost_ret (v := .tuple #[stV c l, .int .i64 5, .bool false]) (by simp [results, Try.results11, go_sem]) rfl ⟨by simp [tkC, tkF, tkX, h1], ?_⟩
        repeat (first | (with_reducible exact Below.refl _ _) | ((with_reducible refine Below.alloc ?_ ?hh _); case hh => (first | omega | (simp; omega) | simp)))
      · go_enter Try.func11, Try.ntmps11
        go_wp2
        refine bodyPost_ret (v := .tuple #[stV l l, .int .i64 0, .bool true]) (by simp [results, Try.results11, go_sem]) rfl ⟨by simp [tkC, tkF, tkX, h1], ?_⟩
        repeat (first | (with_reducible exact Below.refl _ _) | ((with_reducible refine Below.alloc ?_ ?hh _); case hh => (first | omega | (simp; omega) | simp)))
    · have g1 : (l == c) = false := by simp; omega
      have g2 : (l != c) = true := by simp; omega
      have g3 : (l == t) = false := by simp; omega
      have g4 : (l != t) = true := by simp; omega
      go_enter Try.func11, Try.ntmps11
      go_wp2
      refine bodyPost_ret (v := .tuple #[stV c t, .int .i64 4, .bool false]) (by simp [results, Try.results11, go_sem]) rfl ⟨by simp [tkC, tkF, tkX, h1, h2], ?_⟩
      repeat (first | (with_reducible exact Below.refl _ _) | ((with_reducible refine Below.alloc ?_ ?hh _); case hh => (first | omega | (simp; omega) | simp)))

theorem want_in (c t u : Int) (w : World) (h0 : 0 ≤ u) (h1 : u < 3) :
    Calls Try.prog 9 #[stV c t, .int .i64 u] w fun e w' => e = .returned (.tuple #[stV c u, .int .i64 0]) ∧ Below w.heap.size w w' := by
  go_enter Try.func9, Try.ntmps9
  go_wp2
  refine bodyPost_ret (v := .tuple #[stV c u, .int .i64 0]) (by simp [results, Try.results9, go_sem]) rfl ⟨rfl, ?_⟩
  repeat (first | (with_reducible exact Below.refl _ _) | ((with_reducible refine Below.alloc ?_ ?hh _); case hh => (first | omega | (simp; omega) | simp)))
theorem want_out (c t u : Int) (w : World) (h : u < 0 ∨ 3 ≤ u) :
    Calls Try.prog 9 #[stV c t, .int .i64 u] w fun e w' => e = .returned (.tuple #[stV 0 0, .int .i64 1]) ∧ Below w.heap.size w w' := by
  rcases h with h | h
  · go_enter Try.func9, Try.ntmps9
    go_wp2
    refine bodyPost_ret (v := .tuple #[stV 0 0, .int .i64 1]) (by simp [results, Try.results9, go_sem]) rfl ⟨rfl, ?_⟩
    repeat (first | (with_reducible exact Below.refl _ _) | ((with_reducible refine Below.alloc ?_ ?hh _); case hh => (first | omega | (simp; omega) | simp)))
  · have h' : 0 ≤ u := by omega
    have h2 : decide (u < 3) = false := by simp; omega
    go_enter Try.func9, Try.ntmps9
    go_wp2
    refine bodyPost_ret (v := .tuple #[stV 0 0, .int .i64 1]) (by simp [results, Try.results9, go_sem]) rfl ⟨rfl, ?_⟩
    repeat (first | (with_reducible exact Below.refl _ _) | ((with_reducible refine Below.alloc ?_ ?hh _); case hh => (first | omega | (simp; omega) | simp)))

theorem start_in (u : Int) (w : World) (h0 : 0 ≤ u) (h1 : u < 3) :
    Calls Try.prog 7 #[.int .i64 u] w fun e w' => e = .returned (.tuple #[stV (-1) u, .int .i64 0]) ∧ Below w.heap.size w w' := by
  go_enter Try.func7, Try.ntmps7
  go_wp2_with fail
  refine (want_in _ _ _ _ h0 h1).mono ?_
  rintro e w1 ⟨rfl, b1⟩
  have B1 : Blk w1 w.heap.size 23 _ := (Blk.new w 23 _).kept b1
  have c1 := B1.cell; have f1 := B1.frozen
  have d1 : Below w.heap.size w w1 := ((Below.refl _ _).alloc (Nat.le_refl _) _).trans (b1.mono (by simp))
  go_wp2_with fail
  refine bodyPost_ret (v := .tuple #[stV (-1) u, .int .i64 0]) (by simp [results, Try.results7, go_sem, c1]) rfl ⟨rfl, ?_⟩
  repeat (first | (with_reducible exact d1) | ((with_reducible refine Below.setCell ?_ ?hh _); case hh => (first | omega | (simp; omega) | simp)))
theorem start_out (u : Int) (w : World) (h : u < 0 ∨ 3 ≤ u) :
    Calls Try.prog 7 #[.int .i64 u] w fun e w' => e = .returned (.tuple #[stV 0 0, .int .i64 1]) ∧ Below w.heap.size w w' := by
  go_enter Try.func7, Try.ntmps7
  go_wp2_with fail
  refine (want_out _ _ _ _ h).mono ?_
  rintro e w1 ⟨rfl, b1⟩
  have B1 : Blk w1 w.heap.size 23 _ := (Blk.new w 23 _).kept b1
  have c1 := B1.cell; have f1 := B1.frozen
  have d1 : Below w.heap.size w w1 := ((Below.refl _ _).alloc (Nat.le_refl _) _).trans (b1.mono (by simp))
  go_wp2_with fail
  refine bodyPost_ret (v := .tuple #[stV 0 0, .int .i64 1]) (by simp [results, Try.results7, go_sem, c1]) rfl ⟨rfl, ?_⟩
  repeat (first | (with_reducible exact d1) | ((with_reducible refine Below.setCell ?_ ?hh _); case hh => (first | omega | (simp; omega) | simp)))

def pend (c t : Int) : Bool := c != t
theorem pending_any (c t : Int) (w : World) : Calls Try.prog 12 #[stV c t] w fun e w' => e = .returned (.bool (pend c t)) ∧ Below w.heap.size w w' := by
  go_enter Try.func12, Try.ntmps12
  go_wp2
  go_ret
  refine ⟨rfl, ?_⟩
  repeat (first | (with_reducible exact Below.refl _ _) | ((with_reducible refine Below.alloc ?_ ?hh _); case hh => (first | omega | (simp; omega) | simp)))

theorem pending_exact (c t : Int) (w : World) : Calls Try.prog 12 #[stV c t] w fun e w' => e = .returned (.bool (pend c t)) ∧ w' = w.alloc (.cells #[.int .i64 c, .int .i64 t] 23) := by
  go_enter Try.func12, Try.ntmps12
  go_wp2
  go_ret
  exact ⟨rfl, rfl⟩
theorem may_yes (c t : Int) (w : World) (h0 : -1 ≤ c) (h1 : c < 3) (h2 : 0 ≤ t) (h3 : t < 3) : Calls Try.prog 8 #[stV c t] w fun e w' => e = .returned (.bool true) ∧ Below w.heap.size w w' := by
  go_enter Try.func8, Try.ntmps8
  go_wp2
  go_ret
  refine ⟨rfl, ?_⟩
  repeat (first | (with_reducible exact Below.refl _ _) | ((with_reducible refine Below.alloc ?_ ?hh _); case hh => (first | omega | (simp; omega) | simp)))
theorem may_no (c t : Int) (w : World) (h : ¬ (-1 ≤ c ∧ c < 3 ∧ 0 ≤ t ∧ t < 3)) : Calls Try.prog 8 #[stV c t] w fun e w' => e = .returned (.bool false) ∧ Below w.heap.size w w' := by
  by_cases h0 : -1 ≤ c
  · by_cases h1 : c < 3
    · by_cases h2 : 0 ≤ t
      · have h3 : 3 ≤ t := by omega
        have g3 : decide (t < 3) = false := by simp; omega
        clear h
        go_enter Try.func8, Try.ntmps8
        go_wp2
        go_ret
        refine ⟨rfl, ?_⟩
        repeat (first | (with_reducible exact Below.refl _ _) | ((with_reducible refine Below.alloc ?_ ?hh _); case hh => (first | omega | (simp; omega) | simp)))
      · have g2 : decide (0 ≤ t) = false := by simp; omega
        clear h
        go_enter Try.func8, Try.ntmps8
        go_wp2
        go_ret
        refine ⟨rfl, ?_⟩
        repeat (first | (with_reducible exact Below.refl _ _) | ((with_reducible refine Below.alloc ?_ ?hh _); case hh => (first | omega | (simp; omega) | simp)))
    · have g1 : decide (c < 3) = false := by simp; omega
      clear h
      go_enter Try.func8, Try.ntmps8
      go_wp2
      go_ret
      refine ⟨rfl, ?_⟩
      repeat (first | (with_reducible exact Below.refl _ _) | ((with_reducible refine Below.alloc ?_ ?hh _); case hh => (first | omega | (simp; omega) | simp)))
  · have g0 : decide (-1 ≤ c) = false := by simp; omega
    clear h
    go_enter Try.func8, Try.ntmps8
    go_wp2
    go_ret
    refine ⟨rfl, ?_⟩
    repeat (first | (with_reducible exact Below.refl _ _) | ((with_reducible refine Below.alloc ?_ ?hh _); case hh => (first | omega | (simp; omega) | simp)))
end Go.Proofs.Ytehjooappfnoiaa
