/- fair.Unfair: its answer is the first window that lacks a needed worker. -/
import Derived.Test.YtiljihehbfnakaaMem
namespace Go.Proofs.Ytiljihehbfnakaa
open Go.ChangeShapes Go.WideShapes Go.ChangeAt Go.RowKit
set_option linter.unusedVariables false

/-- what is counted when the k-th pick is met -/
def wat (ps : List Wk) (s k : Nat) : List Wk := (ps.drop (k + 1 - s)).take (k - (k + 1 - s))
def wat' (ps : List Wk) (s k : Nat) : List Wk := (ps.drop (k + 1 - s)).take (k + 1 - (k + 1 - s))
theorem wat_add {ps : List Wk} {s k : Nat} (hs : 1 ≤ s) (hk : k < ps.length) : wat' ps s k = wat ps s k ++ [ps.getD k (0, 0)] := by
  unfold wat wat'
  rw [show k + 1 - (k + 1 - s) = k - (k + 1 - s) + 1 from by omega, List.take_succ_eq_append_getElem (by simp; omega)]
  congr 2
  rw [List.getElem_drop, List.getD_eq_getElem?_getD, List.getElem?_eq_getElem hk]
  simp only [Option.getD_some]
  congr 1; omega
theorem wat_small {ps : List Wk} {s k : Nat} (h : k + 1 < s) : wat ps s (k + 1) = wat' ps s k := by
  unfold wat wat'
  rw [show k + 1 + 1 - s = 0 from by omega, show k + 1 - s = 0 from by omega]
theorem wat_tail {ps : List Wk} {s k : Nat} (hs : 1 ≤ s) (h : s ≤ k + 1) (hk : k < ps.length) : wat' ps s k = ps.getD (k + 1 - s) (0, 0) :: wat ps s (k + 1) := by
  unfold wat wat'
  have e : k + 1 - s < ps.length := by omega
  rw [List.drop_eq_getElem_cons e, show k + 1 - (k + 1 - s) = (s - 1) + 1 from by omega, List.take_succ_cons, show k + 1 + 1 - s = k + 1 - s + 1 from by omega, List.getD_eq_getElem?_getD, List.getElem?_eq_getElem e]
  simp only [Option.getD_some]
  congr 2; omega
theorem wat_win {ps : List Wk} {s k : Nat} (h : s ≤ k + 1) : wat' ps s k = win ps (k + 1 - s) s := by
  unfold wat' win
  rw [show k + 1 - (k + 1 - s) = s from by omega]
theorem wat_len {ps : List Wk} {s k : Nat} : (wat ps s k).length ≤ ps.length := by
  unfold wat; simp; omega
theorem wat_zero {ps : List Wk} {s : Nat} (hs : 1 ≤ s) : wat ps s 0 = [] := by
  unfold wat; simp
def cnt (l : List Wk) (x : Wk) : Int := (l.count x : Nat)
theorem cnt_add (l : List Wk) (x y : Wk) : (if y = x then cnt l x + 1 else cnt l y) = cnt (l ++ [x]) y := by
  unfold cnt
  rw [List.count_append]
  by_cases e : y = x
  · subst e; simp
  · have : List.count y [x] = 0 := List.count_eq_zero.2 (by simpa using e)
    rw [if_neg e, this]; rfl
theorem cnt_rem (l : List Wk) (x y : Wk) : (if y = x then cnt (x :: l) x - 1 else cnt (x :: l) y) = cnt l y := by
  unfold cnt
  by_cases e : y = x
  · subst e; simp
  · rw [if_neg e, List.count_cons_of_ne (fun h => e h.symm)]
theorem cnt_le (l : List Wk) (x : Wk) : 0 ≤ cnt l x ∧ cnt l x ≤ l.length := by
  unfold cnt
  have := List.count_le_length (a := x) (l := l)
  omega
theorem cnt_zero {l : List Wk} {x : Wk} : cnt l x = 0 ↔ x ∉ l := by
  unfold cnt
  rw [show ((l.count x : Nat) : Int) = 0 ↔ l.count x = 0 from by omega, List.count_eq_zero]
theorem cnt_out (l : List Wk) (x : Wk) {ds : List Wk} (h : x ∉ ds) : ∀ y ∈ ds, cnt l y = cnt (l ++ [x]) y := by
  intro y hy
  have ne : y ≠ x := fun e => h (e ▸ hy)
  rw [← cnt_add, if_neg ne]
theorem cnt_out' (l : List Wk) (x : Wk) {ds : List Wk} (h : x ∉ ds) : ∀ y ∈ ds, cnt (x :: l) y = cnt l y := by
  intro y hy
  have ne : y ≠ x := fun e => h (e ▸ hy)
  rw [← cnt_rem l x, if_neg ne]
theorem miss_new {ds l : List Wk} {x : Wk} (hn : ds.Nodup) (hx : x ∈ ds) (h : cnt l x = 0) : miss ds l = miss ds (l ++ [x]) + 1 :=
  miss_less hn hx (cnt_zero.1 h) (by simp) (fun y _ hy => by simp [hy])
theorem miss_old {ds l : List Wk} {x : Wk} (h : x ∉ ds ∨ cnt l x ≠ 0) : miss ds l = miss ds (l ++ [x]) := by
  refine miss_congr fun y hy => ?_
  by_cases e : y = x
  · subst e
    rcases h with h | h
    · exact absurd hy h
    · have : y ∈ l := Classical.not_not.1 fun q => h (cnt_zero.2 q)
      simp [this]
  · simp [e]
theorem miss_rem {ds l : List Wk} {x : Wk} (hn : ds.Nodup) (hx : x ∈ ds) (h : cnt (x :: l) x = 1) : miss ds l = miss ds (x :: l) + 1 := by
  have hl : x ∉ l := cnt_zero.1 (by have := cnt_rem l x x; rw [if_pos rfl] at this; omega)
  exact miss_less hn hx hl (by simp) (fun y _ hy => by simp [hy])
theorem miss_rem_old {ds l : List Wk} {x : Wk} (h : x ∉ ds ∨ cnt (x :: l) x ≠ 1) : miss ds l = miss ds (x :: l) := by
  refine miss_congr fun y hy => ?_
  by_cases e : y = x
  · subst e
    rcases h with h | h
    · exact absurd hy h
    · have : y ∈ l := Classical.not_not.1 fun q => h (by have := cnt_rem l y y; rw [if_pos rfl, cnt_zero.2 q] at this; omega)
      simp [this]
  · simp [e]
theorem miss_le (ds l : List Wk) : miss ds l ≤ ds.length := List.countP_le_length
theorem take_next {l : List Wk} {k : Nat} (hk : k < l.length) : l.take (k + 1) = l.take k ++ [l.getD k (0, 0)] := by
  rw [List.take_succ_eq_append_getElem hk, List.getD_eq_getElem?_getD, List.getElem?_eq_getElem hk]; rfl
theorem getD_mem {l : List Wk} {k : Nat} (hk : k < l.length) : l.getD k (0, 0) ∈ l := by
  rw [List.getD_eq_getElem?_getD, List.getElem?_eq_getElem hk]; exact List.getElem_mem hk
theorem okI_small {n : Int} (h : -1000000 ≤ n) (h' : n ≤ 1000000) : okI n := by
  unfold okI; exact WalkArith.wf_i64 ⟨by omega, by omega⟩
end Go.Proofs.Ytiljihehbfnakaa
