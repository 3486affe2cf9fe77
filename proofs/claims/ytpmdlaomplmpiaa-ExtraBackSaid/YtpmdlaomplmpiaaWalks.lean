/- The walks of layer 5 (extra): what each inner function hands back. -/
import Derived.Test.YtpmdlaomplmpiaaMem
namespace Go.Proofs.Ytpmdlaomplmpiaa
open Go.ChangeShapes Go.WideShapes Go.ChangeAt Go.RowKit
set_option linter.unusedVariables false

abbrev itV (nm : Int) (A : Option Addr) (n c : Nat) : Value := .agg #[.int .u8 nm, .slice A n c]
def rightN (nm : Int) (n : Nat) : Bool := decide (1 ≤ nm) && decide (nm ≤ 14) && decide (1 ≤ n) && decide (n ≤ 16)

theorem right_any (nm : Int) (A : Option Addr) (n c : Nat) (w : World) : Calls Try.prog 12 #[itV nm A n c] w fun e w' => e = .returned (.bool (rightN nm n)) ∧ w' = w.alloc (.cells #[.int .u8 nm, .slice A n c] 37) := by
  unfold rightN
  by_cases h0 : 1 ≤ nm
  · by_cases h1 : nm ≤ 14
    · by_cases h2 : 1 ≤ n
      · by_cases h3 : n ≤ 16
        · have g3 : (n : Int) ≤ 16 := by omega
          have g2 : 1 ≤ (n : Int) := by omega
          go_enter Try.func12, Try.ntmps12
          go_wp2
          go_ret
          exact ⟨by simp [h0, h1, h2, h3, g3, g2], rfl⟩
        · have g3 : decide ((n : Int) ≤ 16) = false := by simp; omega
          go_enter Try.func12, Try.ntmps12
          go_wp2
          go_ret
          exact ⟨by simp [h3], rfl⟩
      · have g2 : decide (1 ≤ (n : Int)) = false := by simp; omega
        go_enter Try.func12, Try.ntmps12
        go_wp2
        go_ret
        exact ⟨by simp [h2], rfl⟩
    · have g1 : decide (nm ≤ 14) = false := by simp; omega
      go_enter Try.func12, Try.ntmps12
      go_wp2
      go_ret
      exact ⟨by simp [h1], rfl⟩
  · have g0 : decide (1 ≤ nm) = false := by simp; omega
    go_enter Try.func12, Try.ntmps12
    go_wp2
    go_ret
    exact ⟨by simp [h0], rfl⟩

/-- are items more than are looked at here? -/
def largeB (l : List It) : Bool := decide (40 < l.length) || l.any fun x => decide (400 < x.2.length)

theorem large_any (A : Option Addr) (n c : Nat) (l : List It) (w : World) (h : ItemsAt w w.heap.size A n l) : Calls Try.prog 5 #[.slice A n c] w fun e w' => e = .returned (.bool (largeB l)) ∧ Below w.heap.size w w' := by
  obtain ⟨hl, hr, hc⟩ := h
  by_cases h40 : 40 < n
  · have hL : largeB l = true := by simp [largeB, hl, h40]
    go_enter Try.func5, Try.ntmps5
    go_wp2
    go_ret
    exact ⟨by rw [hL]; rfl, Below.refl _ _⟩
  · go_enter Try.func5, Try.ntmps5
    go_wp2
    go_loopw [10] (fun i wr => ∃ k : Nat, i = .int .i64 k ∧ k ≤ n ∧ (∀ j, j < k → (l.getD j (0, [])).2.length ≤ 400) ∧ Below w.heap.size w wr) (fun i _ => n - (intOf i).toNat)
    case atStart => exact ⟨0, rfl, by omega, fun j hj => absurd hj (by omega), Below.refl _ _⟩
    case round =>
      rename_i wr
      obtain ⟨k, rfl, hk, hs, dr⟩ := hrel
      by_cases hlt : k < n
      · obtain ⟨b, off, rfl, hb, hcell⟩ := hc (by omega)
        obtain ⟨a, m, c', e1, e2, e3, e4, e5⟩ := hcell k hlt
        have e1' := (dr.cell (p := ⟨b, off + k * 2, none⟩) hb).trans e1
        have e2' := (dr.cell (p := ⟨b, off + k * 2 + 1, none⟩) hb).trans e2
        have hm : (l.getD k (0, [])).2.length = m := e5.1
        have HS := Lib.hid hs; have HM := Lib.hid hm; have HC := Lib.hid hcell
        clear hs hm hcell e1 e2 e5 hc
        by_cases h4 : 400 < m
        · go_wp2
          go_ret
          refine ⟨?_, dr.alloc dr.size _⟩
          have hL : largeB l = true := by
            simp only [largeB, Bool.or_eq_true, decide_eq_true_eq, List.any_eq_true]
            refine .inr ⟨l[k]'(by omega), List.getElem_mem _, ?_⟩
            have := HM.out
            rw [List.getD_eq_getElem?_getD, List.getElem?_eq_getElem (by omega)] at this
            simp at this; omega
          rw [hL]; rfl
        · go_wp2
          go_roundw
          case rel =>
            refine ⟨k + 1, by go_num, by omega, fun j hj => ?_, dr.alloc dr.size _⟩
            rcases Nat.lt_or_ge j k with hj' | hj'
            · exact HS.out j hj'
            · have : j = k := by omega
              subst this
              rw [HM.out]; omega
          case measure => simp [intOf]; omega
      · have hk' : k = n := by omega
        subst hk'
        have hL : largeB l = false := by
          simp only [largeB, Bool.or_eq_false_iff, decide_eq_false_iff_not, List.any_eq_false, decide_eq_true_eq]
          refine ⟨by omega, fun x hx => ?_⟩
          obtain ⟨j, hj, rfl⟩ := List.getElem_of_mem hx
          have := hs j (by omega)
          rw [List.getD_eq_getElem?_getD, List.getElem?_eq_getElem hj] at this
          simp at this; omega
        have HL := Lib.hid hL; clear hL hs
        go_wp2
        go_ret
        exact ⟨by rw [HL.out]; rfl, dr⟩
end Go.Proofs.Ytpmdlaomplmpiaa
