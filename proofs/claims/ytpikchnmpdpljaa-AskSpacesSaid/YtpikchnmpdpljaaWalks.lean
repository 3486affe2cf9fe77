/- The walks of layer 15 (ask): what each inner function hands back. -/
import Derived.Test.YtpikchnmpdpljaaBase
namespace Go.Proofs.Ytpikchnmpdpljaa
open Go.ChangeShapes Go.WideShapes Go.ChangeAt Go.RowKit
set_option linter.unusedVariables false

abbrev ruV (S R : Int) : Value := .agg #[.int .i64 S, .int .i64 R]
abbrev stV (wa an : Bool) (la tr : Int) : Value := .agg #[.bool wa, .bool an, .int .i64 la, .int .i64 tr]
/-- a gap doubled n times, till it is at least R -/
def dbl (S R : Int) : Nat → Int
  | 0 => S
  | n + 1 => if R ≤ dbl S R n then dbl S R n else 2 * dbl S R n
def gapV (S R t : Int) : Int := if dbl S R (t - 1).toNat < R then dbl S R (t - 1).toNat else R
theorem dbl_lo {S R : Int} (h0 : 1 ≤ S) : ∀ n, 1 ≤ dbl S R n
  | 0 => h0
  | n + 1 => by have := dbl_lo (R := R) h0 n; unfold dbl; split <;> omega
theorem dbl_grow {S R : Int} (h0 : 1 ≤ S) : ∀ n, dbl S R n < R → (n : Int) + 1 ≤ dbl S R n
  | 0, _ => by unfold dbl; omega
  | n + 1, h => by
    unfold dbl at h ⊢
    have hl := dbl_lo (R := R) h0 n
    by_cases hc : R ≤ dbl S R n
    · rw [if_pos hc] at h; omega
    · rw [if_neg hc]
      have := dbl_grow (R := R) h0 n (by omega)
      omega
theorem dbl_stay {S R : Int} {k : Nat} (h : R ≤ dbl S R k) : ∀ n, dbl S R (k + n) = dbl S R k
  | 0 => rfl
  | n + 1 => by
    have := dbl_stay h n
    rw [show k + (n + 1) = (k + n) + 1 from rfl, dbl, this, if_pos h]
theorem gapV_bd {S R t : Int} (h0 : 1 ≤ S) (h1 : S ≤ R) : 1 ≤ gapV S R t ∧ gapV S R t ≤ R := by
  have := dbl_lo (R := R) h0 (t - 1).toNat
  unfold gapV; split <;> omega

theorem right_yes (S R : Int) (w : World) (h0 : 1 ≤ S) (h1 : S ≤ R) (h2 : R ≤ 1000) : Calls Try.prog 7 #[ruV S R] w fun e w' => e = .returned (.bool true) ∧ w' = w.alloc (.cells #[.int .i64 S, .int .i64 R] 23) := by
  go_enter Try.func7, Try.ntmps7
  go_wp2
  go_ret
  exact ⟨rfl, rfl⟩
theorem rright_yes (S R : Int) (w : World) (h0 : 1 ≤ S) (h1 : S ≤ R) (h2 : R ≤ 1000) : Calls Try.prog 8 #[ruV S R] w fun e w' => e = .returned (.bool true) ∧ w' = w.alloc (.cells #[.int .i64 S, .int .i64 R] 28) := by
  go_enter Try.func8, Try.ntmps8
  go_wp2
  go_ret
  exact ⟨rfl, rfl⟩
theorem right_no (S R : Int) (w : World) (h : ¬ (1 ≤ S ∧ S ≤ R ∧ R ≤ 1000)) : Calls Try.prog 7 #[ruV S R] w fun e w' => e = .returned (.bool false) ∧ w' = w.alloc (.cells #[.int .i64 S, .int .i64 R] 23) := by
  by_cases h0 : 1 ≤ S
  · by_cases h1 : S ≤ R
    · have g2 : decide (R ≤ 1000) = false := by simp; omega
      clear h
      go_enter Try.func7, Try.ntmps7
      go_wp2
      go_ret
      exact ⟨rfl, rfl⟩
    · have g1 : decide (S ≤ R) = false := by simp; omega
      clear h
      go_enter Try.func7, Try.ntmps7
      go_wp2
      go_ret
      exact ⟨rfl, rfl⟩
  · have g0 : decide (1 ≤ S) = false := by simp; omega
    clear h
    go_enter Try.func7, Try.ntmps7
    go_wp2
    go_ret
    exact ⟨rfl, rfl⟩
theorem rright_no (S R : Int) (w : World) (h : ¬ (1 ≤ S ∧ S ≤ R ∧ R ≤ 1000)) : Calls Try.prog 8 #[ruV S R] w fun e w' => e = .returned (.bool false) ∧ w' = w.alloc (.cells #[.int .i64 S, .int .i64 R] 28) := by
  by_cases h0 : 1 ≤ S
  · by_cases h1 : S ≤ R
    · have g2 : decide (R ≤ 1000) = false := by simp; omega
      clear h
      go_enter Try.func8, Try.ntmps8
      go_wp2
      go_ret
      exact ⟨rfl, rfl⟩
    · have g1 : decide (S ≤ R) = false := by simp; omega
      clear h
      go_enter Try.func8, Try.ntmps8
      go_wp2
      go_ret
      exact ⟨rfl, rfl⟩
  · have g0 : decide (1 ≤ S) = false := by simp; omega
    clear h
    go_enter Try.func8, Try.ntmps8
    go_wp2
    go_ret
    exact ⟨rfl, rfl⟩

theorem gap_any (S R t : Int) (w : World) (h0 : 1 ≤ S) (h1 : S ≤ R) (h2 : R ≤ 1000) : Calls Try.prog 9 #[ruV S R, .int .i64 t] w fun e w' => e = .returned (.int .i64 (gapV S R t)) ∧ w' = w.alloc (.cells #[.int .i64 S, .int .i64 R] 23) := by
  go_enter Try.func9, Try.ntmps9
  go_wp2
  go_step3
  go_wp2
  go_step3
  go_wp2
  go_loop [5, 6] (fun g i => ∃ (k : Nat) (d : Int), i = .int .i64 (1 + (k : Int)) ∧ g = .int .i64 d ∧ d = dbl S R k ∧ 1 ≤ d ∧ d ≤ 2000 ∧ (k = 0 ∨ (k : Int) < t) ∧ (k : Int) ≤ 1000) (fun g _ => (R - intOf g).toNat)
  case atStart => exact ⟨0, S, rfl, rfl, rfl, h0, by omega, .inl rfl, by omega⟩
  case round =>
    obtain ⟨k, d, rfl, rfl, hd, d0, d1, hk, hk2⟩ := hrel
    have HD := Lib.hid hd; have HK := Lib.hid hk; clear hd hk
    by_cases ht : 1 + (k : Int) < t
    · by_cases hR : R ≤ d
      · have hmin : gapV S R t = R := by
          have e : (t - 1).toNat = k + ((t - 1).toNat - k) := by omega
          rw [gapV, e, dbl_stay (by rw [← HD.out]; exact hR), ← HD.out, if_neg (by omega)]
        have HM := Lib.hid hmin; clear hmin
        go_wp2
        all_goals go_ret
        all_goals exact ⟨ret_int (by rw [HM.out]; try omega), rfl⟩
      · have hgrow := dbl_grow (R := R) h0 k (by rw [← HD.out]; omega)
        have hgrow2 : (k : Int) + 1 ≤ d := by rw [HD.out]; exact hgrow
        clear hgrow
        go_wp2
        go_round
        case rel =>
          refine ⟨k + 1, d * 2, by go_num, rfl, ?_, by omega, by omega, .inr (by omega), by omega⟩
          rw [dbl, ← HD.out, if_neg (by omega)]
          omega
        case measure => simp [intOf]; omega
    · have hk : (t - 1).toNat = k := by have := HK.out; omega
      by_cases hR : d < R
      · have hmin : gapV S R t = d := by rw [gapV, hk, ← HD.out, if_pos hR]
        have HM := Lib.hid hmin; clear hmin hk
        go_wp2
        all_goals go_ret
        all_goals exact ⟨ret_int (by rw [HM.out]; try omega), rfl⟩
      · have hmin : gapV S R t = R := by rw [gapV, hk, ← HD.out, if_neg hR]
        have HM := Lib.hid hmin; clear hmin hk
        go_wp2
        all_goals go_ret
        all_goals exact ⟨ret_int (by rw [HM.out]; try omega), rfl⟩
theorem rgap_any (S R t : Int) (w : World) (h0 : 1 ≤ S) (h1 : S ≤ R) (h2 : R ≤ 1000) : Calls Try.prog 10 #[ruV S R, .int .i64 t] w fun e w' => e = .returned (.int .i64 (gapV S R t)) ∧ w' = w.alloc (.cells #[.int .i64 S, .int .i64 R] 28) := by
  go_enter Try.func10, Try.ntmps10
  go_wp2
  go_loop [5, 6] (fun g i => ∃ (k : Nat) (d : Int), i = .int .i64 (1 + (k : Int)) ∧ g = .int .i64 d ∧ d = dbl S R k ∧ 1 ≤ d ∧ d ≤ 2000 ∧ (k = 0 ∨ (k : Int) < t) ∧ (k : Int) ≤ 1000) (fun g _ => (R - intOf g).toNat)
  case atStart => exact ⟨0, S, rfl, rfl, rfl, h0, by omega, .inl rfl, by omega⟩
  case round =>
    obtain ⟨k, d, rfl, rfl, hd, d0, d1, hk, hk2⟩ := hrel
    have HD := Lib.hid hd; have HK := Lib.hid hk; clear hd hk
    by_cases ht : 1 + (k : Int) < t
    · by_cases hR : R ≤ d
      · have hmin : gapV S R t = R := by
          have e : (t - 1).toNat = k + ((t - 1).toNat - k) := by omega
          rw [gapV, e, dbl_stay (by rw [← HD.out]; exact hR), ← HD.out, if_neg (by omega)]
        have HM := Lib.hid hmin; clear hmin
        have g0 : decide (d < R) = false := by simp; omega
        rcases Int.lt_or_eq_of_le hR with hR1 | hR1
        · go_wp2
          go_ret
          exact ⟨ret_int HM.out.symm, rfl⟩
        · subst hR1
          go_wp2
          go_ret
          exact ⟨ret_int HM.out.symm, rfl⟩
      · have hgrow := dbl_grow (R := R) h0 k (by rw [← HD.out]; omega)
        have hgrow2 : (k : Int) + 1 ≤ d := by rw [HD.out]; exact hgrow
        clear hgrow
        have hR' : d < R := by omega
        go_wp2
        go_round
        case rel =>
          refine ⟨k + 1, 2 * d, by go_num, rfl, ?_, by omega, by omega, .inr (by omega), by omega⟩
          rw [dbl, ← HD.out, if_neg (by omega)]
        case measure => simp [intOf]; omega
    · have hk : (t - 1).toNat = k := by have := HK.out; omega
      by_cases hR : d < R
      · have hmin : gapV S R t = d := by rw [gapV, hk, ← HD.out, if_pos hR]
        have HM := Lib.hid hmin; clear hmin hk
        go_wp2
        go_ret
        exact ⟨ret_int HM.out.symm, rfl⟩
      · have hmin : gapV S R t = R := by rw [gapV, hk, ← HD.out, if_neg hR]
        have HM := Lib.hid hmin; clear hmin hk
        by_cases hR1 : R < d
        · go_wp2
          go_ret
          exact ⟨ret_int HM.out.symm, rfl⟩
        · have : R = d := by omega
          subst this
          go_wp2
          go_ret
          exact ⟨ret_int HM.out.symm, rfl⟩
end Go.Proofs.Ytpikchnmpdpljaa
