/- The small walks: within, Drains, Ends, the document's Drains, Has, Same. -/
import Derived.Test.YtiljihehbfnakaaUnfairW
namespace Go.Proofs.Ytiljihehbfnakaa
open Go.ChangeShapes Go.WideShapes Go.ChangeAt Go.RowKit
set_option linter.unusedVariables false

def inB (n most : Int) : Bool := decide (1 ≤ n) && decide (n ≤ most)
theorem within_any (n most : Int) (w : World) : Calls Try.prog 17 #[.int .i64 n, .int .i64 most] w fun e w' => e = .returned (.bool (inB n most)) ∧ ∃ j, w' = w.drewN j := by
  unfold inB
  by_cases h0 : 1 ≤ n
  · by_cases h1 : n ≤ most
    · go_enter Try.func17, Try.ntmps17
      go_wp2
      go_ret
      exact ⟨by simp [h0, h1], 0, rfl⟩
    · go_enter Try.func17, Try.ntmps17
      go_wp2
      go_ret
      exact ⟨by simp [h1], 0, rfl⟩
  · go_enter Try.func17, Try.ntmps17
    go_wp2
    go_ret
    exact ⟨by rw [show decide (1 ≤ n) = false from by simp; omega]; rfl, 0, rfl⟩

def endsI (n : Int) : Int × Int := if inB n 1000 then (5 * n, 0) else (0, 1)
theorem ends_any (n : Int) (w : World) : Calls Try.prog 12 #[.int .i64 n] w fun e w' => e = .returned (.tuple #[.int .i64 (endsI n).1, .int .i64 (endsI n).2]) ∧ ∃ j, w' = w.drewN j := by
  go_enter Try.func12, Try.ntmps12
  go_wp2_with fail
  refine (within_any _ _ _).mono ?_
  rintro e w1 ⟨rfl, j, rfl⟩
  cases hb : inB n 1000
  · have hu : endsI n = (0, 1) := by simp [endsI, hb]
    go_wp2_with fail
    refine bodyPost_ret (v := .tuple #[.int .i64 0, .int .i64 1]) (by simp [results, Try.results12, go_sem]) rfl ⟨by rw [hu], j, rfl⟩
  · have hu : endsI n = (5 * n, 0) := by simp [endsI, hb]
    simp only [inB, Bool.and_eq_true, decide_eq_true_eq] at hb
    obtain ⟨b1, b2⟩ := hb
    go_wp2_with fail
    refine bodyPost_ret (v := .tuple #[.int .i64 (5 * n), .int .i64 0]) (by simp [results, Try.results12, go_sem]) rfl ⟨by rw [hu], j, rfl⟩

def drainsI (a b c : Int) : Int × Int := if inB a 1000 && inB b 8 && inB c 8 then (a * (5 * b + 9 * c), 0) else (0, 1)
theorem drains_any (a b c : Int) (w : World) : Calls Try.prog 10 #[.int .i64 a, .int .i64 b, .int .i64 c] w fun e w' => e = .returned (.tuple #[.int .i64 (drainsI a b c).1, .int .i64 (drainsI a b c).2]) ∧ ∃ j, w' = w.drewN j := by
  go_enter Try.func10, Try.ntmps10
  go_wp2_with fail
  refine (within_any _ _ _).mono ?_
  rintro e w1 ⟨rfl, j, rfl⟩
  cases ha : inB a 1000
  · have hu : drainsI a b c = (0, 1) := by simp [drainsI, ha]
    go_wp2_with fail
    refine bodyPost_ret (v := .tuple #[.int .i64 0, .int .i64 1]) (by simp [results, Try.results10, go_sem]) rfl ⟨by rw [hu], _, rfl⟩
  go_wp2_with fail
  refine (within_any _ _ _).mono ?_
  rintro e w1 ⟨rfl, j2, rfl⟩
  cases hb : inB b 8
  · have hu : drainsI a b c = (0, 1) := by simp [drainsI, hb]
    go_wp2_with fail
    refine bodyPost_ret (v := .tuple #[.int .i64 0, .int .i64 1]) (by simp [results, Try.results10, go_sem]) rfl ⟨by rw [hu], _, rfl⟩
  go_wp2_with fail
  refine (within_any _ _ _).mono ?_
  rintro e w1 ⟨rfl, j3, rfl⟩
  cases hc : inB c 8
  · have hu : drainsI a b c = (0, 1) := by simp [drainsI, hc]
    go_wp2_with fail
    refine bodyPost_ret (v := .tuple #[.int .i64 0, .int .i64 1]) (by simp [results, Try.results10, go_sem]) rfl ⟨by rw [hu], _, rfl⟩
  have hu : drainsI a b c = (a * (5 * b + 9 * c), 0) := by simp [drainsI, ha, hb, hc]
  have HU := Lib.hid hu; clear hu
  simp only [inB, Bool.and_eq_true, decide_eq_true_eq] at ha hb hc
  obtain ⟨a1, a2⟩ := ha
  obtain ⟨b1, b2⟩ := hb
  obtain ⟨c1, c2⟩ := hc
  have m1 : 0 ≤ 5 * b + 9 * c := by omega
  have m2 : 5 * b + 9 * c ≤ 112 := by omega
  have m3 : 0 ≤ a * (5 * b + 9 * c) := Int.mul_nonneg (by omega) m1
  have m4 : a * (5 * b + 9 * c) ≤ 1000 * 112 := Int.mul_le_mul a2 m2 m1 (by omega)
  go_wp2_with fail
  refine bodyPost_ret (v := .tuple #[.int .i64 (a * (5 * b + 9 * c)), .int .i64 0]) (by simp [results, Try.results10, go_sem]) rfl ⟨by rw [HU.out], _, rfl⟩

theorem rdrains_any (a b c : Int) (w : World) : Calls Try.prog 11 #[.int .i64 a, .int .i64 b, .int .i64 c] w fun e w' => e = .returned (.tuple #[.int .i64 (drainsI a b c).1, .int .i64 (drainsI a b c).2]) ∧ ∃ j, w' = w.drewN j := by
  by_cases h0 : a < 1
  · have hu : drainsI a b c = (0, 1) := by simp [drainsI, inB]; omega
    go_enter Try.func11, Try.ntmps11
    go_wp2_with fail
    refine bodyPost_ret (v := .tuple #[.int .i64 0, .int .i64 1]) (by simp [results, Try.results11, go_sem]) rfl ⟨(by first | rfl | rw [hu]), 0, rfl⟩
  by_cases h1 : 1000 < a
  · have hu : drainsI a b c = (0, 1) := by simp [drainsI, inB]; omega
    go_enter Try.func11, Try.ntmps11
    go_wp2_with fail
    refine bodyPost_ret (v := .tuple #[.int .i64 0, .int .i64 1]) (by simp [results, Try.results11, go_sem]) rfl ⟨(by first | rfl | rw [hu]), 0, rfl⟩
  by_cases h2 : b < 1
  · have hu : drainsI a b c = (0, 1) := by simp [drainsI, inB]; omega
    go_enter Try.func11, Try.ntmps11
    go_wp2_with fail
    refine bodyPost_ret (v := .tuple #[.int .i64 0, .int .i64 1]) (by simp [results, Try.results11, go_sem]) rfl ⟨(by first | rfl | rw [hu]), 0, rfl⟩
  by_cases h3 : 8 < b
  · have hu : drainsI a b c = (0, 1) := by simp [drainsI, inB]; omega
    go_enter Try.func11, Try.ntmps11
    go_wp2_with fail
    refine bodyPost_ret (v := .tuple #[.int .i64 0, .int .i64 1]) (by simp [results, Try.results11, go_sem]) rfl ⟨(by first | rfl | rw [hu]), 0, rfl⟩
  by_cases h4 : c < 1
  · have hu : drainsI a b c = (0, 1) := by simp [drainsI, inB]; omega
    go_enter Try.func11, Try.ntmps11
    go_wp2_with fail
    refine bodyPost_ret (v := .tuple #[.int .i64 0, .int .i64 1]) (by simp [results, Try.results11, go_sem]) rfl ⟨(by first | rfl | rw [hu]), 0, rfl⟩
  by_cases h5 : 8 < c
  · have hu : drainsI a b c = (0, 1) := by simp [drainsI, inB]; omega
    go_enter Try.func11, Try.ntmps11
    go_wp2_with fail
    refine bodyPost_ret (v := .tuple #[.int .i64 0, .int .i64 1]) (by simp [results, Try.results11, go_sem]) rfl ⟨(by first | rfl | rw [hu]), 0, rfl⟩
  have hu : drainsI a b c = (5 * a * b + 9 * a * c, 0) := by
    have : inB a 1000 = true ∧ inB b 8 = true ∧ inB c 8 = true := by simp [inB]; omega
    obtain ⟨q1, q2, q3⟩ := this
    have e : a * (5 * b + 9 * c) = 5 * a * b + 9 * a * c := by rw [Int.mul_add, ← Int.mul_assoc, ← Int.mul_assoc, Int.mul_comm a 5, Int.mul_comm a 9]
    simp [drainsI, q1, q2, q3, e]
  have HU := Lib.hid hu; clear hu
  have m0 : 0 ≤ 5 * a * b := Int.mul_nonneg (by omega) (by omega)
  have m1 : 5 * a * b ≤ 5000 * 8 := Int.mul_le_mul (by omega) (by omega) (by omega) (by omega)
  have m2 : 0 ≤ 9 * a * c := Int.mul_nonneg (by omega) (by omega)
  have m3 : 9 * a * c ≤ 9000 * 8 := Int.mul_le_mul (by omega) (by omega) (by omega) (by omega)
  go_enter Try.func11, Try.ntmps11
  go_wp2_with fail
  refine bodyPost_ret (v := .tuple #[.int .i64 (5 * a * b + 9 * a * c), .int .i64 0]) (by simp [results, Try.results11, go_sem]) rfl ⟨by rw [HU.out], 0, rfl⟩
/-- a slice of a slice of workers -/
theorem slice_run (t : TypeId) (ht : t = 28 ∨ t = 23) (b off n c k s : Nat) (hs : 1 ≤ s) (h : k + s ≤ c) (W : World) : (Instr.slice t (.slice (some ⟨b, off, none⟩) n c) (some (.int .i64 k)) (some (.int .i64 (k + s))) none).run Try.prog W = .ok (.slice (some ⟨b, off + k * 2, none⟩) s (c - k)) W := by
  have h1 : (0 : Int) ≤ (k : Int) + (s : Int) ∧ (k : Int) + (s : Int) ≤ (c : Int) := by omega
  have h2 : ((k : Int) + (s : Int)).toNat = k + s := by omega
  have h4 : ¬ c = k := by omega
  have h5 : k + s - k = s := by omega
  rcases ht with rfl | rfl
  · simp [Instr.slice, go_sem, h1, h2, h4, h5]
  · simp [Instr.slice, go_sem, h1, h2, h4, h5]
end Go.Proofs.Ytiljihehbfnakaa
