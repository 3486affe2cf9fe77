/- SerialBack: for every input the law returns true: what the walk computes, way by way. -/
import Derived.Test.YtapofbedapjmbaaWalks
namespace Go.Proofs.Ytapofbedapjmbaa
open Go.ChangeShapes Go.WideShapes Go.ChangeAt Go.RowKit

/-- what the calls hand back, kept from the walk's sight -/
structure BackCalls (a b c d x y u v : Int) (n m : Bool) : Prop where
  h1 : ∀ w, Calls Try.prog 7 #[.int .u16 a, .int .u16 b] w fun e w' => e = .returned (.int .i64 x) ∧ w = w'
  h2 : ∀ w, Calls Try.prog 7 #[.int .u16 b, .int .u16 a] w fun e w' => e = .returned (.int .i64 y) ∧ w = w'
  h3 : ∀ w, Calls Try.prog 8 #[.int .u32 c, .int .u32 d] w fun e w' => e = .returned (.int .i64 u) ∧ w = w'
  h4 : ∀ w, Calls Try.prog 8 #[.int .u32 d, .int .u32 c] w fun e w' => e = .returned (.int .i64 v) ∧ w = w'
  h5 : ∀ w, Calls Try.prog 9 #[.int .u16 a, .int .u16 b] w fun e w' => e = .returned (.bool n) ∧ w = w'
  h6 : ∀ w, Calls Try.prog 9 #[.int .u16 b, .int .u16 a] w fun e w' => e = .returned (.bool m) ∧ w = w'

/-- the ways of the 32-bit half -/
def Way32 (u v : Int) : Prop := (u = -2147483648 ∧ v = -2147483648) ∨ (v = -u ∧ -2147483648 < u ∧ u ≤ 2147483647)

theorem back_half (a b c d u v : Int) (w : World) (H : BackCalls a b c d (-32768) (-32768) u v false false)
    (e1 : IntKind.u16.wrap (a + IntKind.u16.wrap (-32768)) = b) (hab : (a == b) = false) (e2 : (c + u % 4294967296) % 4294967296 = d) (hu : Way32 u v) :
    Calls Try.prog 3 #[.int .u16 a, .int .u16 b, .int .u32 c, .int .u32 d] w fun e w' => e = .returned (.bool true) ∧ w = w' := by
  rcases hu with ⟨rfl, rfl⟩ | ⟨rfl, h1, h2⟩
  · go_enter Try.func3, Try.ntmps3
    go_wp2_with fail
    refine (awake_true _).mono ?_; rintro e w' ⟨rfl, rfl⟩
    go_wp2_with fail
    refine (H.h1 _).mono ?_; rintro e w' ⟨rfl, rfl⟩
    go_wp2_with fail
    refine (H.h2 _).mono ?_; rintro e w' ⟨rfl, rfl⟩
    go_wp2_with fail
    refine (H.h3 _).mono ?_; rintro e w' ⟨rfl, rfl⟩
    go_wp2_with fail
    refine (H.h4 _).mono ?_; rintro e w' ⟨rfl, rfl⟩
    go_wp2_with fail
    go_ret
    exact ⟨rfl, rfl⟩
  · have h3 : (u == -2147483648) = false := by simp; omega
    have h4 : (u != -2147483648) = true := by simp; omega
    go_enter Try.func3, Try.ntmps3
    go_wp2_with fail
    refine (awake_true _).mono ?_; rintro e w' ⟨rfl, rfl⟩
    go_wp2_with fail
    refine (H.h1 _).mono ?_; rintro e w' ⟨rfl, rfl⟩
    go_wp2_with fail
    refine (H.h2 _).mono ?_; rintro e w' ⟨rfl, rfl⟩
    go_wp2_with fail
    refine (H.h3 _).mono ?_; rintro e w' ⟨rfl, rfl⟩
    go_wp2_with fail
    refine (H.h4 _).mono ?_; rintro e w' ⟨rfl, rfl⟩
    go_wp2_with fail
    go_ret
    exact ⟨rfl, rfl⟩

theorem back_same (a c d u v : Int) (w : World) (H : BackCalls a a c d 0 0 u v false false)
    (e1 : IntKind.u16.wrap a = a) (e2 : (c + u % 4294967296) % 4294967296 = d) (hu : Way32 u v) :
    Calls Try.prog 3 #[.int .u16 a, .int .u16 a, .int .u32 c, .int .u32 d] w fun e w' => e = .returned (.bool true) ∧ w = w' := by
  rcases hu with ⟨rfl, rfl⟩ | ⟨rfl, h1, h2⟩
  · go_enter Try.func3, Try.ntmps3
    go_wp2_with fail
    refine (awake_true _).mono ?_; rintro e w' ⟨rfl, rfl⟩
    go_wp2_with fail
    refine (H.h1 _).mono ?_; rintro e w' ⟨rfl, rfl⟩
    go_wp2_with fail
    refine (H.h2 _).mono ?_; rintro e w' ⟨rfl, rfl⟩
    go_wp2_with fail
    refine (H.h3 _).mono ?_; rintro e w' ⟨rfl, rfl⟩
    go_wp2_with fail
    refine (H.h4 _).mono ?_; rintro e w' ⟨rfl, rfl⟩
    go_wp2_with fail
    go_ret
    exact ⟨rfl, rfl⟩
  · have h3 : (u == -2147483648) = false := by simp; omega
    have h4 : (u != -2147483648) = true := by simp; omega
    go_enter Try.func3, Try.ntmps3
    go_wp2_with fail
    refine (awake_true _).mono ?_; rintro e w' ⟨rfl, rfl⟩
    go_wp2_with fail
    refine (H.h1 _).mono ?_; rintro e w' ⟨rfl, rfl⟩
    go_wp2_with fail
    refine (H.h2 _).mono ?_; rintro e w' ⟨rfl, rfl⟩
    go_wp2_with fail
    refine (H.h3 _).mono ?_; rintro e w' ⟨rfl, rfl⟩
    go_wp2_with fail
    refine (H.h4 _).mono ?_; rintro e w' ⟨rfl, rfl⟩
    go_wp2_with fail
    go_ret
    exact ⟨rfl, rfl⟩

theorem back_pos (a b x y c d u v : Int) (w : World) (H : BackCalls a b c d x y u v true false)
    (e1 : IntKind.u16.wrap (a + x) = b) (hab : (a == b) = false) (p1 : 0 < x) (p2 : x ≤ 32767) (py : y = -x) (e2 : (c + u % 4294967296) % 4294967296 = d) (hu : Way32 u v) :
    Calls Try.prog 3 #[.int .u16 a, .int .u16 b, .int .u32 c, .int .u32 d] w fun e w' => e = .returned (.bool true) ∧ w = w' := by
  have g3 : (x == -32768) = false := by simp; omega
  have g4 : (x != -32768) = true := by simp; omega
  have g5 : (y == -32768) = false := by simp; omega
  have g6 : (x != -y) = false := by simp; omega
  have g7 : (x == -y) = true := by simp; omega
  have q1 : -32768 < y := by omega
  have q2 : y ≤ 32767 := by omega
  have PY := Lib.hid py; clear py
  rcases hu with ⟨rfl, rfl⟩ | ⟨rfl, h1, h2⟩
  · go_enter Try.func3, Try.ntmps3
    go_wp2_with fail
    refine (awake_true _).mono ?_; rintro e w' ⟨rfl, rfl⟩
    go_wp2_with fail
    refine (H.h1 _).mono ?_; rintro e w' ⟨rfl, rfl⟩
    go_wp2_with fail
    refine (H.h2 _).mono ?_; rintro e w' ⟨rfl, rfl⟩
    go_wp2_with fail
    refine (H.h3 _).mono ?_; rintro e w' ⟨rfl, rfl⟩
    go_wp2_with fail
    refine (H.h4 _).mono ?_; rintro e w' ⟨rfl, rfl⟩
    go_wp2_with fail
    refine (H.h5 _).mono ?_; rintro e w' ⟨rfl, rfl⟩
    go_wp2_with fail
    refine (H.h6 _).mono ?_; rintro e w' ⟨rfl, rfl⟩
    go_wp2_with fail
    go_ret
    exact ⟨rfl, rfl⟩
  · have h3 : (u == -2147483648) = false := by simp; omega
    have h4 : (u != -2147483648) = true := by simp; omega
    go_enter Try.func3, Try.ntmps3
    go_wp2_with fail
    refine (awake_true _).mono ?_; rintro e w' ⟨rfl, rfl⟩
    go_wp2_with fail
    refine (H.h1 _).mono ?_; rintro e w' ⟨rfl, rfl⟩
    go_wp2_with fail
    refine (H.h2 _).mono ?_; rintro e w' ⟨rfl, rfl⟩
    go_wp2_with fail
    refine (H.h3 _).mono ?_; rintro e w' ⟨rfl, rfl⟩
    go_wp2_with fail
    refine (H.h4 _).mono ?_; rintro e w' ⟨rfl, rfl⟩
    go_wp2_with fail
    refine (H.h5 _).mono ?_; rintro e w' ⟨rfl, rfl⟩
    go_wp2_with fail
    refine (H.h6 _).mono ?_; rintro e w' ⟨rfl, rfl⟩
    go_wp2_with fail
    go_ret
    exact ⟨rfl, rfl⟩

theorem back_neg (a b x y c d u v : Int) (w : World) (H : BackCalls a b c d x y u v false true)
    (e1 : IntKind.u16.wrap (a + IntKind.u16.wrap x) = b) (hab : (a == b) = false) (p1 : -32768 < x) (p2 : x < 0) (py : y = -x) (e2 : (c + u % 4294967296) % 4294967296 = d) (hu : Way32 u v) :
    Calls Try.prog 3 #[.int .u16 a, .int .u16 b, .int .u32 c, .int .u32 d] w fun e w' => e = .returned (.bool true) ∧ w = w' := by
  have g3 : (x == -32768) = false := by simp; omega
  have g4 : (x != -32768) = true := by simp; omega
  have g5 : (y == -32768) = false := by simp; omega
  have g6 : (x != -y) = false := by simp; omega
  have g7 : (x == -y) = true := by simp; omega
  have q1 : -32768 < y := by omega
  have q2 : y ≤ 32767 := by omega
  have PY := Lib.hid py; clear py
  rcases hu with ⟨rfl, rfl⟩ | ⟨rfl, h1, h2⟩
  · go_enter Try.func3, Try.ntmps3
    go_wp2_with fail
    refine (awake_true _).mono ?_; rintro e w' ⟨rfl, rfl⟩
    go_wp2_with fail
    refine (H.h1 _).mono ?_; rintro e w' ⟨rfl, rfl⟩
    go_wp2_with fail
    refine (H.h2 _).mono ?_; rintro e w' ⟨rfl, rfl⟩
    go_wp2_with fail
    refine (H.h3 _).mono ?_; rintro e w' ⟨rfl, rfl⟩
    go_wp2_with fail
    refine (H.h4 _).mono ?_; rintro e w' ⟨rfl, rfl⟩
    go_wp2_with fail
    refine (H.h5 _).mono ?_; rintro e w' ⟨rfl, rfl⟩
    go_wp2_with fail
    refine (H.h6 _).mono ?_; rintro e w' ⟨rfl, rfl⟩
    go_wp2_with fail
    go_ret
    exact ⟨rfl, rfl⟩
  · have h3 : (u == -2147483648) = false := by simp; omega
    have h4 : (u != -2147483648) = true := by simp; omega
    go_enter Try.func3, Try.ntmps3
    go_wp2_with fail
    refine (awake_true _).mono ?_; rintro e w' ⟨rfl, rfl⟩
    go_wp2_with fail
    refine (H.h1 _).mono ?_; rintro e w' ⟨rfl, rfl⟩
    go_wp2_with fail
    refine (H.h2 _).mono ?_; rintro e w' ⟨rfl, rfl⟩
    go_wp2_with fail
    refine (H.h3 _).mono ?_; rintro e w' ⟨rfl, rfl⟩
    go_wp2_with fail
    refine (H.h4 _).mono ?_; rintro e w' ⟨rfl, rfl⟩
    go_wp2_with fail
    refine (H.h5 _).mono ?_; rintro e w' ⟨rfl, rfl⟩
    go_wp2_with fail
    refine (H.h6 _).mono ?_; rintro e w' ⟨rfl, rfl⟩
    go_wp2_with fail
    go_ret
    exact ⟨rfl, rfl⟩

theorem back_calls (a b c d : Int) : BackCalls a b c d (ah16 a b) (ah16 b a) (ah32 c d) (ah32 d c) (decide (0 < ah16 a b)) (decide (0 < ah16 b a)) :=
  ⟨fun _ => Ahead_any _ _ _, fun _ => Ahead_any _ _ _, fun _ => AheadLong_any _ _ _, fun _ => AheadLong_any _ _ _, fun _ => Newer_any _ _ _, fun _ => Newer_any _ _ _⟩

/-- the plain law of the 32-bit half -/
theorem way32 (c d : Int) (_hc : 0 ≤ c ∧ c ≤ 4294967295) (hd : 0 ≤ d ∧ d ≤ 4294967295) : (c + ah32 c d % 4294967296) % 4294967296 = d ∧ Way32 (ah32 c d) (ah32 d c) := by
  unfold Way32
  rw [ah32_eq, ah32_eq]
  omega

theorem back_walk (a b c d : Int) (w : World) (ha : 0 ≤ a ∧ a ≤ 65535) (hb : 0 ≤ b ∧ b ≤ 65535) (hc : 0 ≤ c ∧ c ≤ 4294967295) (hd : 0 ≤ d ∧ d ≤ 4294967295) :
    Calls Try.prog 3 #[.int .u16 a, .int .u16 b, .int .u32 c, .int .u32 d] w fun e w' => e = .returned (.bool true) ∧ w = w' := by
  have H := back_calls a b c d
  obtain ⟨e2, hu⟩ := way32 c d hc hd
  have e1 : IntKind.u16.wrap (a + IntKind.u16.wrap (ah16 a b)) = b := by rw [wrap_u16, wrap_u16, ah16_eq]; omega
  by_cases hab : a = b
  · subst hab
    have e0 : ah16 a a = 0 := by rw [ah16_eq]; omega
    rw [e0] at H
    exact back_same a c d _ _ w H (by rw [wrap_u16]; omega) e2 hu
  · have hab' : (a == b) = false := by simp [hab]
    by_cases hx : ah16 a b = -32768
    · have hy : ah16 b a = -32768 := by rw [ah16_eq] at hx ⊢; omega
      rw [hx, hy] at H
      rw [hx] at e1
      exact back_half a b c d _ _ w H e1 hab' e2 hu
    · have hy : ah16 b a = -ah16 a b := by rw [ah16_eq] at hx ⊢; rw [ah16_eq]; omega
      have hbd := ah16_bd a b
      by_cases hp : 0 < ah16 a b
      · rw [decide_eq_true hp, decide_eq_false (by omega : ¬ 0 < ah16 b a)] at H
        exact back_pos a b _ _ c d _ _ w H (by rw [wrap_u16, ah16_eq]; omega) hab' hp hbd.2 hy e2 hu
      · have h0 : ah16 a b ≠ 0 := by rw [ah16_eq]; omega
        rw [decide_eq_false hp, decide_eq_true (by omega : 0 < ah16 b a)] at H
        exact back_neg a b _ _ c d _ _ w H e1 hab' (by omega) (by omega) hy e2 hu
end Go.Proofs.Ytapofbedapjmbaa
