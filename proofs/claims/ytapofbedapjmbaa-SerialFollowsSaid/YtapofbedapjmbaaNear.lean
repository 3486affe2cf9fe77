/- SerialNear: the walk. -/
import Derived.Test.YtapofbedapjmbaaWalks
namespace Go.Proofs.Ytapofbedapjmbaa
open Go.ChangeShapes Go.WideShapes Go.ChangeAt Go.RowKit

theorem ext_eq (n s : Int) (h0 : 0 ≤ n) (h1 : n ≤ 4611686018427387904) (hs : 0 ≤ s ∧ s ≤ 65535) : ext n s = n + ((s - n + 32768) % 65536 - 32768) := by
  unfold ext
  rw [ah16_eq, wrap_u16, IntWalk.wrap64_in _ (by omega)]
  omega

/-- far out of the range -/
theorem near_out (n s o : Int) (w : World) (h : n < 0 ∨ 4611686018427387904 < n) :
    Calls Try.prog 4 #[.int .i64 n, .int .u16 s, .int .i16 o] w fun e w' => e = .returned (.bool true) ∧ w = w' := by
  rcases h with h | h
  · go_enter Try.func4, Try.ntmps4
    go_wp2_with (go_at_call 6; refine (awake_true _).mono ?_; rintro e w' ⟨rfl, rfl⟩)
    go_ret
    exact ⟨rfl, rfl⟩
  · have h' : 0 ≤ n := by omega
    go_enter Try.func4, Try.ntmps4
    go_wp2_with (go_at_call 6; refine (awake_true _).mono ?_; rintro e w' ⟨rfl, rfl⟩)
    go_ret
    exact ⟨rfl, rfl⟩

/-- what the calls hand back -/
structure NearCalls (n s o x y : Int) : Prop where
  c1 : ∀ w, Calls Try.prog 10 #[.int .i64 n, .int .u16 s] w fun e w' => e = .returned (.int .i64 x) ∧ w = w'
  c2 : ∀ w, Calls Try.prog 11 #[.int .i64 x] w fun e w' => e = .returned (.int .u16 s) ∧ w = w'
  c3 : ∀ w, Calls Try.prog 11 #[.int .i64 (n + o)] w fun e w' => e = .returned (.int .u16 y) ∧ w = w'
  c4 : ∀ w, Calls Try.prog 10 #[.int .i64 n, .int .u16 y] w fun e w' => e = .returned (.int .i64 (n + o)) ∧ w = w'

theorem near_low (n s o x y : Int) (w : World) (h0 : 0 ≤ n) (h1 : n ≤ 4611686018427387904) (g1 : n ≤ 32768)
    (o0 : -32768 ≤ o) (o1 : o ≤ 32767) (hx0 : n - 32768 ≤ x) (hx1 : x ≤ n + 32767) (C : NearCalls n s o x y) :
    Calls Try.prog 4 #[.int .i64 n, .int .u16 s, .int .i16 o] w fun e w' => e = .returned (.bool true) ∧ w = w' := by
  go_enter Try.func4, Try.ntmps4
  go_wp2_with fail
  refine (awake_true _).mono ?_; rintro e w' ⟨rfl, rfl⟩
  go_wp2_with fail
  refine (C.c1 _).mono ?_; rintro e w' ⟨rfl, rfl⟩
  go_wp2_with fail
  refine (C.c3 _).mono ?_; rintro e w' ⟨rfl, rfl⟩
  go_wp2_with fail
  refine (C.c4 _).mono ?_; rintro e w' ⟨rfl, rfl⟩
  go_wp2_with fail
  go_ret
  exact ⟨rfl, rfl⟩

theorem near_mid (n s o x y : Int) (w : World) (h0 : 0 ≤ n) (h1 : n ≤ 4611686018427387904) (g1 : 32768 < n) (g2 : n < 4611686018427355136)
    (o0 : -32768 ≤ o) (o1 : o ≤ 32767) (hx0 : n - 32768 ≤ x) (hx1 : x ≤ n + 32767) (C : NearCalls n s o x y) :
    Calls Try.prog 4 #[.int .i64 n, .int .u16 s, .int .i16 o] w fun e w' => e = .returned (.bool true) ∧ w = w' := by
  go_enter Try.func4, Try.ntmps4
  go_wp2_with fail
  refine (awake_true _).mono ?_; rintro e w' ⟨rfl, rfl⟩
  go_wp2_with fail
  refine (C.c1 _).mono ?_; rintro e w' ⟨rfl, rfl⟩
  go_wp2_with fail
  refine (C.c2 _).mono ?_; rintro e w' ⟨rfl, rfl⟩
  go_wp2_with fail
  refine (C.c3 _).mono ?_; rintro e w' ⟨rfl, rfl⟩
  go_wp2_with fail
  refine (C.c4 _).mono ?_; rintro e w' ⟨rfl, rfl⟩
  go_wp2_with fail
  go_ret
  exact ⟨rfl, rfl⟩

theorem near_high (n s o x y : Int) (w : World) (h0 : 0 ≤ n) (h1 : n ≤ 4611686018427387904) (g2 : 4611686018427355136 ≤ n) (g3 : n + o ≤ 4611686018427387904)
    (o0 : -32768 ≤ o) (o1 : o ≤ 32767) (hx0 : n - 32768 ≤ x) (hx1 : x ≤ n + 32767) (C : NearCalls n s o x y) :
    Calls Try.prog 4 #[.int .i64 n, .int .u16 s, .int .i16 o] w fun e w' => e = .returned (.bool true) ∧ w = w' := by
  go_enter Try.func4, Try.ntmps4
  go_wp2_with fail
  refine (awake_true _).mono ?_; rintro e w' ⟨rfl, rfl⟩
  go_wp2_with fail
  refine (C.c1 _).mono ?_; rintro e w' ⟨rfl, rfl⟩
  go_wp2_with fail
  refine (C.c3 _).mono ?_; rintro e w' ⟨rfl, rfl⟩
  go_wp2_with fail
  refine (C.c4 _).mono ?_; rintro e w' ⟨rfl, rfl⟩
  go_wp2_with fail
  go_ret
  exact ⟨rfl, rfl⟩

theorem near_over (n s o x y : Int) (w : World) (h0 : 0 ≤ n) (h1 : n ≤ 4611686018427387904) (g2 : 4611686018427355136 ≤ n) (g3 : 4611686018427387904 < n + o)
    (o0 : -32768 ≤ o) (o1 : o ≤ 32767) (hx0 : n - 32768 ≤ x) (hx1 : x ≤ n + 32767) (C : NearCalls n s o x y) :
    Calls Try.prog 4 #[.int .i64 n, .int .u16 s, .int .i16 o] w fun e w' => e = .returned (.bool true) ∧ w = w' := by
  go_enter Try.func4, Try.ntmps4
  go_wp2_with fail
  refine (awake_true _).mono ?_; rintro e w' ⟨rfl, rfl⟩
  go_wp2_with fail
  refine (C.c1 _).mono ?_; rintro e w' ⟨rfl, rfl⟩
  go_wp2_with fail
  go_ret
  exact ⟨rfl, rfl⟩

theorem near_walk (n s o : Int) (w : World) (hs : 0 ≤ s ∧ s ≤ 65535) (o0 : -32768 ≤ o) (o1 : o ≤ 32767) :
    Calls Try.prog 4 #[.int .i64 n, .int .u16 s, .int .i16 o] w fun e w' => e = .returned (.bool true) ∧ w = w' := by
  by_cases h : n < 0 ∨ 4611686018427387904 < n
  · exact near_out n s o w h
  · have h0 : 0 ≤ n := by omega
    have h1 : n ≤ 4611686018427387904 := by omega
    have ex := ext_eq n s h0 h1 hs
    have e2 : IntKind.u16.wrap (ext n s) = s := by rw [ex, wrap_u16]; omega
    have hy : 0 ≤ IntKind.u16.wrap (n + o) ∧ IntKind.u16.wrap (n + o) ≤ 65535 := by rw [wrap_u16]; omega
    have e4 : ext n (IntKind.u16.wrap (n + o)) = n + o := by rw [ext_eq n _ h0 h1 hy, wrap_u16]; omega
    have C : NearCalls n s o (ext n s) (IntKind.u16.wrap (n + o)) :=
      ⟨fun w => Extend_any n s w, fun w => (Low_any _ w).mono fun e w' ⟨he, hw⟩ => ⟨by rw [he, e2], hw⟩, fun w => Low_any _ w, fun w => (Extend_any _ _ w).mono fun e w' ⟨he, hw⟩ => ⟨by rw [he, e4], hw⟩⟩
    have b0 : n - 32768 ≤ ext n s := by rw [ex]; omega
    have b1 : ext n s ≤ n + 32767 := by rw [ex]; omega
    by_cases g1 : n ≤ 32768
    · exact near_low n s o _ _ w h0 h1 g1 o0 o1 b0 b1 C
    · by_cases g2 : n < 4611686018427355136
      · exact near_mid n s o _ _ w h0 h1 (by omega) g2 o0 o1 b0 b1 C
      · by_cases g3 : n + o ≤ 4611686018427387904
        · exact near_high n s o _ _ w h0 h1 (by omega) g3 o0 o1 b0 b1 C
        · exact near_over n s o _ _ w h0 h1 (by omega) (by omega) o0 o1 b0 b1 C

end Go.Proofs.Ytapofbedapjmbaa
