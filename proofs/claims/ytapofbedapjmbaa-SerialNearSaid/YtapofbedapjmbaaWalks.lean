/- The walks of layer 2 (serial): what each inner function hands back, whatever it is handed. -/
import Derived.Test.YtapofbedapjmbaaRows
import Derived.WalkKit
import Derived.ProofKit
import Derived.OpenShut
import Derived.Lib.Hide
namespace Go.Proofs.Ytapofbedapjmbaa
open Go.ChangeShapes Go.WideShapes Go.ChangeAt Go.RowKit

def ah16 (a b : Int) : Int := IntKind.i16.wrap (IntKind.u16.wrap (b - a))
def ah32 (a b : Int) : Int := IntKind.i32.wrap (IntKind.u32.wrap (b - a))

theorem wrap_i16 (n : Int) : IntKind.i16.wrap n = (n + 32768) % 65536 - 32768 := by
  simp [IntKind.wrap, IntKind.signed, IntKind.bits]; omega
theorem wrap_u16 (n : Int) : IntKind.u16.wrap n = n % 65536 := by
  simp [IntKind.wrap, IntKind.signed, IntKind.bits]
theorem ah16_eq (a b : Int) : ah16 a b = (b - a + 32768) % 65536 - 32768 := by
  unfold ah16; rw [wrap_i16, wrap_u16]; omega
theorem ah32_eq (a b : Int) : ah32 a b = (b - a + 2147483648) % 4294967296 - 2147483648 := by
  unfold ah32; rw [IntKind.wrap_i32, IntKind.wrap_u32]; omega
theorem ah16_bd (a b : Int) : -32768 ≤ ah16 a b ∧ ah16 a b ≤ 32767 := by rw [ah16_eq]; omega
theorem ah32_bd (a b : Int) : -2147483648 ≤ ah32 a b ∧ ah32 a b ≤ 2147483647 := by rw [ah32_eq]; omega
theorem ret_int {k : IntKind} {a b : Int} (h : a = b) : Ending.returned (.int k a) = .returned (.int k b) := by rw [h]

theorem ahead16_any (a b : Int) (w : World) :
    Calls Try.prog 13 #[.int .u16 a, .int .u16 b] w fun e w' => e = .returned (.int .i64 (ah16 a b)) ∧ w = w' := by
  have h := ah16_bd a b
  have e : wrap64 (ah16 a b) = ah16 a b := IntWalk.wrap64_in _ ⟨by omega, by omega⟩
  have H := Lib.hid e
  clear e h
  go_enter Try.func13, Try.ntmps13
  go_wp2
  go_ret
  exact ⟨ret_int H.out, rfl⟩
theorem ahead32_any (a b : Int) (w : World) :
    Calls Try.prog 14 #[.int .u32 a, .int .u32 b] w fun e w' => e = .returned (.int .i64 (ah32 a b)) ∧ w = w' := by
  have h := ah32_bd a b
  have e : wrap64 (wrap32 ((b - a) % 4294967296)) = ah32 a b := by
    rw [← IntWalk.i32_left, ← IntKind.wrap_u32]; exact IntWalk.wrap64_in _ ⟨by have := h.1; exact Int.le_trans (by omega) this, by have := h.2; exact Int.le_trans this (by omega)⟩
  have H := Lib.hid e
  clear e h
  go_enter Try.func14, Try.ntmps14
  go_wp2
  go_ret
  exact ⟨ret_int H.out, rfl⟩
theorem Ahead_any (a b : Int) (w : World) :
    Calls Try.prog 7 #[.int .u16 a, .int .u16 b] w fun e w' => e = .returned (.int .i64 (ah16 a b)) ∧ w = w' := by
  obtain ⟨h1, h2⟩ := ah16_bd a b
  go_enter Try.func7, Try.ntmps7
  go_wp2_with (go_at_call 13; refine (ahead16_any _ _ _).mono ?_; rintro e w' ⟨rfl, rfl⟩)
  go_ret
  exact ⟨rfl, rfl⟩
theorem AheadLong_any (a b : Int) (w : World) :
    Calls Try.prog 8 #[.int .u32 a, .int .u32 b] w fun e w' => e = .returned (.int .i64 (ah32 a b)) ∧ w = w' := by
  go_enter Try.func8, Try.ntmps8
  go_wp2_with (go_at_call 14; refine (ahead32_any _ _ _).mono ?_; rintro e w' ⟨rfl, rfl⟩)
  go_ret
  exact ⟨rfl, rfl⟩
theorem Newer_any (a b : Int) (w : World) :
    Calls Try.prog 9 #[.int .u16 a, .int .u16 b] w fun e w' => e = .returned (.bool (decide (0 < ah16 a b))) ∧ w = w' := by
  go_enter Try.func9, Try.ntmps9
  go_wp2_with (go_at_call 7; refine (Ahead_any _ _ _).mono ?_; rintro e w' ⟨rfl, rfl⟩)
  go_ret
  exact ⟨rfl, rfl⟩
theorem First_any (s : Int) (w : World) (hs : 0 ≤ s ∧ s ≤ 65535) :
    Calls Try.prog 12 #[.int .u16 s] w fun e w' => e = .returned (.int .i64 (65536 + s)) ∧ w = w' := by
  obtain ⟨h1, h2⟩ := hs
  go_enter Try.func12, Try.ntmps12
  go_wp2
  go_ret
  exact ⟨rfl, rfl⟩
theorem Low_any (n : Int) (w : World) :
    Calls Try.prog 11 #[.int .i64 n] w fun e w' => e = .returned (.int .u16 (IntKind.u16.wrap n)) ∧ w = w' := by
  go_enter Try.func11, Try.ntmps11
  go_wp2
  go_ret
  exact ⟨rfl, rfl⟩
/-- the extended number near another one -/
def ext (n s : Int) : Int := wrap64 (n + ah16 (IntKind.u16.wrap n) s)
theorem Extend_any (n s : Int) (w : World) :
    Calls Try.prog 10 #[.int .i64 n, .int .u16 s] w fun e w' => e = .returned (.int .i64 (ext n s)) ∧ w = w' := by
  obtain ⟨h1, h2⟩ := ah16_bd (IntKind.u16.wrap n) s
  go_enter Try.func10, Try.ntmps10
  go_wp2_with (first | (go_at_call 11; refine (Low_any _ _).mono ?_; rintro e w' ⟨rfl, rfl⟩) | (go_at_call 7; refine (Ahead_any _ _ _).mono ?_; rintro e w' ⟨rfl, rfl⟩))
  go_ret
  exact ⟨rfl, rfl⟩
theorem awake_true (w : World) : Calls Try.prog 6 #[] w fun e w' => e = .returned (.bool true) ∧ w = w' := by
  have e1 : ah16 65535 2 = 3 := by decide
  have e2 : ah16 0 32768 = -32768 := by decide
  have e3 : ah16 2 2 = 0 := by decide
  have e4 : ah32 4294967295 1 = 2 := by decide
  have e5 : ext 65535 2 = 65538 := by decide +kernel
  go_enter Try.func6, Try.ntmps6
  go_wp2_with (first | (go_at_call 11; refine (Low_any _ _).mono ?_; rintro e w' ⟨rfl, rfl⟩) | (go_at_call 7; refine (Ahead_any _ _ _).mono ?_; rintro e w' ⟨rfl, rfl⟩) | (go_at_call 8; refine (AheadLong_any _ _ _).mono ?_; rintro e w' ⟨rfl, rfl⟩) | (go_at_call 9; refine (Newer_any _ _ _).mono ?_; rintro e w' ⟨rfl, rfl⟩) | (go_at_call 10; refine (Extend_any _ _ _).mono ?_; rintro e w' ⟨rfl, rfl⟩) | (go_at_call 12; refine (First_any _ _ (by omega)).mono ?_; rintro e w' ⟨rfl, rfl⟩))
  go_ret
  exact ⟨rfl, rfl⟩
end Go.Proofs.Ytapofbedapjmbaa
