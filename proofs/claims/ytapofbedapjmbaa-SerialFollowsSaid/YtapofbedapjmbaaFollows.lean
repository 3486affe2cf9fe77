/- SerialFollows: the walk. -/
import Derived.Test.YtapofbedapjmbaaNear
namespace Go.Proofs.Ytapofbedapjmbaa
open Go.ChangeShapes Go.WideShapes Go.ChangeAt Go.RowKit

theorem follows_nil (s : Int) (a : Option Addr) (cap : Nat) (w : World) (hs0 : 0 ≤ s) (hs1 : s ≤ 65535) :
    Calls Try.prog 5 #[.int .u16 s, .slice a 0 cap] w fun e w' => e = .returned (.bool true) ∧ w = w' := by
  go_enter Try.func5, Try.ntmps5
  go_wp2_with (first | (go_at_call 6; refine (awake_true _).mono ?_; rintro e w' ⟨rfl, rfl⟩) | (go_at_call 12; refine (First_any _ _ (by omega)).mono ?_; rintro e w' ⟨rfl, rfl⟩))
  go_loop [0, 5, 23] (fun _ _ i => i = .int .i64 0) (fun _ _ i => 0 - (intOf i).toNat)
  case atStart => rfl
  case round =>
    obtain rfl := hrel
    go_wp2
    go_ret
    exact ⟨rfl, rfl⟩

theorem follows_long (s : Int) (a : Option Addr) (len cap : Nat) (w : World) (h : 100 < len) (hl : len ≤ 9223372036854775807) :
    Calls Try.prog 5 #[.int .u16 s, .slice a len cap] w fun e w' => e = .returned (.bool true) ∧ w = w' := by
  go_enter Try.func5, Try.ntmps5
  go_wp2_with (first | (go_at_call 6; refine (awake_true _).mono ?_; rintro e w' ⟨rfl, rfl⟩))
  go_ret
  exact ⟨rfl, rfl⟩

theorem follows_some (s : Int) (b off len cap : Nat) (zs : List Int) (w : World) (hs0 : 0 ≤ s) (hs1 : s ≤ 65535) (hlen : len ≤ 100)
    (hc : ∀ i, i < len → w.cell? ⟨b, off + i, none⟩ = some (.int .i16 (zs.getD i 0))) (hz : ∀ i, i < len → -32768 ≤ zs.getD i 0 ∧ zs.getD i 0 ≤ 32767) :
    Calls Try.prog 5 #[.int .u16 s, .slice (some ⟨b, off, none⟩) len cap] w fun e w' => e = .returned (.bool true) ∧ w = w' := by
  have HC := Lib.hid hc; have HZ := Lib.hid hz
  clear hc hz
  go_enter Try.func5, Try.ntmps5
  go_wp2_with (first | (go_at_call 6; refine (awake_true _).mono ?_; rintro e w' ⟨rfl, rfl⟩) | (go_at_call 12; refine (First_any _ _ (by omega)).mono ?_; rintro e w' ⟨rfl, rfl⟩))
  go_loop [0, 5, 23] (fun t n i => ∃ (k : Nat) (m : Int), k ≤ len ∧ i = .int .i64 k ∧ n = .int .i64 m ∧ t = .int .u16 (m % 65536) ∧ 0 ≤ m ∧ m ≤ 131071 + 32767 * k) (fun _ _ i => len - (intOf i).toNat)
  case atStart => exact ⟨0, _, by omega, rfl, rfl, by congr 1; omega, by omega, by omega⟩
  case round =>
    obtain ⟨k, m, hk, rfl, rfl, rfl, hm0, hm1⟩ := hrel
    by_cases hlt : k < len
    · have hcell := HC.out k hlt
      obtain ⟨hz0, hz1⟩ := HZ.out k hlt
      obtain ⟨d, hd⟩ : ∃ d, d = zs.getD k 0 := ⟨_, rfl⟩
      rw [← hd] at hcell hz0 hz1
      clear hd
      have hq0 : 0 ≤ m % 65536 := by omega
      have hq1 : m % 65536 ≤ 65535 := by omega
      by_cases hneg : m + d < 0
      · go_wp2
        go_ret
        exact ⟨rfl, rfl⟩
      · have e1 : ext m ((m + d) % 65536) = m + d := by rw [ext_eq m _ hm0 (by omega) (by omega)]; omega
        have e2 : IntKind.u16.wrap (m % 65536 + IntKind.u16.wrap d) = (m + d) % 65536 := by rw [wrap_u16, wrap_u16]; omega
        have e3 : IntKind.u16.wrap (m + d) = (m + d) % 65536 := wrap_u16 _
        have c1 : ∀ w, Calls Try.prog 10 #[.int .i64 m, .int .u16 ((m + d) % 65536)] w fun e w' => e = .returned (.int .i64 (m + d)) ∧ w = w' := fun w => (Extend_any _ _ w).mono fun e w' ⟨he, hw⟩ => ⟨by rw [he, e1], hw⟩
        have c2 : ∀ w, Calls Try.prog 11 #[.int .i64 (m + d)] w fun e w' => e = .returned (.int .u16 ((m + d) % 65536)) ∧ w = w' := fun w => (Low_any _ w).mono fun e w' ⟨he, hw⟩ => ⟨by rw [he, e3], hw⟩
        have C1 := Lib.hid c1
        have C2 := Lib.hid c2
        clear e1 e3 c1 c2
        go_wp2_with fail
        refine (C1.out _).mono ?_; rintro e w' ⟨rfl, rfl⟩
        go_wp2_with fail
        refine (C2.out _).mono ?_; rintro e w' ⟨rfl, rfl⟩
        go_wp2_with fail
        go_round
        case rel => exact ⟨k + 1, m + d, by omega, by go_num, rfl, rfl, by omega, by omega⟩
        case measure => simp [intOf]; omega
    · go_wp2
      go_ret
      exact ⟨rfl, rfl⟩
end Go.Proofs.Ytapofbedapjmbaa
