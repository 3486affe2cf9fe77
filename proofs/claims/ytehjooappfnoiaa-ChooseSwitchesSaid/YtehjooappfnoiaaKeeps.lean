/- ChooseKeeps: the walk; and both loops' laws at any slice. -/
import Derived.Test.YtehjooappfnoiaaSwitches
namespace Go.Proofs.Ytehjooappfnoiaa
open Go.ChangeShapes Go.WideShapes Go.ChangeAt Go.RowKit
set_option linter.unusedVariables false

theorem keeps_no (c0 t0 : Int) (a : Option Addr) (len cap : Nat) (w : World) (hm : ¬ (-1 ≤ c0 ∧ c0 < 3 ∧ 0 ≤ t0 ∧ t0 < 3)) :
    Calls Try.prog 5 #[stV c0 t0, .slice a len cap] w fun e w' => e = .returned (.bool true) ∧ Below w.heap.size w w' := by
  have HM := Lib.hid hm; clear hm
  have d := Below.refl w.heap.size w
  go_enter Try.func5, Try.ntmps5
  go_wp2_with fail
  refine (awake_true _).mono ?_
  rintro e w1 ⟨rfl, b1⟩
  have Bs := Blk.born b1
  replace d := bl_after d b1; clear b1
  have cs := Bs.cell
  go_wp2_with fail
  refine (may_no _ _ _ HM.out).mono ?_
  rintro e w2 ⟨rfl, b1⟩
  replace d := bl_step d b1; clear b1 cs Bs
  go_wp2_with fail
  go_ret
  exact ⟨rfl, d⟩

theorem keeps_empty (c0 t0 : Int) (a : Option Addr) (len cap : Nat) (w : World) (hm : -1 ≤ c0 ∧ c0 < 3 ∧ 0 ≤ t0 ∧ t0 < 3) (hlen : 300 < len) (hl : len ≤ 9223372036854775807) :
    Calls Try.prog 5 #[stV c0 t0, .slice a len cap] w fun e w' => e = .returned (.bool true) ∧ Below w.heap.size w w' := by
  have HM := Lib.hid hm; clear hm
  have d := Below.refl w.heap.size w
  go_enter Try.func5, Try.ntmps5
  go_wp2_with fail
  refine (awake_true _).mono ?_
  rintro e w1 ⟨rfl, b1⟩
  have Bs := Blk.born b1
  replace d := bl_after d b1; clear b1
  have cs := Bs.cell
  go_wp2_with fail
  refine (may_yes _ _ _ HM.out.1 HM.out.2.1 HM.out.2.2.1 HM.out.2.2.2).mono ?_
  rintro e w2 ⟨rfl, b1⟩
  replace d := bl_step d b1; clear b1 cs Bs
  go_wp2_with fail
  go_ret
  exact ⟨rfl, d⟩

set_option maxRecDepth 100000 in
set_option maxHeartbeats 4000000 in
theorem keeps_some (c0 t0 : Int) (a : Option Addr) (len cap : Nat) (w : World) (hm : -1 ≤ c0 ∧ c0 < 3 ∧ 0 ≤ t0 ∧ t0 < 3) (hlen : len ≤ 300) (R : Hid (RowsOf w a len [.b, .b, .i .u8])) :
    Calls Try.prog 5 #[stV c0 t0, .slice a len cap] w fun e w' => e = .returned (.bool true) ∧ Below w.heap.size w w' := by
  have HM := Lib.hid hm; clear hm
  have d := Below.refl w.heap.size w
  go_enter Try.func5, Try.ntmps5
  go_wp2_with fail
  refine (awake_true _).mono ?_
  rintro e w1 ⟨rfl, b1⟩
  have Bs := Blk.born b1
  replace d := bl_after d b1; clear b1
  have cs := Bs.cell
  go_wp2_with fail
  refine (may_yes _ _ _ HM.out.1 HM.out.2.1 HM.out.2.2.1 HM.out.2.2.2).mono ?_
  rintro e w2 ⟨rfl, b1⟩
  replace Bs := Bs.kept b1; replace d := bl_step d b1; clear b1 cs
  go_wp2_with fail
  have m0 := HM.out.1; have m1 := HM.out.2.1; have m2 := HM.out.2.2.1; have m3 := HM.out.2.2.2
  go_loopw [24] (fun i wr => ∃ (k : Nat), k ≤ len ∧ i = .int .i64 k ∧ Blk wr w.heap.size 23 #[.int .i64 c0, .int .i64 t0] ∧ Below w.heap.size w wr) (fun i _ => len - (intOf i).toNat)
  case atStart => exact ⟨0, Nat.zero_le _, rfl, Bs, d⟩
  case round =>
    rename_i wr
    obtain ⟨k, hk, rfl, B, dr⟩ := hrel
    clear Bs d HM
    by_cases hlt : k < len
    · obtain ⟨b, off, rfl, hR⟩ := R.out (by omega)
      obtain ⟨cs, hL, hc⟩ := hR k hlt
      obtain ⟨_, _, rfl, ⟨a0, rfl⟩, _, _, rfl, ⟨a1, rfl⟩, _, _, rfl, ⟨a2, rfl, w2⟩, rfl⟩ := hL
      have e0 : wr.cell? ⟨b, off + k * 3, none⟩ = some (.bool a0) := cell_old dr (hc 0 (by decide))
      have e1 : wr.cell? ⟨b, off + k * 3 + 1, none⟩ = some (.bool a1) := cell_old dr (hc 1 (by decide))
      have e2 : wr.cell? ⟨b, off + k * 3 + 2, none⟩ = some (.int .u8 a2) := cell_old dr (hc 2 (by decide))
      clear hc R hR
      have cB := B.cell; have fB := B.frozen; have zB := B.lt
      have kr := dr.size
      simp [Lit.wf, IntKind.min, IntKind.max, IntKind.signed, IntKind.bits] at w2
      obtain ⟨p0, p1⟩ := w2
      have q0 : 0 ≤ a2 % 3 := by omega
      have q1 : a2 % 3 < 3 := by omega
      by_cases h1 : a2 % 3 = c0
      · subst h1
        by_cases h2 : a2 % 3 = t0
        · subst h2
          cases a1
          · have x0 := 0
            have TA : Hid (∀ w, Calls Try.prog 10 #[stV (a2 % 3) (a2 % 3), .int .i64 (a2 % 3), .bool false] w fun e w' => e = .returned (.tuple #[stV (a2 % 3) (a2 % 3), .int .i64 0, .bool false]) ∧ Below w.heap.size w w') := fun w => (take_any (a2 % 3) (a2 % 3) (a2 % 3) false w).mono fun e w' ⟨he, hw⟩ => ⟨by rw [he]; simp [tkC, tkF, tkX, *], hw⟩
            go_wp2_with fail
            refine (TA.out _).mono ?_
            rintro e w4 ⟨rfl, b3⟩
            have Bx := Blk.born b3; replace B := B.after b3; replace dr := bl_after dr b3
            replace cB := B.cell; replace fB := B.frozen; replace zB := B.lt; clear b3
            go_wp2_with fail
            go_roundw
            case rel => exact ⟨k + 1, by omega, by go_num, B.alloc _, dr.alloc dr.size _⟩
            case measure => simp [intOf]; omega
          · have x0 := 0
            have TA : Hid (∀ w, Calls Try.prog 10 #[stV (a2 % 3) (a2 % 3), .int .i64 (a2 % 3), .bool true] w fun e w' => e = .returned (.tuple #[stV (a2 % 3) (a2 % 3), .int .i64 0, .bool false]) ∧ Below w.heap.size w w') := fun w => (take_any (a2 % 3) (a2 % 3) (a2 % 3) true w).mono fun e w' ⟨he, hw⟩ => ⟨by rw [he]; simp [tkC, tkF, tkX, *], hw⟩
            go_wp2_with fail
            refine (pending_any _ _ _).mono ?_
            rintro e w3 ⟨rfl, b3⟩
            have Bx := Blk.born b3; replace B := B.after b3; replace dr := bl_after dr b3
            have cBx := Bx.cell; have zBx := Bx.lt; replace cB := B.cell; replace fB := B.frozen; replace zB := B.lt; clear b3
            rw [show pend (a2 % 3) (a2 % 3) = false from by simp [pend]]
            go_wp2_with fail
            refine (TA.out _).mono ?_
            rintro e w4 ⟨rfl, b3⟩
            replace B := B.kept b3; replace dr := bl_step dr b3
            replace cB := B.cell; replace fB := B.frozen; replace zB := B.lt; clear b3
            go_wp2_with fail
            go_roundw
            case rel => exact ⟨k + 1, by omega, by go_num, B.alloc _, dr.alloc dr.size _⟩
            case measure => simp [intOf]; omega
        · have n1 : (a2 % 3 == t0) = false := by simp; omega
          have TA : Hid (∀ w, Calls Try.prog 10 #[stV (a2 % 3) t0, .int .i64 (a2 % 3), .bool a1] w fun e w' => e = .returned (.tuple #[stV (a2 % 3) t0, .int .i64 0, .bool false]) ∧ Below w.heap.size w w') := fun w => (take_any (a2 % 3) t0 (a2 % 3) a1 w).mono fun e w' ⟨he, hw⟩ => ⟨by rw [he]; simp [tkC, tkF, tkX, *], hw⟩
          go_wp2_with fail
          refine (TA.out _).mono ?_
          rintro e w4 ⟨rfl, b3⟩
          have Bx := Blk.born b3; replace B := B.after b3; replace dr := bl_after dr b3
          replace cB := B.cell; replace fB := B.frozen; replace zB := B.lt; clear b3
          go_wp2_with fail
          go_roundw
          case rel => exact ⟨k + 1, by omega, by go_num, B.alloc _, dr.alloc dr.size _⟩
          case measure => simp [intOf]; omega
      · have n1 : (a2 % 3 == c0) = false := by simp; omega
        by_cases h2 : a2 % 3 = t0
        · subst h2
          cases a1
          · have x0 := 0
            have TA : Hid (∀ w, Calls Try.prog 10 #[stV c0 (a2 % 3), .int .i64 (a2 % 3), .bool false] w fun e w' => e = .returned (.tuple #[stV c0 (a2 % 3), .int .i64 5, .bool false]) ∧ Below w.heap.size w w') := fun w => (take_any c0 (a2 % 3) (a2 % 3) false w).mono fun e w' ⟨he, hw⟩ => ⟨by rw [he]; simp [tkC, tkF, tkX, *], hw⟩
            go_wp2_with fail
            refine (TA.out _).mono ?_
            rintro e w4 ⟨rfl, b3⟩
            have Bx := Blk.born b3; replace B := B.after b3; replace dr := bl_after dr b3
            replace cB := B.cell; replace fB := B.frozen; replace zB := B.lt; clear b3
            go_wp2_with fail
            go_roundw
            case rel => exact ⟨k + 1, by omega, by go_num, B.alloc _, dr.alloc dr.size _⟩
            case measure => simp [intOf]; omega
          · have x0 := 0
            go_wp2_with fail
            refine (pending_any _ _ _).mono ?_
            rintro e w3 ⟨rfl, b3⟩
            have Bx := Blk.born b3; replace B := B.after b3; replace dr := bl_after dr b3
            have cBx := Bx.cell; have zBx := Bx.lt; replace cB := B.cell; replace fB := B.frozen; replace zB := B.lt; clear b3
            rw [show pend c0 (a2 % 3) = true from by simp [pend]; omega]
            go_wp2_with fail
            go_roundw
            case rel => exact ⟨k + 1, by omega, by go_num, B, dr⟩
            case measure => simp [intOf]; omega
        · have n2 : (a2 % 3 == t0) = false := by simp; omega
          have TA : Hid (∀ w, Calls Try.prog 10 #[stV c0 t0, .int .i64 (a2 % 3), .bool a1] w fun e w' => e = .returned (.tuple #[stV c0 t0, .int .i64 4, .bool false]) ∧ Below w.heap.size w w') := fun w => (take_any c0 t0 (a2 % 3) a1 w).mono fun e w' ⟨he, hw⟩ => ⟨by rw [he]; simp [tkC, tkF, tkX, *], hw⟩
          go_wp2_with fail
          refine (TA.out _).mono ?_
          rintro e w4 ⟨rfl, b3⟩
          have Bx := Blk.born b3; replace B := B.after b3; replace dr := bl_after dr b3
          replace cB := B.cell; replace fB := B.frozen; replace zB := B.lt; clear b3
          go_wp2_with fail
          go_roundw
          case rel => exact ⟨k + 1, by omega, by go_num, B.alloc _, dr.alloc dr.size _⟩
          case measure => simp [intOf]; omega
    · go_wp2
      go_ret
      exact ⟨rfl, dr⟩

theorem keeps_whole (c t : Int) (a : Option Addr) (len cap : Nat) (w : World) (w0 : (Lit.int .i64 c).wf = true) (w1 : (Lit.int .i64 t).wf = true) (hl : len ≤ maxLen) (R : RowsOf w a len [.b, .b, .i .u8]) :
    Calls Try.prog 5 #[stV c t, .slice a len cap] w fun e w' => e = .returned (.bool true) ∧ Below w.heap.size w w' := by
  unfold maxLen at hl
  by_cases hm : -1 ≤ c ∧ c < 3 ∧ 0 ≤ t ∧ t < 3
  · by_cases hlen : len ≤ 300
    · exact keeps_some c t a len cap w hm hlen (Lib.hid R)
    · exact keeps_empty c t a len cap w hm (by omega) (by omega)
  · exact keeps_no c t a len cap w hm
theorem switches_whole (c t : Int) (a : Option Addr) (len cap : Nat) (w : World) (w0 : (Lit.int .i64 c).wf = true) (w1 : (Lit.int .i64 t).wf = true) (hl : len ≤ maxLen) (R : RowsOf w a len [.b, .b, .i .u8]) :
    Calls Try.prog 4 #[stV c t, .slice a len cap] w fun e w' => e = .returned (.bool true) ∧ Below w.heap.size w w' := by
  unfold maxLen at hl
  by_cases hm : -1 ≤ c ∧ c < 3 ∧ 0 ≤ t ∧ t < 3
  · by_cases hlen : len ≤ 300
    · exact switches_some c t a len cap w hm hlen (Lib.hid R)
    · exact switches_empty c t a len cap w hm (by omega) (by omega)
  · exact switches_no c t a len cap w hm
end Go.Proofs.Ytehjooappfnoiaa
