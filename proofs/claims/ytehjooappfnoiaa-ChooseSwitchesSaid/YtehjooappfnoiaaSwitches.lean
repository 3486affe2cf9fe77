/- ChooseSwitches: the walk. -/
import Derived.Test.YtehjooappfnoiaaAwake
import Derived.Test.YtehjooappfnoiaaFlat
namespace Go.Proofs.Ytehjooappfnoiaa
open Go.ChangeShapes Go.WideShapes Go.ChangeAt Go.RowKit
set_option linter.unusedVariables false

theorem switches_no (c0 t0 : Int) (a : Option Addr) (len cap : Nat) (w : World) (hm : ¬ (-1 ≤ c0 ∧ c0 < 3 ∧ 0 ≤ t0 ∧ t0 < 3)) :
    Calls Try.prog 4 #[stV c0 t0, .slice a len cap] w fun e w' => e = .returned (.bool true) ∧ Below w.heap.size w w' := by
  have HM := Lib.hid hm; clear hm
  have d := Below.refl w.heap.size w
  go_enter Try.func4, Try.ntmps4
  go_wp2_with fail
  refine (awake_true _).mono ?_
  rintro e w1 ⟨rfl, b1⟩
  have Bs := Blk.born b1
  replace d := bl_after d b1; clear b1
  have cs := Bs.cell
  go_wp2_with fail
  refine (may_no _ _ _ HM.out).mono ?_
  rintro e w2 ⟨rfl, b1⟩
  replace d := bl_step d b1; clear b1 cs Bs
  go_wp2_with fail
  go_ret
  exact ⟨rfl, d⟩

theorem switches_empty (c0 t0 : Int) (a : Option Addr) (len cap : Nat) (w : World) (hm : -1 ≤ c0 ∧ c0 < 3 ∧ 0 ≤ t0 ∧ t0 < 3) (hlen : 300 < len) (hl : len ≤ 9223372036854775807) :
    Calls Try.prog 4 #[stV c0 t0, .slice a len cap] w fun e w' => e = .returned (.bool true) ∧ Below w.heap.size w w' := by
  have HM := Lib.hid hm; clear hm
  have d := Below.refl w.heap.size w
  go_enter Try.func4, Try.ntmps4
  go_wp2_with fail
  refine (awake_true _).mono ?_
  rintro e w1 ⟨rfl, b1⟩
  have Bs := Blk.born b1
  replace d := bl_after d b1; clear b1
  have cs := Bs.cell
  go_wp2_with fail
  refine (may_yes _ _ _ HM.out.1 HM.out.2.1 HM.out.2.2.1 HM.out.2.2.2).mono ?_
  rintro e w2 ⟨rfl, b1⟩
  replace d := bl_step d b1; clear b1 cs Bs
  go_wp2_with fail
  go_ret
  exact ⟨rfl, d⟩

set_option maxRecDepth 100000 in
set_option maxHeartbeats 4000000 in
theorem switches_some (c0 t0 : Int) (a : Option Addr) (len cap : Nat) (w : World) (hm : -1 ≤ c0 ∧ c0 < 3 ∧ 0 ≤ t0 ∧ t0 < 3) (hlen : len ≤ 300) (R : Hid (RowsOf w a len [.b, .b, .i .u8])) :
    Calls Try.prog 4 #[stV c0 t0, .slice a len cap] w fun e w' => e = .returned (.bool true) ∧ Below w.heap.size w w' := by
  have HM := Lib.hid hm; clear hm
  have d := Below.refl w.heap.size w
  go_enter Try.func4, Try.ntmps4
  go_wp2_with fail
  refine (awake_true _).mono ?_
  rintro e w1 ⟨rfl, b1⟩
  have Bs := Blk.born b1
  replace d := bl_after d b1; clear b1
  have cs := Bs.cell
  go_wp2_with fail
  refine (may_yes _ _ _ HM.out.1 HM.out.2.1 HM.out.2.2.1 HM.out.2.2.2).mono ?_
  rintro e w2 ⟨rfl, b1⟩
  replace Bs := Bs.kept b1; replace d := bl_step d b1; clear b1 cs
  go_wp2_with fail
  go_loopw [25] (fun i wr => ∃ (k : Nat) (c t : Int), k ≤ len ∧ i = .int .i64 k ∧ Blk wr w.heap.size 23 #[.int .i64 c, .int .i64 t] ∧ -1 ≤ c ∧ c < 3 ∧ 0 ≤ t ∧ t < 3 ∧ Below w.heap.size w wr) (fun i _ => len - (intOf i).toNat)
  case atStart => exact ⟨0, c0, t0, Nat.zero_le _, rfl, Bs, HM.out.1, HM.out.2.1, HM.out.2.2.1, HM.out.2.2.2, d⟩
  case round =>
    rename_i wr
    obtain ⟨k, c, t, hk, rfl, B, m0, m1, m2, m3, dr⟩ := hrel
    clear Bs d HM
    by_cases hlt : k < len
    · obtain ⟨b, off, rfl, hR⟩ := R.out (by omega)
      obtain ⟨cs, hL, hc⟩ := hR k hlt
      obtain ⟨_, _, rfl, ⟨a0, rfl⟩, _, _, rfl, ⟨a1, rfl⟩, _, _, rfl, ⟨a2, rfl, w2⟩, rfl⟩ := hL
      have e0 : wr.cell? ⟨b, off + k * 3, none⟩ = some (.bool a0) := cell_old dr (hc 0 (by decide))
      have e1 : wr.cell? ⟨b, off + k * 3 + 1, none⟩ = some (.bool a1) := cell_old dr (hc 1 (by decide))
      have e2 : wr.cell? ⟨b, off + k * 3 + 2, none⟩ = some (.int .u8 a2) := cell_old dr (hc 2 (by decide))
      clear hc R hR
      have cB := B.cell; have fB := B.frozen; have zB := B.lt
      have kr := dr.size
      simp [Lit.wf, IntKind.min, IntKind.max, IntKind.signed, IntKind.bits] at w2
      obtain ⟨p0, p1⟩ := w2
      have q0 : 0 ≤ a2 % 3 := by omega
      have q1 : a2 % 3 < 3 := by omega
      generalize hl : a2 % 3 = l at q0 q1
      have HL := Lib.hid hl; clear hl
      cases a0
      · by_cases h1 : l = c
        · subst h1
          clear m0 m1
          have m0 : -1 ≤ l := by omega
          have m1 : l < 3 := q1
          have TA : Hid (∀ w, Calls Try.prog 10 #[stV l t, .int .i64 l, .bool a1] w fun e w' => e = .returned (.tuple #[stV l t, .int .i64 0, .bool false]) ∧ Below w.heap.size w w') := fun w => (take_any l t l a1 w).mono fun e w' ⟨he, hw⟩ => ⟨by rw [he]; simp [tkC, tkF, tkX, *], hw⟩
          go_wp2_with fail
          rw [HL.out]
          refine (TA.out _).mono ?_
          rintro e w3 ⟨rfl, b3⟩
          have Bx := Blk.born b3; replace B := B.after b3; replace dr := bl_after dr b3
          have cBx := Bx.cell; have zBx := Bx.lt; replace cB := B.cell; replace fB := B.frozen; replace zB := B.lt; clear b3
          go_wp2_with fail
          refine (may_yes _ _ _ (by omega) (by omega) m2 m3).mono ?_
          rintro e w4 ⟨rfl, b4⟩
          replace Bx := Bx.after b4; replace cBx := Bx.cell; replace zBx := Bx.lt; have B2 := Blk.born b4; replace B := B.after b4; replace dr := bl_after dr b4
          replace cB := B.cell; replace fB := B.frozen; replace zB := B.lt; have cB2 := B2.cell; have zB2 := B2.lt; clear b4
          go_wp2_with fail
          go_roundw
          case rel => exact ⟨k + 1, l, t, by omega, by go_num, (B.set_ 0 _).set_ 1 _, by omega, by omega, m2, m3, (dr.setCell (by simp) _).setCell (by simp) _⟩
          case measure => simp [intOf]; omega
        · have n1 : (l == c) = false := by simp; omega
          have n1' : (l != c) = true := by simp; omega
          by_cases h2 : l = t
          · subst h2
            cases a1
            · have n2 : (c == l) = false := by simp; omega
              have n2' : (c != l) = true := by simp; omega
              have TA : Hid (∀ w, Calls Try.prog 10 #[stV c l, .int .i64 l, .bool false] w fun e w' => e = .returned (.tuple #[stV c l, .int .i64 5, .bool false]) ∧ Below w.heap.size w w') := fun w => (take_any c l l false w).mono fun e w' ⟨he, hw⟩ => ⟨by rw [he]; simp [tkC, tkF, tkX, *], hw⟩
              go_wp2_with fail
              rw [HL.out]
              refine (TA.out _).mono ?_
              rintro e w3 ⟨rfl, b3⟩
              have Bx := Blk.born b3; replace B := B.after b3; replace dr := bl_after dr b3
              have cBx := Bx.cell; have zBx := Bx.lt; replace cB := B.cell; replace fB := B.frozen; replace zB := B.lt; clear b3
              go_wp2_with fail
              refine (may_yes _ _ _ (by omega) (by omega) m2 m3).mono ?_
              rintro e w4 ⟨rfl, b4⟩
              replace Bx := Bx.after b4; replace cBx := Bx.cell; replace zBx := Bx.lt; have B2 := Blk.born b4; replace B := B.after b4; replace dr := bl_after dr b4
              replace cB := B.cell; replace fB := B.frozen; replace zB := B.lt; have cB2 := B2.cell; have zB2 := B2.lt; clear b4
              go_wp2_with fail
              go_roundw
              case rel => exact ⟨k + 1, c, l, by omega, by go_num, (B.set_ 0 _).set_ 1 _, by omega, by omega, m2, m3, (dr.setCell (by simp) _).setCell (by simp) _⟩
              case measure => simp [intOf]; omega
            · have n2 : (c == l) = false := by simp; omega
              have n2' : (c != l) = true := by simp; omega
              have n3' : (l != c) = true := by simp; omega
              have TA : Hid (∀ w, Calls Try.prog 10 #[stV c l, .int .i64 l, .bool true] w fun e w' => e = .returned (.tuple #[stV l l, .int .i64 0, .bool true]) ∧ Below w.heap.size w w') := fun w => (take_any c l l true w).mono fun e w' ⟨he, hw⟩ => ⟨by rw [he]; simp [tkC, tkF, tkX, *], hw⟩
              go_wp2_with fail
              rw [HL.out]
              refine (TA.out _).mono ?_
              rintro e w3 ⟨rfl, b3⟩
              have Bx := Blk.born b3; replace B := B.after b3; replace dr := bl_after dr b3
              have cBx := Bx.cell; have zBx := Bx.lt; replace cB := B.cell; replace fB := B.frozen; replace zB := B.lt; clear b3
              go_wp2_with fail
              refine (may_yes _ _ _ (by omega) (by omega) m2 m3).mono ?_
              rintro e w4 ⟨rfl, b4⟩
              replace Bx := Bx.after b4; replace cBx := Bx.cell; replace zBx := Bx.lt; have B2 := Blk.born b4; replace B := B.after b4; replace dr := bl_after dr b4
              replace cB := B.cell; replace fB := B.frozen; replace zB := B.lt; have cB2 := B2.cell; have zB2 := B2.lt; clear b4
              go_wp2_with fail
              go_roundw
              case rel => exact ⟨k + 1, l, l, by omega, by go_num, (B.set_ 0 _).set_ 1 _, by omega, by omega, m2, m3, (dr.setCell (by simp) _).setCell (by simp) _⟩
              case measure => simp [intOf]; omega
          · have n2 : (l == t) = false := by simp; omega
            have n2' : (l != t) = true := by simp; omega
            have TA : Hid (∀ w, Calls Try.prog 10 #[stV c t, .int .i64 l, .bool a1] w fun e w' => e = .returned (.tuple #[stV c t, .int .i64 4, .bool false]) ∧ Below w.heap.size w w') := fun w => (take_any c t l a1 w).mono fun e w' ⟨he, hw⟩ => ⟨by rw [he]; simp [tkC, tkF, tkX, *], hw⟩
            go_wp2_with fail
            rw [HL.out]
            refine (TA.out _).mono ?_
            rintro e w3 ⟨rfl, b3⟩
            have Bx := Blk.born b3; replace B := B.after b3; replace dr := bl_after dr b3
            have cBx := Bx.cell; have zBx := Bx.lt; replace cB := B.cell; replace fB := B.frozen; replace zB := B.lt; clear b3
            go_wp2_with fail
            refine (may_yes _ _ _ (by omega) (by omega) m2 m3).mono ?_
            rintro e w4 ⟨rfl, b4⟩
            replace Bx := Bx.after b4; replace cBx := Bx.cell; replace zBx := Bx.lt; have B2 := Blk.born b4; replace B := B.after b4; replace dr := bl_after dr b4
            replace cB := B.cell; replace fB := B.frozen; replace zB := B.lt; have cB2 := B2.cell; have zB2 := B2.lt; clear b4
            go_wp2_with fail
            go_roundw
            case rel => exact ⟨k + 1, c, t, by omega, by go_num, (B.set_ 0 _).set_ 1 _, by omega, by omega, m2, m3, (dr.setCell (by simp) _).setCell (by simp) _⟩
            case measure => simp [intOf]; omega
      · go_wp2_with fail
        rw [HL.out]
        refine (want_in _ _ _ _ q0 q1).mono ?_
        rintro e w3 ⟨rfl, b3⟩
        replace B := B.after b3; replace dr := bl_after dr b3; clear b3
        replace cB := B.cell; replace fB := B.frozen; replace zB := B.lt
        go_wp2_with fail
        go_roundw
        case rel => exact ⟨k + 1, c, l, by omega, by go_num, ((B.set_ 0 _).set_ 1 _).alloc _, m0, m1, q0, q1, (((dr.setCell (by simp) _).setCell (by simp) _).alloc (by simp; omega) _)⟩
        case measure => simp [intOf]; omega
    · go_wp2
      go_ret
      exact ⟨rfl, dr⟩
end Go.Proofs.Ytehjooappfnoiaa
