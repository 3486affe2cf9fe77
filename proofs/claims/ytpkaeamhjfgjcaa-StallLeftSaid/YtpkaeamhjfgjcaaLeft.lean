/- StallLeft: the walk. -/
import Derived.Test.YtpkaeamhjfgjcaaGone
namespace Go.Proofs.Ytpkaeamhjfgjcaa
open Go.ChangeShapes Go.WideShapes Go.ChangeAt Go.RowKit
set_option linter.unusedVariables false

theorem leftl_no1 (m r : Int) (g : Bool) (few : Int) (w : World) (h0 : m < 1) :
    Calls Try.prog 4 #[stV m r g, .int .u8 few] w fun e w' => e = .returned (.bool true) ∧ Below w.heap.size w w' := by
  go_enter Try.func4, Try.ntmps4
  go_wp2_with fail
  refine (awake_true _).mono ?_
  rintro e w1 ⟨rfl, b1⟩
  have Bs := Blk.born b1; have d := bl_after (Below.refl w.heap.size w) b1; have cs := Bs.cell; clear b1
  go_wp2_with fail
  refine (may_no1 _ _ _ _ h0).mono ?_
  rintro e w2 ⟨rfl, b2⟩
  replace Bs := Bs.kept b2; replace cs := Bs.cell; replace d := bl_step d b2; clear b2
  go_wp2_with fail
  go_ret
  exact ⟨rfl, d⟩
theorem leftl_no2 (m r : Int) (g : Bool) (few : Int) (w : World) (h0 : 10 < m) :
    Calls Try.prog 4 #[stV m r g, .int .u8 few] w fun e w' => e = .returned (.bool true) ∧ Below w.heap.size w w' := by
  go_enter Try.func4, Try.ntmps4
  go_wp2_with fail
  refine (awake_true _).mono ?_
  rintro e w1 ⟨rfl, b1⟩
  have Bs := Blk.born b1; have d := bl_after (Below.refl w.heap.size w) b1; have cs := Bs.cell; clear b1
  go_wp2_with fail
  refine (may_no2 _ _ _ _ h0).mono ?_
  rintro e w2 ⟨rfl, b2⟩
  replace Bs := Bs.kept b2; replace cs := Bs.cell; replace d := bl_step d b2; clear b2
  go_wp2_with fail
  go_ret
  exact ⟨rfl, d⟩
theorem leftl_no3 (m r : Int) (g : Bool) (few : Int) (w : World) (h0 : 1 ≤ m) (h1 : m ≤ 10) (h2 : r < 0) :
    Calls Try.prog 4 #[stV m r g, .int .u8 few] w fun e w' => e = .returned (.bool true) ∧ Below w.heap.size w w' := by
  go_enter Try.func4, Try.ntmps4
  go_wp2_with fail
  refine (awake_true _).mono ?_
  rintro e w1 ⟨rfl, b1⟩
  have Bs := Blk.born b1; have d := bl_after (Below.refl w.heap.size w) b1; have cs := Bs.cell; clear b1
  go_wp2_with fail
  refine (may_no3 _ _ _ _ h0 h1 h2).mono ?_
  rintro e w2 ⟨rfl, b2⟩
  replace Bs := Bs.kept b2; replace cs := Bs.cell; replace d := bl_step d b2; clear b2
  go_wp2_with fail
  go_ret
  exact ⟨rfl, d⟩
theorem leftl_no4 (m r : Int) (g : Bool) (few : Int) (w : World) (h0 : 1 ≤ m) (h1 : m ≤ 10) (h2 : m < r) :
    Calls Try.prog 4 #[stV m r g, .int .u8 few] w fun e w' => e = .returned (.bool true) ∧ Below w.heap.size w w' := by
  go_enter Try.func4, Try.ntmps4
  go_wp2_with fail
  refine (awake_true _).mono ?_
  rintro e w1 ⟨rfl, b1⟩
  have Bs := Blk.born b1; have d := bl_after (Below.refl w.heap.size w) b1; have cs := Bs.cell; clear b1
  go_wp2_with fail
  refine (may_no4 _ _ _ _ h0 h1 h2).mono ?_
  rintro e w2 ⟨rfl, b2⟩
  replace Bs := Bs.kept b2; replace cs := Bs.cell; replace d := bl_step d b2; clear b2
  go_wp2_with fail
  go_ret
  exact ⟨rfl, d⟩
theorem leftl_gone (m r : Int) (g : Bool) (few : Int) (w : World) (h0 : 1 ≤ m) (h1 : m ≤ 10) (h2 : 0 ≤ r) (h3 : r ≤ m) (hg : Hid ((g == (r == m)) = false)) :
    Calls Try.prog 4 #[stV m r g, .int .u8 few] w fun e w' => e = .returned (.bool true) ∧ Below w.heap.size w w' := by
  go_enter Try.func4, Try.ntmps4
  go_wp2_with fail
  refine (awake_true _).mono ?_
  rintro e w1 ⟨rfl, b1⟩
  have Bs := Blk.born b1; have d := bl_after (Below.refl w.heap.size w) b1; have cs := Bs.cell; clear b1
  go_wp2_with fail
  refine (may_gone _ _ _ _ h0 h1 h2 h3 hg.out).mono ?_
  rintro e w2 ⟨rfl, b2⟩
  replace Bs := Bs.kept b2; replace cs := Bs.cell; replace d := bl_step d b2; clear b2
  go_wp2_with fail
  go_ret
  exact ⟨rfl, d⟩
theorem leftl_full (m : Int) (few : Int) (w : World) (h0 : 1 ≤ m) (h1 : m ≤ 10) :
    Calls Try.prog 4 #[stV m m true, .int .u8 few] w fun e w' => e = .returned (.bool true) ∧ Below w.heap.size w w' := by
  go_enter Try.func4, Try.ntmps4
  go_wp2_with fail
  refine (awake_true _).mono ?_
  rintro e w1 ⟨rfl, b1⟩
  have Bs := Blk.born b1; have d := bl_after (Below.refl w.heap.size w) b1; have cs := Bs.cell; clear b1
  go_wp2_with fail
  refine (may_full _ _ h0 h1).mono ?_
  rintro e w2 ⟨rfl, b2⟩
  replace Bs := Bs.kept b2; replace cs := Bs.cell; replace d := bl_step d b2; clear b2
  go_wp2_with fail
  go_ret
  exact ⟨rfl, d⟩
theorem gone_none (m : Int) (a : Option Addr) (cap : Nat) (w : World) (h0 : 1 ≤ m) (h1 : m ≤ 10) :
    Calls Try.prog 3 #[.int .i64 m, .slice a 0 cap] w fun e w' => e = .returned (.bool true) ∧ Below w.heap.size w w' := by
  go_enter Try.func3, Try.ntmps3
  go_wp2_with fail
  refine (awake_true _).mono ?_
  rintro e w1 ⟨rfl, b1⟩
  go_wp2_with fail
  refine (start_in _ _ h0 h1).mono ?_
  rintro e w2 ⟨rfl, b2⟩
  have d := bl_step b1 b2
  clear b1 b2
  go_wp2_with fail
  go_loopw [29] (fun i wr => i = .int .i64 0 ∧ Below w.heap.size w wr) (fun i _ => 0 - (intOf i).toNat)
  case atStart => exact ⟨rfl, d.alloc d.size _⟩
  case round =>
    obtain ⟨rfl, dr⟩ := hrel
    go_wp2_with fail
    go_ret
    exact ⟨rfl, dr⟩
set_option maxRecDepth 100000 in
set_option maxHeartbeats 2000000 in
theorem leftl_some (m r : Int) (few : Int) (w : World) (h0 : 1 ≤ m) (h1 : m ≤ 10) (h2 : 0 ≤ r) (h3 : r < m) (f0 : 0 ≤ few) (f1 : few ≤ 255) :
    Calls Try.prog 4 #[stV m r false, .int .u8 few] w fun e w' => e = .returned (.bool true) ∧ Below w.heap.size w w' := by
  go_enter Try.func4, Try.ntmps4
  go_wp2_with fail
  refine (awake_true _).mono ?_
  rintro e w1 ⟨rfl, b1⟩
  have Bs := Blk.born b1; have d := bl_after (Below.refl w.heap.size w) b1; have cs := Bs.cell; clear b1
  go_wp2_with fail
  refine (may_yes _ _ _ h0 h1 h2 h3).mono ?_
  rintro e w2 ⟨rfl, b2⟩
  replace Bs := Bs.kept b2; replace cs := Bs.cell; replace d := bl_step d b2; have zs := Bs.lt; clear b2
  go_wp2_with fail
  refine (left_any _ _ _ h2 (by omega) (by omega) (by omega)).mono ?_
  rintro e w3 ⟨rfl, rfl⟩
  refine any_name (fun W => Blk W w.heap.size 25 #[.int .i64 m, .int .i64 r, .bool false] ∧ Below w.heap.size w W) ⟨Bs.alloc _, d.alloc d.size _⟩ ?_
  clear Bs cs d zs
  rintro w3 ⟨Bs, d⟩
  have cs := Bs.cell; have zs := Bs.lt
  have k3 := d.size; have kz : w.heap.size < w3.heap.size := zs
  obtain ⟨n, hn⟩ : ∃ n : Nat, m - r = n := ⟨(m - r).toNat, by omega⟩
  have HN := Lib.hid hn; clear hn
  go_wp2_with fail
  go_loopw [33] (fun i wr => ∃ (k : Nat), (k : Int) ≤ m - r ∧ i = .int .i64 k ∧ Blk wr w.heap.size 25 #[.int .i64 m, .int .i64 r, .bool false] ∧ Blk wr w3.heap.size 25 #[.int .i64 m, .int .i64 (r + k), .bool (r + (k : Int) == m)] ∧ Below w.heap.size w wr) (fun i _ => ((m - r) - intOf i).toNat)
  case atStart =>
    refine ⟨0, by omega, rfl, Bs.alloc _, ?_, d.alloc k3 _⟩
    have e1 : r + ((0 : Nat) : Int) = r := by omega
    have e2 : (r == m) = false := by simp; omega
    rw [e1, e2]
    exact Blk.new _ _ _
  case round =>
    rename_i wr
    obtain ⟨k, hk, rfl, B, T, dr⟩ := hrel
    clear Bs d cs zs
    have cB := B.cell; have zB := B.lt; have cT := T.cell; have fT := T.frozen; have zT := T.lt
    by_cases hlt : (k : Int) < m - r
    · have hnm : (r + (k : Int) == m) = false := by simp; omega
      rw [hnm] at T cT
      have ne1 : ¬ (w3.heap.size = wr.heap.size) := by omega
      by_cases hlast : (k : Int) = m - r - 1
      · have g1 : ((k : Int) == m - r - 1) = true := by simp; omega
        have HB : Hid ((r + (k : Int) + 1 == m) = true) := by show _ = true; simp; omega
        have HL := Lib.hid hlast; clear hlast
        by_cases hfew : (k : Int) = few % (m - r)
        · have g4 : ((k : Int) == few % (m - r)) = true := by simp; omega
          have HF := Lib.hid hfew; clear hfew
          go_wp2_with fail
          refine (offer_no _ _ true _ (by omega) (by omega) HB.out).mono ?_
          rintro e w4 ⟨rfl, b4⟩
          replace B := B.kept b4; replace T := T.kept b4; replace dr := bl_step dr b4; clear b4
          replace cB := B.cell; replace zB := B.lt; replace cT := T.cell; replace fT := T.frozen; replace zT := T.lt
          go_wp2_with fail
          refine (left_gone _ _ _).mono ?_
          rintro e w5 ⟨rfl, rfl⟩
          have g2 : ((0 : Int) == m - r - (k : Int) - 1) = true := by have := HL.out; simp; omega
          have g3 : ((0 : Int) != m - r - (k : Int) - 1) = false := by have := HL.out; simp; omega
          go_wp2_with fail
          go_roundw
          case rel =>
            refine ⟨k + 1, by omega, by go_num, (by repeat (first | (with_reducible exact B) | (with_reducible refine Blk.drew ?_) | (with_reducible refine Blk.alloc ?_ _) | ((with_reducible refine Blk.far ?_ ?hh _); case hh => (simp; omega)))), ?_, (by have q2 := dr.size; repeat (first | (with_reducible exact dr) | (with_reducible refine Below.drew ?_) | ((with_reducible refine Below.alloc ?_ ?hh _); case hh => (first | omega | (simp; omega) | simp)) | ((with_reducible refine Below.setCell ?_ ?hh _); case hh => (first | omega | (simp; omega) | simp))))⟩
            have e1 : r + ((k + 1 : Nat) : Int) = r + k + 1 := by omega
            have e2 : (r + (k : Int) + 1 == m) = true := HB.out
            rw [e1, e2]
            repeat (first | (with_reducible refine Blk.drew ?_) | (with_reducible refine Blk.alloc ?_ _))
            exact ((T.set_ 0 _).set_ 1 _).set_ 2 _
          case measure => simp [intOf]; omega
        · have g4 : ((k : Int) == few % (m - r)) = false := by simp; omega
          have HF := Lib.hid hfew; clear hfew
          go_wp2_with fail
          refine (offer_no _ _ true _ (by omega) (by omega) HB.out).mono ?_
          rintro e w4 ⟨rfl, b4⟩
          replace B := B.kept b4; replace T := T.kept b4; replace dr := bl_step dr b4; clear b4
          replace cB := B.cell; replace zB := B.lt; replace cT := T.cell; replace fT := T.frozen; replace zT := T.lt
          go_wp2_with fail
          refine (left_gone _ _ _).mono ?_
          rintro e w5 ⟨rfl, rfl⟩
          have g2 : ((0 : Int) == m - r - (k : Int) - 1) = true := by have := HL.out; simp; omega
          have g3 : ((0 : Int) != m - r - (k : Int) - 1) = false := by have := HL.out; simp; omega
          go_wp2_with fail
          go_roundw
          case rel =>
            refine ⟨k + 1, by omega, by go_num, (by repeat (first | (with_reducible exact B) | (with_reducible refine Blk.drew ?_) | (with_reducible refine Blk.alloc ?_ _) | ((with_reducible refine Blk.far ?_ ?hh _); case hh => (simp; omega)))), ?_, (by have q2 := dr.size; repeat (first | (with_reducible exact dr) | (with_reducible refine Below.drew ?_) | ((with_reducible refine Below.alloc ?_ ?hh _); case hh => (first | omega | (simp; omega) | simp)) | ((with_reducible refine Below.setCell ?_ ?hh _); case hh => (first | omega | (simp; omega) | simp))))⟩
            have e1 : r + ((k + 1 : Nat) : Int) = r + k + 1 := by omega
            have e2 : (r + (k : Int) + 1 == m) = true := HB.out
            rw [e1, e2]
            repeat (first | (with_reducible refine Blk.drew ?_) | (with_reducible refine Blk.alloc ?_ _))
            exact ((T.set_ 0 _).set_ 1 _).set_ 2 _
          case measure => simp [intOf]; omega
      · have g1 : ((k : Int) == m - r - 1) = false := by simp; omega
        have HB : Hid ((r + (k : Int) + 1 == m) = false) := by show _ = false; simp; omega
        have g2 : (m - (r + (k : Int) + 1) == m - r - (k : Int) - 1) = true := by simp; omega
        have g3 : (m - (r + (k : Int) + 1) != m - r - (k : Int) - 1) = false := by simp; omega
        have HL := Lib.hid hlast; clear hlast
        by_cases hfew : (k : Int) = few % (m - r)
        · have g4 : ((k : Int) == few % (m - r)) = true := by simp; omega
          have HF := Lib.hid hfew; clear hfew
          go_wp2_with fail
          refine (offer_no _ _ false _ (by omega) (by omega) HB.out).mono ?_
          rintro e w4 ⟨rfl, b4⟩
          replace B := B.kept b4; replace T := T.kept b4; replace dr := bl_step dr b4; clear b4
          replace cB := B.cell; replace zB := B.lt; replace cT := T.cell; replace fT := T.frozen; replace zT := T.lt
          go_wp2_with fail
          refine (left_any _ _ _ (by omega) (by omega) (by omega) (by omega)).mono ?_
          rintro e w5 ⟨rfl, rfl⟩
          refine any_name (fun W => Blk W w.heap.size 25 #[.int .i64 m, .int .i64 r, .bool false] ∧ Blk W w3.heap.size 25 #[.int .i64 m, .int .i64 (r + k), .bool false] ∧ Blk W w4.heap.size 25 #[.int .i64 m, .int .i64 (r + k + 1), .bool false] ∧ Below w.heap.size w W) ⟨(B.alloc _).alloc _, (T.alloc _).alloc _, (Blk.new _ _ _).alloc _, (dr.alloc dr.size _).alloc (by have := dr.size; simp; omega) _⟩ ?_
          clear B cB T cT fT dr zB zT
          rintro w5 ⟨B, T, U, dr⟩
          have cB := B.cell; have zB := B.lt; have cT := T.cell; have fT := T.frozen; have zT := T.lt; have cU := U.cell; have zU := U.lt
          go_wp2_with fail
          refine (offer_yes _ _ _).mono ?_
          rintro e w6 ⟨rfl, b4⟩
          replace B := B.kept b4; replace T := T.kept b4; replace U := U.kept b4; replace dr := bl_step dr b4; clear b4
          replace cB := B.cell; replace zB := B.lt; replace cT := T.cell; replace fT := T.frozen; replace zT := T.lt; replace cU := U.cell; replace zU := U.lt
          go_wp2_with fail
          refine any_name (fun W => Blk W w.heap.size 25 #[.int .i64 m, .int .i64 r, .bool false] ∧ Blk W w3.heap.size 25 #[.int .i64 m, .int .i64 (r + k), .bool false] ∧ Blk W w4.heap.size 25 #[.int .i64 m, .int .i64 (r + k + 1), .bool false] ∧ Blk W w6.heap.size 25 #[.int .i64 m, .int .i64 0, .bool false] ∧ Below w.heap.size w W) ⟨B.alloc _, T.alloc _, U.alloc _, Blk.new _ _ _, dr.alloc dr.size _⟩ ?_
          clear B cB T cT fT dr zB zT U cU zU
          rintro W ⟨B, T, U, V, dr⟩
          have cB := B.cell; have zB := B.lt; have cV := V.cell; have zV := V.lt
          go_region_held3 (fun W => W.cell? ⟨w.heap.size, 0, none⟩ = some (.int .i64 m) ∧ W.cell? ⟨w6.heap.size, 0, none⟩ = some (.int .i64 m) ∧ W.cell? ⟨w6.heap.size, 1, none⟩ = some (.int .i64 0) ∧ W.cell? ⟨w6.heap.size, 2, none⟩ = some (.bool false)) (simp [go_sem, *]) (first | (go_at_call 8; refine (left_any _ _ _ (by omega) (by omega) (by omega) (by omega)).mono ?_; rintro e w' ⟨rfl, rfl⟩))
          have cT := T.cell; have fT := T.frozen; have zT := T.lt; have cU := U.cell; have zU := U.lt
          go_wp2_with fail
          go_roundw
          case rel =>
            refine ⟨k + 1, by omega, by go_num, (by repeat (first | (with_reducible exact B) | (with_reducible refine Blk.drew ?_) | (with_reducible refine Blk.alloc ?_ _) | ((with_reducible refine Blk.far ?_ ?hh _); case hh => (simp; omega)))), ?_, (by have q2 := dr.size; repeat (first | (with_reducible exact dr) | (with_reducible refine Below.drew ?_) | ((with_reducible refine Below.alloc ?_ ?hh _); case hh => (first | omega | (simp; omega) | simp)) | ((with_reducible refine Below.setCell ?_ ?hh _); case hh => (first | omega | (simp; omega) | simp))))⟩
            have e1 : r + ((k + 1 : Nat) : Int) = r + k + 1 := by omega
            have e2 : (r + (k : Int) + 1 == m) = false := HB.out
            rw [e1, e2]
            repeat (first | (with_reducible refine Blk.drew ?_) | (with_reducible refine Blk.alloc ?_ _))
            exact ((T.set_ 0 _).set_ 1 _).set_ 2 _
          case measure => simp [intOf]; omega
        · have g4 : ((k : Int) == few % (m - r)) = false := by simp; omega
          have HF := Lib.hid hfew; clear hfew
          go_wp2_with fail
          refine (offer_no _ _ false _ (by omega) (by omega) HB.out).mono ?_
          rintro e w4 ⟨rfl, b4⟩
          replace B := B.kept b4; replace T := T.kept b4; replace dr := bl_step dr b4; clear b4
          replace cB := B.cell; replace zB := B.lt; replace cT := T.cell; replace fT := T.frozen; replace zT := T.lt
          go_wp2_with fail
          refine (left_any _ _ _ (by omega) (by omega) (by omega) (by omega)).mono ?_
          rintro e w5 ⟨rfl, rfl⟩
          go_wp2_with fail
          go_roundw
          case rel =>
            refine ⟨k + 1, by omega, by go_num, (by repeat (first | (with_reducible exact B) | (with_reducible refine Blk.drew ?_) | (with_reducible refine Blk.alloc ?_ _) | ((with_reducible refine Blk.far ?_ ?hh _); case hh => (simp; omega)))), ?_, (by have q2 := dr.size; repeat (first | (with_reducible exact dr) | (with_reducible refine Below.drew ?_) | ((with_reducible refine Below.alloc ?_ ?hh _); case hh => (first | omega | (simp; omega) | simp)) | ((with_reducible refine Below.setCell ?_ ?hh _); case hh => (first | omega | (simp; omega) | simp))))⟩
            have e1 : r + ((k + 1 : Nat) : Int) = r + k + 1 := by omega
            have e2 : (r + (k : Int) + 1 == m) = false := HB.out
            rw [e1, e2]
            repeat (first | (with_reducible refine Blk.drew ?_) | (with_reducible refine Blk.alloc ?_ _))
            exact ((T.set_ 0 _).set_ 1 _).set_ 2 _
          case measure => simp [intOf]; omega
    · have hnm : (r + (k : Int) == m) = true := by simp; omega
      rw [hnm] at T cT
      go_wp2_with fail
      go_ret
      exact ⟨rfl, dr⟩
theorem leftl_whole (m r : Int) (g : Bool) (few : Int) (w : World) (w0 : (Lit.int .i64 m).wf = true) (w1 : (Lit.int .i64 r).wf = true) (w2 : (Lit.int .u8 few).wf = true) :
    Calls Try.prog 4 #[stV m r g, .int .u8 few] w fun e w' => e = .returned (.bool true) ∧ Below w.heap.size w w' := by
  simp [Lit.wf, IntKind.min, IntKind.max, IntKind.signed, IntKind.bits] at w2
  by_cases c0 : m < 1
  · exact leftl_no1 m r g few w c0
  · by_cases c1 : 10 < m
    · exact leftl_no2 m r g few w c1
    · by_cases c2 : r < 0
      · exact leftl_no3 m r g few w (by omega) (by omega) c2
      · by_cases c3 : m < r
        · exact leftl_no4 m r g few w (by omega) (by omega) c3
        · by_cases c4 : (g == (r == m)) = false
          · exact leftl_gone m r g few w (by omega) (by omega) (by omega) (by omega) c4
          · by_cases c5 : r = m
            · subst c5
              cases g
              · exact absurd (by simp) c4
              · exact leftl_full r few w (by omega) (by omega)
            · cases g
              · exact leftl_some m r few w (by omega) (by omega) (by omega) (by omega) (by omega) (by omega)
              · exact absurd (by simp [c5]) c4
theorem gone_whole (m : Int) (a : Option Addr) (len cap : Nat) (w : World) (w0 : (Lit.int .i64 m).wf = true) (hl : len ≤ maxLen) (R : RowsOf w a len [.b]) :
    Calls Try.prog 3 #[.int .i64 m, .slice a len cap] w fun e w' => e = .returned (.bool true) ∧ Below w.heap.size w w' := by
  unfold maxLen at hl
  by_cases hm : m < 1 ∨ 10 < m
  · exact gone_out m a len cap w hm
  · by_cases hlen : 300 < len
    · exact gone_long m a len cap w (by omega) (by omega) hlen (by omega)
    · by_cases h0 : len = 0
      · subst h0
        exact gone_none m a cap w (by omega) (by omega)
      · obtain ⟨b, off, rfl, hR⟩ := R (by omega)
        have key : ∀ i, ∃ x : Bool, i < len → w.cell? ⟨b, off + i, none⟩ = some (.bool x) := fun i => by
          by_cases hi : i < len
          · obtain ⟨cs, ⟨_, _, rfl, ⟨x, rfl⟩, rfl⟩, hc⟩ := hR i hi
            exact ⟨x, fun _ => by simpa using hc 0 (by decide)⟩
          · exact ⟨false, fun h => absurd h hi⟩
        obtain ⟨f, hf⟩ := Classical.axiomOfChoice key
        exact gone_some m none len cap w (by omega) (by omega) (by omega) (by omega) f b off (fun i hi => hf i hi)
end Go.Proofs.Ytpkaeamhjfgjcaa
