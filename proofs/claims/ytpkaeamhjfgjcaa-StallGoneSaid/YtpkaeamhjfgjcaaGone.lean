/- StallGone: the walk. -/
import Derived.Test.YtpkaeamhjfgjcaaAwake
import Derived.Test.YtpkaeamhjfgjcaaFlat
namespace Go.Proofs.Ytpkaeamhjfgjcaa
open Go.ChangeShapes Go.WideShapes Go.ChangeAt Go.RowKit
set_option linter.unusedVariables false

/-- how many refusals stand in a row at the end of the first n offers -/
def runTo (f : Nat → Bool) : Nat → Nat
  | 0 => 0
  | n + 1 => if f n then 0 else runTo f n + 1
theorem runTo_le (f : Nat → Bool) : ∀ n, runTo f n ≤ n
  | 0 => Nat.le_refl _
  | n + 1 => by unfold runTo; split <;> have := runTo_le f n <;> omega

theorem gone_out (m : Int) (a : Option Addr) (len cap : Nat) (w : World) (h : (m < 1 ∨ 10 < m)) :
    Calls Try.prog 3 #[.int .i64 m, .slice a len cap] w fun e w' => e = .returned (.bool true) ∧ Below w.heap.size w w' := by
  have HM := Lib.hid h; clear h
  go_enter Try.func3, Try.ntmps3
  go_wp2_with fail
  refine (awake_true _).mono ?_
  rintro e w1 ⟨rfl, b1⟩
  go_wp2_with fail
  refine (start_out _ _ HM.out).mono ?_
  rintro e w2 ⟨rfl, b2⟩
  have d := bl_step b1 b2
  clear b1 b2
  go_wp2_with fail
  go_ret
  exact ⟨rfl, d.alloc d.size _⟩
theorem gone_long (m : Int) (a : Option Addr) (len cap : Nat) (w : World) (h0 : 1 ≤ m) (h1 : m ≤ 10) (h : 300 < len) (hl : len ≤ 9223372036854775807) :
    Calls Try.prog 3 #[.int .i64 m, .slice a len cap] w fun e w' => e = .returned (.bool true) ∧ Below w.heap.size w w' := by
  go_enter Try.func3, Try.ntmps3
  go_wp2_with fail
  refine (awake_true _).mono ?_
  rintro e w1 ⟨rfl, b1⟩
  go_wp2_with fail
  refine (start_in _ _ h0 h1).mono ?_
  rintro e w2 ⟨rfl, b2⟩
  have d := bl_step b1 b2
  clear b1 b2
  go_wp2_with fail
  go_ret
  exact ⟨rfl, d.alloc d.size _⟩

set_option maxRecDepth 100000 in
set_option maxHeartbeats 2000000 in
theorem gone_some (m : Int) (a : Option Addr) (len cap : Nat) (w : World) (h0 : 1 ≤ m) (h1 : m ≤ 10) (hlen : len ≤ 300) (hpos : 0 < len) (f : Nat → Bool) (b off : Nat) (hc : Hid (∀ i, i < len → w.cell? ⟨b, off + i, none⟩ = some (.bool (f i)))) :
    Calls Try.prog 3 #[.int .i64 m, .slice (some ⟨b, off, none⟩) len cap] w fun e w' => e = .returned (.bool true) ∧ Below w.heap.size w w' := by
  go_enter Try.func3, Try.ntmps3
  go_wp2_with fail
  refine (awake_true _).mono ?_
  rintro e w1 ⟨rfl, b1⟩
  go_wp2_with fail
  refine (start_in _ _ h0 h1).mono ?_
  rintro e w2 ⟨rfl, b2⟩
  have d := bl_step b1 b2
  clear b1 b2
  have k2 := d.size
  go_wp2_with fail
  go_loopw [29, 7] (fun i x wr => ∃ (k : Nat) (g row : Int) (gn : Bool), k ≤ len ∧ i = .int .i64 k ∧ x = .int .i64 g ∧ Blk wr w2.heap.size 25 #[.int .i64 m, .int .i64 row, .bool gn] ∧ Below w.heap.size w wr ∧
      ((g = -1 ∧ gn = false ∧ row = runTo f k ∧ row < m) ∨ (0 ≤ g ∧ g < k ∧ gn = true))) (fun i _ _ => len - (intOf i).toNat)
  case atStart => exact ⟨0, -1, 0, false, Nat.zero_le _, rfl, rfl, Blk.new _ _ _, d.alloc k2 _, .inl ⟨rfl, rfl, rfl, by omega⟩⟩
  case round =>
    rename_i wr
    obtain ⟨wo, rfl⟩ : ∃ wo : World, wo = wr := ⟨_, rfl⟩
    obtain ⟨k, g, row, gn, hk, rfl, rfl, B, dr, hs⟩ := hrel
    have HS := Lib.hid hs; clear hs d
    have cB := B.cell; have fB := B.frozen; have zB := B.lt
    by_cases hlt : k < len
    · have hck := cell_old dr (hc.out k hlt)
      have HC := Lib.hid (fun i hi => cell_old dr (hc.out i hi)); clear hc
      go_wp2_with fail
      go_loop [9, 10] (fun x y => ∃ j : Nat, j ≤ k + 1 ∧ x = .int .i64 j ∧ y = .int .i64 ((k : Int) - j) ∧ runTo f (k + 1) = j + runTo f (k + 1 - j)) (fun x _ => k + 1 - (intOf x).toNat)
      case atStart => exact ⟨0, by omega, rfl, by simp, by simp⟩
      case round =>
        obtain ⟨j, hj, rfl, rfl, hrun⟩ := hrel
        have HRUN := Lib.hid hrun; clear hrun
        by_cases hgo : j ≤ k ∧ f (k - j) = false
        · obtain ⟨hjk, hf⟩ := hgo
          have hcj := HC.out (k - j) (by omega)
          rw [hf] at hcj
          have HF := Lib.hid hf; clear hf
          go_wp2_with fail
          go_round
          case rel =>
            refine ⟨j + 1, by omega, by go_num, by congr 1; omega, ?_⟩
            rw [HRUN.out]
            have e : k + 1 - j = (k - j) + 1 := by omega
            rw [e, runTo, if_neg (by rw [HF.out]; simp), show k + 1 - (j + 1) = k - j from by omega]
            omega
          case measure => simp [intOf]; omega
        · have hR : runTo f (k + 1) = j := by
            rw [HRUN.out]
            by_cases hjk : j ≤ k
            · have hf : f (k - j) = true := by simpa using fun h => hgo ⟨hjk, h⟩
              rw [show k + 1 - j = (k - j) + 1 from by omega, runTo, if_pos hf]; omega
            · rw [show k + 1 - j = 0 from by omega, runTo]; omega
          have hj1 : (j ≤ k ∧ f (k - j) = true) ∨ j = k + 1 := by
            by_cases hjk : j ≤ k
            · exact .inl ⟨hjk, by simpa using fun h => hgo ⟨hjk, h⟩⟩
            · exact .inr (by omega)
          have hfk : (f k = true ∧ j = 0) ∨ (f k = false ∧ j = runTo f k + 1) := by
            rw [← hR, runTo]
            cases f k <;> simp
          have HR := Lib.hid hR; have HFK := Lib.hid hfk
          clear hR hfk hgo HRUN
          have hkk := runTo_le f k
          rcases HS.out with ⟨rfl, rfl, rfl, hrm⟩ | ⟨hg0, hg1, rfl⟩
          · rcases HFK.out with ⟨hft, rfl⟩ | ⟨hff, rfl⟩
            · have HFT := Lib.hid hft
              clear hj1
              have hb := cell_lt hck
              rw [hft] at hck; clear hft
              have n1 : ((-1 : Int) == (k : Int)) = false := by simp <;> omega
              have n2 : ((0 : Int) == m) = false := by simp <;> omega
              have zB1 : w2.heap.size < wo.heap.size + 1 := by omega
              have zB2 : w2.heap.size < wo.heap.size + 1 + 1 := by omega
              have zB3 : w2.heap.size < wo.heap.size + 1 + 1 + 1 := by omega
              have zB4 : w2.heap.size < wo.heap.size + 1 + 1 + 1 + 1 := by omega
              have zB5 : w2.heap.size < wo.heap.size + 1 + 1 + 1 + 1 + 1 := by omega
              have zB6 : w2.heap.size < wo.heap.size + 1 + 1 + 1 + 1 + 1 + 1 := by omega
              have hb1 : b < wo.heap.size + 1 := by omega
              have hb2 : b < wo.heap.size + 1 + 1 := by omega
              have hb3 : b < wo.heap.size + 1 + 1 + 1 := by omega
              have hb4 : b < wo.heap.size + 1 + 1 + 1 + 1 := by omega
              have hb5 : b < wo.heap.size + 1 + 1 + 1 + 1 + 1 := by omega
              have hb6 : b < wo.heap.size + 1 + 1 + 1 + 1 + 1 + 1 := by omega
              go_wp2_with fail
              go_region_held3 (fun W => W.cell? ⟨w2.heap.size, 0, none⟩ = some (.int .i64 m) ∧ W.cell? ⟨w2.heap.size, 1, none⟩ = some (.int .i64 ((runTo f k : Int))) ∧ W.cell? ⟨w2.heap.size, 2, none⟩ = some (.bool false) ∧ W.cell? ⟨b, off + k, none⟩ = some (.bool true)) (simp [go_sem, *]) (first | (go_at_call 7; refine (offer_yes_x _ _ _).mono ?_; rintro e w' ⟨rfl, c1, c2, c3, c4, c5, rfl⟩))
              · clear cB fB zB hck
                (refine any_name (fun W => Blk W w2.heap.size 25 #[.int .i64 m, .int .i64 ((runTo f k : Int)), .bool false] ∧ Blk W (wo.heap.size + 1 + 1 + 1 + 1 + 1) 25 #[.int .i64 m, .int .i64 0, .bool false] ∧ Below w.heap.size w W) ⟨by repeat (first | (with_reducible exact B) | (with_reducible refine Blk.drew ?_) | (with_reducible refine Blk.alloc ?_ _)), by (exact Blk.drew (Blk.drew (Blk.newAt _ _ _ _ (by simp)))), by have q2 := dr.size; repeat (first | (with_reducible exact dr) | (with_reducible refine Below.drew ?_) | ((with_reducible refine Below.alloc ?_ ?hh _); case hh => (first | omega | (simp; omega) | simp)))⟩ ?_)
                clear B dr
                rintro W ⟨B, Bt, dr⟩
                have cB := B.cell; have fB := B.frozen; have cT := Bt.cell; have zT := Bt.lt; have zW := B.lt
                go_wp2_with fail
                refine (left_any _ _ _ (by omega) (by omega) (by omega) (by omega)).mono ?_
                rintro e w' ⟨rfl, rfl⟩
                go_wp2_with fail
                go_roundw
                case rel => exact ⟨k + 1, -1, 0, false, by omega, by go_num, rfl, (((B.set_ 0 _).set_ 1 _).set_ 2 _).alloc _, (((dr.setCell (by simp; omega) _).setCell (by simp; omega) _).setCell (by simp; omega) _).alloc (by have := dr.size; simp; omega) _, .inl ⟨rfl, rfl, by rw [runTo, if_pos HFT.out]; rfl, by omega⟩⟩
                case measure => simp [intOf]; omega
              · clear cB fB zB hck
                (refine any_name (fun W => Blk W w2.heap.size 25 #[.int .i64 m, .int .i64 ((runTo f k : Int)), .bool false] ∧ Blk W (wo.heap.size) 25 #[.int .i64 m, .int .i64 0, .bool false] ∧ Below w.heap.size w W) ⟨by repeat (first | (with_reducible exact B) | (with_reducible refine Blk.drew ?_) | (with_reducible refine Blk.alloc ?_ _)), by (exact ((((((Blk.new wo 25 _).alloc _).alloc _).alloc _).alloc _).alloc _).drew.drew), by have q2 := dr.size; repeat (first | (with_reducible exact dr) | (with_reducible refine Below.drew ?_) | ((with_reducible refine Below.alloc ?_ ?hh _); case hh => (first | omega | (simp; omega) | simp)))⟩ ?_)
                clear B dr
                rintro W ⟨B, Bt, dr⟩
                have cB := B.cell; have fB := B.frozen; have cT := Bt.cell; have zT := Bt.lt; have zW := B.lt
                go_wp2_with fail
                refine (left_any _ _ _ (by omega) (by omega) (by omega) (by omega)).mono ?_
                rintro e w' ⟨rfl, rfl⟩
                go_wp2_with fail
                go_roundw
                case rel => exact ⟨k + 1, -1, 0, false, by omega, by go_num, rfl, (((B.set_ 0 _).set_ 1 _).set_ 2 _).alloc _, (((dr.setCell (by simp; omega) _).setCell (by simp; omega) _).setCell (by simp; omega) _).alloc (by have := dr.size; simp; omega) _, .inl ⟨rfl, rfl, by rw [runTo, if_pos HFT.out]; rfl, by omega⟩⟩
                case measure => simp [intOf]; omega
            · have HFF := Lib.hid hff
              by_cases hlast : (runTo f k : Int) + 1 = m
              · subst hlast
                rcases hj1 with ⟨hjk, hf⟩ | hjk
                all_goals
                  try (have hcj := HC.out (k - (runTo f k + 1)) (by omega); rw [hf] at hcj; clear hf)
                  try (have hjn : (k : Int) - (runTo f k + 1 : Nat) < 0 := by omega
                       have HJ := Lib.hid hjk; clear hjk)
                  have hb := cell_lt hck
                  rw [hff] at hck; clear hff
                  have n1 : ((-1 : Int) == (k : Int)) = false := by simp <;> omega
                  have HB : Hid (((runTo f k : Int) + 1 == (runTo f k : Int) + 1) = true) := by show _ = true; simp
                  have zB1 : w2.heap.size < wo.heap.size + 1 := by omega
                  have zB2 : w2.heap.size < wo.heap.size + 1 + 1 := by omega
                  have zB3 : w2.heap.size < wo.heap.size + 1 + 1 + 1 := by omega
                  have zB4 : w2.heap.size < wo.heap.size + 1 + 1 + 1 + 1 := by omega
                  have zB5 : w2.heap.size < wo.heap.size + 1 + 1 + 1 + 1 + 1 := by omega
                  have zB6 : w2.heap.size < wo.heap.size + 1 + 1 + 1 + 1 + 1 + 1 := by omega
                  have hb1 : b < wo.heap.size + 1 := by omega
                  have hb2 : b < wo.heap.size + 1 + 1 := by omega
                  have hb3 : b < wo.heap.size + 1 + 1 + 1 := by omega
                  have hb4 : b < wo.heap.size + 1 + 1 + 1 + 1 := by omega
                  have hb5 : b < wo.heap.size + 1 + 1 + 1 + 1 + 1 := by omega
                  have hb6 : b < wo.heap.size + 1 + 1 + 1 + 1 + 1 + 1 := by omega
                  go_wp2_with fail
                  go_region_held3 (fun W => W.cell? ⟨w2.heap.size, 0, none⟩ = some (.int .i64 ((runTo f k : Int) + 1)) ∧ W.cell? ⟨w2.heap.size, 1, none⟩ = some (.int .i64 ((runTo f k : Int))) ∧ W.cell? ⟨w2.heap.size, 2, none⟩ = some (.bool false) ∧ W.cell? ⟨b, off + k, none⟩ = some (.bool false)) (simp [go_sem, *]) (first | (go_at_call 7; refine (offer_no_x _ _ _ _ (by omega) (by omega) HB.out).mono ?_; rintro e w' ⟨rfl, c1, c2, c3, c4, c5, rfl⟩))
                  · clear cB fB zB hck
                    (refine any_name (fun W => Blk W w2.heap.size 25 #[.int .i64 ((runTo f k : Int) + 1), .int .i64 ((runTo f k : Int)), .bool false] ∧ Blk W (wo.heap.size + 1 + 1 + 1 + 1 + 1) 25 #[.int .i64 ((runTo f k : Int) + 1), .int .i64 ((runTo f k : Int) + 1), .bool true] ∧ Below w.heap.size w W) ⟨by repeat (first | (with_reducible exact B) | (with_reducible refine Blk.drew ?_) | (with_reducible refine Blk.alloc ?_ _)), by (exact Blk.drew (Blk.drew (Blk.newAt _ _ _ _ (by simp)))), by have q2 := dr.size; repeat (first | (with_reducible exact dr) | (with_reducible refine Below.drew ?_) | ((with_reducible refine Below.alloc ?_ ?hh _); case hh => (first | omega | (simp; omega) | simp)))⟩ ?_)
                    clear B dr
                    rintro W ⟨B, Bt, dr⟩
                    have cB := B.cell; have fB := B.frozen; have cT := Bt.cell; have zT := Bt.lt; have zW := B.lt
                    go_wp2_with fail
                    go_roundw
                    case rel => exact ⟨k + 1, k, ((runTo f k : Int) + 1), true, by omega, by go_num, rfl, ((B.set_ 0 _).set_ 1 _).set_ 2 _, ((dr.setCell (by simp; omega) _).setCell (by simp; omega) _).setCell (by simp; omega) _, .inr ⟨by omega, by omega, rfl⟩⟩
                    case measure => simp [intOf]; omega
                  · clear cB fB zB hck
                    (refine any_name (fun W => Blk W w2.heap.size 25 #[.int .i64 ((runTo f k : Int) + 1), .int .i64 ((runTo f k : Int)), .bool false] ∧ Blk W (wo.heap.size) 25 #[.int .i64 ((runTo f k : Int) + 1), .int .i64 ((runTo f k : Int) + 1), .bool true] ∧ Below w.heap.size w W) ⟨by repeat (first | (with_reducible exact B) | (with_reducible refine Blk.drew ?_) | (with_reducible refine Blk.alloc ?_ _)), by (exact ((((((Blk.new wo 25 _).alloc _).alloc _).alloc _).alloc _).alloc _).drew.drew), by have q2 := dr.size; repeat (first | (with_reducible exact dr) | (with_reducible refine Below.drew ?_) | ((with_reducible refine Below.alloc ?_ ?hh _); case hh => (first | omega | (simp; omega) | simp)))⟩ ?_)
                    clear B dr
                    rintro W ⟨B, Bt, dr⟩
                    have cB := B.cell; have fB := B.frozen; have cT := Bt.cell; have zT := Bt.lt; have zW := B.lt
                    go_wp2_with fail
                    go_roundw
                    case rel => exact ⟨k + 1, k, ((runTo f k : Int) + 1), true, by omega, by go_num, rfl, ((B.set_ 0 _).set_ 1 _).set_ 2 _, ((dr.setCell (by simp; omega) _).setCell (by simp; omega) _).setCell (by simp; omega) _, .inr ⟨by omega, by omega, rfl⟩⟩
                    case measure => simp [intOf]; omega
              · have HLA := Lib.hid hlast
                rcases hj1 with ⟨hjk, hf⟩ | hjk
                all_goals
                  try (have hcj := HC.out (k - (runTo f k + 1)) (by omega); rw [hf] at hcj; clear hf)
                  try (have hjn : (k : Int) - (runTo f k + 1 : Nat) < 0 := by omega
                       have HJ := Lib.hid hjk; clear hjk)
                  have hb := cell_lt hck
                  rw [hff] at hck; clear hff
                  have n1 : ((-1 : Int) == (k : Int)) = false := by simp <;> omega
                  have HB : Hid (((runTo f k : Int) + 1 == m) = false) := by show _ = false; simp; omega
                  have n2 : (((runTo f k : Int) + 1) == m) = false := by simp <;> omega
                  have zB1 : w2.heap.size < wo.heap.size + 1 := by omega
                  have zB2 : w2.heap.size < wo.heap.size + 1 + 1 := by omega
                  have zB3 : w2.heap.size < wo.heap.size + 1 + 1 + 1 := by omega
                  have zB4 : w2.heap.size < wo.heap.size + 1 + 1 + 1 + 1 := by omega
                  have zB5 : w2.heap.size < wo.heap.size + 1 + 1 + 1 + 1 + 1 := by omega
                  have zB6 : w2.heap.size < wo.heap.size + 1 + 1 + 1 + 1 + 1 + 1 := by omega
                  have hb1 : b < wo.heap.size + 1 := by omega
                  have hb2 : b < wo.heap.size + 1 + 1 := by omega
                  have hb3 : b < wo.heap.size + 1 + 1 + 1 := by omega
                  have hb4 : b < wo.heap.size + 1 + 1 + 1 + 1 := by omega
                  have hb5 : b < wo.heap.size + 1 + 1 + 1 + 1 + 1 := by omega
                  have hb6 : b < wo.heap.size + 1 + 1 + 1 + 1 + 1 + 1 := by omega
                  go_wp2_with fail
                  go_region_held3 (fun W => W.cell? ⟨w2.heap.size, 0, none⟩ = some (.int .i64 m) ∧ W.cell? ⟨w2.heap.size, 1, none⟩ = some (.int .i64 ((runTo f k : Int))) ∧ W.cell? ⟨w2.heap.size, 2, none⟩ = some (.bool false) ∧ W.cell? ⟨b, off + k, none⟩ = some (.bool false)) (simp [go_sem, *]) (first | (go_at_call 7; refine (offer_no_x _ _ _ _ (by omega) (by omega) HB.out).mono ?_; rintro e w' ⟨rfl, c1, c2, c3, c4, c5, rfl⟩))
                  · clear cB fB zB hck
                    (refine any_name (fun W => Blk W w2.heap.size 25 #[.int .i64 m, .int .i64 ((runTo f k : Int)), .bool false] ∧ Blk W (wo.heap.size + 1 + 1 + 1 + 1 + 1) 25 #[.int .i64 m, .int .i64 ((runTo f k : Int) + 1), .bool false] ∧ Below w.heap.size w W) ⟨by repeat (first | (with_reducible exact B) | (with_reducible refine Blk.drew ?_) | (with_reducible refine Blk.alloc ?_ _)), by (exact Blk.drew (Blk.drew (Blk.newAt _ _ _ _ (by simp)))), by have q2 := dr.size; repeat (first | (with_reducible exact dr) | (with_reducible refine Below.drew ?_) | ((with_reducible refine Below.alloc ?_ ?hh _); case hh => (first | omega | (simp; omega) | simp)))⟩ ?_)
                    clear B dr
                    rintro W ⟨B, Bt, dr⟩
                    have cB := B.cell; have fB := B.frozen; have cT := Bt.cell; have zT := Bt.lt; have zW := B.lt
                    go_wp2_with fail
                    refine (left_any _ _ _ (by omega) (by omega) (by omega) (by omega)).mono ?_
                    rintro e w' ⟨rfl, rfl⟩
                    go_wp2_with fail
                    go_roundw
                    case rel => exact ⟨k + 1, -1, ((runTo f k : Int) + 1), false, by omega, by go_num, rfl, (((B.set_ 0 _).set_ 1 _).set_ 2 _).alloc _, (((dr.setCell (by simp; omega) _).setCell (by simp; omega) _).setCell (by simp; omega) _).alloc (by have := dr.size; simp; omega) _, .inl ⟨rfl, rfl, by rw [runTo, if_neg (by rw [HFF.out]; simp)]; omega, by omega⟩⟩
                    case measure => simp [intOf]; omega
                  · clear cB fB zB hck
                    (refine any_name (fun W => Blk W w2.heap.size 25 #[.int .i64 m, .int .i64 ((runTo f k : Int)), .bool false] ∧ Blk W (wo.heap.size) 25 #[.int .i64 m, .int .i64 ((runTo f k : Int) + 1), .bool false] ∧ Below w.heap.size w W) ⟨by repeat (first | (with_reducible exact B) | (with_reducible refine Blk.drew ?_) | (with_reducible refine Blk.alloc ?_ _)), by (exact ((((((Blk.new wo 25 _).alloc _).alloc _).alloc _).alloc _).alloc _).drew.drew), by have q2 := dr.size; repeat (first | (with_reducible exact dr) | (with_reducible refine Below.drew ?_) | ((with_reducible refine Below.alloc ?_ ?hh _); case hh => (first | omega | (simp; omega) | simp)))⟩ ?_)
                    clear B dr
                    rintro W ⟨B, Bt, dr⟩
                    have cB := B.cell; have fB := B.frozen; have cT := Bt.cell; have zT := Bt.lt; have zW := B.lt
                    go_wp2_with fail
                    refine (left_any _ _ _ (by omega) (by omega) (by omega) (by omega)).mono ?_
                    rintro e w' ⟨rfl, rfl⟩
                    go_wp2_with fail
                    go_roundw
                    case rel => exact ⟨k + 1, -1, ((runTo f k : Int) + 1), false, by omega, by go_num, rfl, (((B.set_ 0 _).set_ 1 _).set_ 2 _).alloc _, (((dr.setCell (by simp; omega) _).setCell (by simp; omega) _).setCell (by simp; omega) _).alloc (by have := dr.size; simp; omega) _, .inl ⟨rfl, rfl, by rw [runTo, if_neg (by rw [HFF.out]; simp)]; omega, by omega⟩⟩
                    case measure => simp [intOf]; omega
          · have x0 := 0
            rcases hj1 with ⟨hjk, hf⟩ | hjk
            all_goals
              try (have hcj := HC.out (k - j) (by omega); rw [hf] at hcj; clear hf)
              try (have hjn : (k : Int) - j < 0 := by omega
                   have HJ := Lib.hid hjk; clear hjk)
              have hb := cell_lt hck
              have n1 : (g == (k : Int)) = false := by simp <;> omega
              have zB1 : w2.heap.size < wo.heap.size + 1 := by omega
              have zB2 : w2.heap.size < wo.heap.size + 1 + 1 := by omega
              have zB3 : w2.heap.size < wo.heap.size + 1 + 1 + 1 := by omega
              have hb1 : b < wo.heap.size + 1 := by omega
              have hb2 : b < wo.heap.size + 1 + 1 := by omega
              have hb3 : b < wo.heap.size + 1 + 1 + 1 := by omega
              go_wp2_with fail
              go_region_held3 (fun W => W.cell? ⟨w2.heap.size, 0, none⟩ = some (.int .i64 m) ∧ W.cell? ⟨w2.heap.size, 1, none⟩ = some (.int .i64 (row)) ∧ W.cell? ⟨w2.heap.size, 2, none⟩ = some (.bool true) ∧ W.cell? ⟨b, off + k, none⟩ = some (.bool (f k))) (simp [go_sem, *]) (first | (go_at_call 7; refine (offer_gone_x _ _ _ _).mono ?_; rintro e w' ⟨rfl, c1, c2, rfl⟩))
              · clear cB fB zB hck
                (refine any_name (fun W => Blk W w2.heap.size 25 #[.int .i64 m, .int .i64 (row), .bool true] ∧ Blk W (wo.heap.size + 1 + 1) 25 #[.int .i64 m, .int .i64 row, .bool true] ∧ Below w.heap.size w W) ⟨by repeat (first | (with_reducible exact B) | (with_reducible refine Blk.drew ?_) | (with_reducible refine Blk.alloc ?_ _)), by (exact Blk.drew (Blk.newAt _ _ _ _ (by simp))), by have q2 := dr.size; repeat (first | (with_reducible exact dr) | (with_reducible refine Below.drew ?_) | ((with_reducible refine Below.alloc ?_ ?hh _); case hh => (first | omega | (simp; omega) | simp)))⟩ ?_)
                clear B dr
                rintro W ⟨B, Bt, dr⟩
                have cB := B.cell; have fB := B.frozen; have cT := Bt.cell; have zT := Bt.lt; have zW := B.lt
                go_wp2_with fail
                go_roundw
                case rel => exact ⟨k + 1, g, row, true, by omega, by go_num, rfl, ((B.set_ 0 _).set_ 1 _).set_ 2 _, ((dr.setCell (by simp; omega) _).setCell (by simp; omega) _).setCell (by simp; omega) _, .inr ⟨hg0, by omega, rfl⟩⟩
                case measure => simp [intOf]; omega
              · clear cB fB zB hck
                (refine any_name (fun W => Blk W w2.heap.size 25 #[.int .i64 m, .int .i64 (row), .bool true] ∧ Blk W (wo.heap.size) 25 #[.int .i64 m, .int .i64 row, .bool true] ∧ Below w.heap.size w W) ⟨by repeat (first | (with_reducible exact B) | (with_reducible refine Blk.drew ?_) | (with_reducible refine Blk.alloc ?_ _)), by (exact (((Blk.new wo 25 _).alloc _).alloc _).drew), by have q2 := dr.size; repeat (first | (with_reducible exact dr) | (with_reducible refine Below.drew ?_) | ((with_reducible refine Below.alloc ?_ ?hh _); case hh => (first | omega | (simp; omega) | simp)))⟩ ?_)
                clear B dr
                rintro W ⟨B, Bt, dr⟩
                have cB := B.cell; have fB := B.frozen; have cT := Bt.cell; have zT := Bt.lt; have zW := B.lt
                go_wp2_with fail
                go_roundw
                case rel => exact ⟨k + 1, g, row, true, by omega, by go_num, rfl, ((B.set_ 0 _).set_ 1 _).set_ 2 _, ((dr.setCell (by simp; omega) _).setCell (by simp; omega) _).setCell (by simp; omega) _, .inr ⟨hg0, by omega, rfl⟩⟩
                case measure => simp [intOf]; omega
    · go_wp2_with fail
      go_ret
      exact ⟨rfl, dr⟩
end Go.Proofs.Ytpkaeamhjfgjcaa
