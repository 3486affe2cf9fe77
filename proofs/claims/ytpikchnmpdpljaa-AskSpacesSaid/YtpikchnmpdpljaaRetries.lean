/- AskRetries: the walk. -/
import Derived.Test.YtpikchnmpdpljaaSpaces
namespace Go.Proofs.Ytpikchnmpdpljaa
open Go.ChangeShapes Go.WideShapes Go.ChangeAt Go.RowKit
set_option linter.unusedVariables false

theorem gapV_next {S R : Int} (hR : 1 ≤ R) (n : Nat) : gapV S R ((n : Int) + 1 + 1) = if 2 * gapV S R ((n : Int) + 1) < R then 2 * gapV S R ((n : Int) + 1) else R := by
  have e1 : ((n : Int) + 1 + 1 - 1).toNat = n + 1 := by omega
  have e2 : ((n : Int) + 1 - 1).toNat = n := by omega
  unfold gapV
  rw [e1, e2, dbl]
  by_cases h : R ≤ dbl S R n
  · rw [if_pos h, if_neg (by omega)]
    by_cases h3 : 2 * R < R
    · rw [if_pos h3]; omega
    · rw [if_neg h3]
  · rw [if_neg h, if_pos (by omega : dbl S R n < R)]

theorem gapV_zero {S R : Int} (h1 : S ≤ R) : gapV S R 0 = S ∧ gapV S R 1 = S := by
  simp [gapV, dbl]
  omega

theorem retries_no (S R : Int) (a : Option Addr) (len cap : Nat) (many : Int) (w : World) (h : Hid (¬ (1 ≤ S ∧ S ≤ R ∧ R ≤ 1000))) :
    Calls Try.prog 5 #[ruV S R, .slice a len cap, .int .u16 many] w fun e w' => e = .returned (.bool true) ∧ Below w.heap.size w w' := by
  go_enter Try.func5, Try.ntmps5
  go_wp2_with fail
  refine (awake_true _).mono ?_
  rintro e w1 ⟨rfl, b1⟩
  have Br := Blk.born b1; have dr := bl_after (Below.refl w.heap.size w) b1; have cr := Br.cell; have zr := Br.lt; clear b1
  go_wp2_with fail
  refine (right_no _ _ _ h.out).mono ?_
  rintro e w' ⟨rfl, rfl⟩
  go_wp2_with fail
  go_ret
  exact ⟨rfl, dr.alloc dr.size _⟩

set_option maxRecDepth 100000 in
set_option maxHeartbeats 1500000 in
theorem retries_some (S R : Int) (a : Option Addr) (len cap : Nat) (many : Int) (w : World) (h0 : 1 ≤ S) (h1 : S ≤ R) (h2 : R ≤ 1000) (m0 : 0 ≤ many) (m1 : many ≤ 65535) (hl : len ≤ 9223372036854775807) (Q : Hid (RowsOf w a len [.i .u8, .b])) :
    Calls Try.prog 5 #[ruV S R, .slice a len cap, .int .u16 many] w fun e w' => e = .returned (.bool true) ∧ Below w.heap.size w w' := by
  go_enter Try.func5, Try.ntmps5
  go_wp2_with fail
  refine (awake_true _).mono ?_
  rintro e w1 ⟨rfl, b1⟩
  have Br := Blk.born b1; have dr := bl_after (Below.refl w.heap.size w) b1; have cr := Br.cell; have zr := Br.lt; clear b1
  go_wp2_with fail
  refine (right_yes _ _ _ h0 h1 h2).mono ?_
  rintro e w' ⟨rfl, rfl⟩
  by_cases hlen : 300 < len
  · go_wp2_with fail
    go_ret
    exact ⟨rfl, dr.alloc dr.size _⟩
  · refine any_name (fun W => Blk W w.heap.size 23 #[.int .i64 S, .int .i64 R] ∧ Below w.heap.size w W) ⟨Br.alloc _, dr.alloc dr.size _⟩ ?_
    clear Br dr cr zr
    rintro W3 ⟨Br, dr⟩
    have cr := Br.cell; have zr := Br.lt; have k3 := dr.size
    go_wp2_with fail
    go_loopw [29, 8] (fun i x wr => ∃ (k : Nat) (wa an : Bool) (la tr now : Int), k ≤ len ∧ i = .int .i64 k ∧ x = .int .i64 now ∧ 0 ≤ now ∧ now ≤ 255 * k ∧ 0 ≤ la ∧ la ≤ now ∧ 0 ≤ tr ∧ tr ≤ k ∧ Blk wr w.heap.size 23 #[.int .i64 S, .int .i64 R] ∧ Blk wr W3.heap.size 32 #[.bool wa, .bool an, .int .i64 la, .int .i64 tr] ∧ Below w.heap.size w wr) (fun i _ _ => len - (intOf i).toNat)
    case atStart => exact ⟨0, false, false, 0, 0, 0, by omega, rfl, rfl, by omega, by omega, by omega, by omega, by omega, by omega, Br.alloc _, Blk.new _ _ _, dr.alloc k3 _⟩
    case round =>
      rename_i wr
      obtain ⟨k, wa, an, la, tr, now, hk, rfl, rfl, n0, n1, l0, l1, q0, q1, B, T, dx⟩ := hrel
      clear Br dr cr
      have cB := B.cell; have zB := B.lt; have cT := T.cell; have zT := T.lt; have fT := T.frozen
      by_cases hlt : k < len
      · obtain ⟨b, off, rfl, hR⟩ := Q.out (by omega)
        obtain ⟨cs, hL, hc⟩ := hR k hlt
        obtain ⟨_, _, rfl, ⟨by_, rfl, wby⟩, _, _, rfl, ⟨wt, rfl⟩, rfl⟩ := hL
        have e0 : wr.cell? ⟨b, off + k * 2, none⟩ = some (.int .u8 by_) := cell_old dx (hc 0 (by decide))
        have e1 : wr.cell? ⟨b, off + k * 2 + 1, none⟩ = some (.bool wt) := cell_old dx (hc 1 (by decide))
        clear hc hR
        simp [Lit.wf, IntKind.min, IntKind.max, IntKind.signed, IntKind.bits] at wby
        obtain ⟨y0, y1⟩ := wby
        have F : Fit S R la tr (now + by_) := ⟨h0, h1, h2, by omega, by omega, by omega, by omega, by omega, by omega⟩
        have SA := Lib.hid (fun W => step_any S R wa an la tr wt (now + by_) W F)
        have nb := nbd S R wa an la tr wt (now + by_) F k q1
        have nl : nLa S R wa an la tr wt (now + by_) ≤ now + by_ := by simp only [nLa]; split <;> omega
        generalize nAn S R wa an la tr wt (now + by_) = A at SA
        generalize nLa S R wa an la tr wt (now + by_) = L at SA nb nl
        generalize nTr S R wa an la tr wt (now + by_) = T2 at SA nb
        generalize nIs S R wa an la tr wt (now + by_) = X at SA
        obtain ⟨nb0, nb1, nb2, nb3⟩ := nb
        have NB3 := Lib.hid nb3; clear nb3 F
        have ne1 : ¬ (W3.heap.size = wr.heap.size) := by omega
        go_wp2_with fail
        refine (SA.out _).mono ?_
        rintro e w4 ⟨rfl, b4⟩
        replace B := B.after b4; replace T := T.after b4; replace dx := bl_after dx b4; clear b4
        replace cB := B.cell; replace zB := B.lt; replace cT := T.cell; replace zT := T.lt; replace fT := T.frozen
        go_wp2_with fail
        go_roundw
        case rel =>
          refine ⟨k + 1, wt, A, L, T2, now + by_, by omega, by go_num, rfl, by omega, by omega, nb0, nl, nb2, NB3.out, ?_, ?_, ?_⟩
          · repeat (first | (with_reducible exact B) | (with_reducible refine Blk.drew ?_) | (with_reducible refine Blk.drewN ?_ _) | (with_reducible refine Blk.alloc ?_ _) | ((with_reducible refine Blk.far ?_ ?hh _); case hh => (first | (simp; done) | (simp; omega))))
          · repeat (first | (with_reducible refine Blk.drew ?_) | (with_reducible refine Blk.drewN ?_ _) | (with_reducible refine Blk.alloc ?_ _))
            exact (((T.set_ 0 _).set_ 1 _).set_ 2 _).set_ 3 _
          · have q2 := (dx).size; repeat (first | (with_reducible exact dx) | (with_reducible refine Below.drew ?_) | (with_reducible refine bl_drewN' ?_ _) | ((with_reducible refine Below.alloc ?_ ?hh _); case hh => (first | omega | (simp; omega) | simp)) | ((with_reducible refine Below.setCell ?_ ?hh _); case hh => (first | omega | (simp; omega) | simp)))
        case measure => simp [intOf]; omega
      · -- the step that lets go, then the second loop
        have F : Fit S R la tr now := ⟨h0, h1, h2, by omega, by omega, by omega, by omega, by omega, by omega⟩
        have SA := Lib.hid (fun W => step_any S R wa an la tr false now W F)
        have x1 : nIs S R wa an la tr false now = false := by simp [nIs]
        have x2 : nAn S R wa an la tr false now = an := by simp [nAn, x1]
        have x3 : nLa S R wa an la tr false now = la := by simp [nLa, x1]
        have x4 : nTr S R wa an la tr false now = 0 := by simp [nTr]
        rw [x1, x2, x3, x4] at SA
        clear x1 x2 x3 x4 F
        go_wp2_with fail
        refine (SA.out _).mono ?_
        rintro e w4 ⟨rfl, b4⟩
        replace B := B.kept b4; replace T := T.kept b4; replace dx := bl_step dx b4; clear b4
        replace cB := B.cell; replace zB := B.lt; replace cT := T.cell; replace zT := T.lt; replace fT := T.frozen
        have M0 : 0 ≤ many % 3000 := by omega
        have M1 : many % 3000 < 3000 := by omega
        go_wp2_with fail
        refine any_name (fun W => Blk W w.heap.size 23 #[.int .i64 S, .int .i64 R] ∧ Blk W W3.heap.size 32 #[.bool false, .bool an, .int .i64 la, .int .i64 0] ∧ Below w.heap.size w W) ⟨by repeat (first | (with_reducible exact B) | (with_reducible refine Blk.drew ?_) | (with_reducible refine Blk.drewN ?_ _) | (with_reducible refine Blk.alloc ?_ _) | ((with_reducible refine Blk.far ?_ ?hh _); case hh => (first | (simp; done) | (simp; omega)))), by (repeat (first | (with_reducible refine Blk.drew ?_) | (with_reducible refine Blk.drewN ?_ _) | (with_reducible refine Blk.alloc ?_ _))); exact (((T.set_ 0 _).set_ 1 _).set_ 2 _).set_ 3 _, by have q2 := (dx).size; repeat (first | (with_reducible exact dx) | (with_reducible refine Below.drew ?_) | (with_reducible refine bl_drewN' ?_ _) | ((with_reducible refine Below.alloc ?_ ?hh _); case hh => (first | omega | (simp; omega) | simp)) | ((with_reducible refine Below.setCell ?_ ?hh _); case hh => (first | omega | (simp; omega) | simp)))⟩ ?_
        clear B T dx cB zB cT zT fT
        rintro W4 ⟨B, T, dx⟩
        have n2 : now ≤ 76500 := by omega
        clear n1 hlt hk
        go_loopw [60, 8, 12, 13] (fun i x y z wx => ∃ (j : Nat) (wa an : Bool) (la tr last gap : Int), (j : Int) ≤ many % 3000 ∧ i = .int .u16 j ∧ x = .int .i64 (now + j) ∧ y = .int .i64 last ∧ z = .int .i64 gap ∧ Blk wx w.heap.size 23 #[.int .i64 S, .int .i64 R] ∧ Blk wx W3.heap.size 32 #[.bool wa, .bool an, .int .i64 la, .int .i64 tr] ∧ Below w.heap.size w wx ∧
            ((last = -1 ∧ gap = S ∧ tr = 0 ∧ 0 ≤ la ∧ la ≤ now ∧ (j : Int) ≤ S ∧ (j = 0 ∨ (an = true ∧ now + j - la ≤ S))) ∨ (∃ n : Nat, n ≤ j ∧ 0 ≤ last ∧ last < now + j ∧ an = true ∧ wa = true ∧ la = last ∧ tr = (n : Int) + 1 ∧ gap = gapV S R ((n : Int) + 1) ∧ now + j ≤ last + gap))) (fun i _ _ _ _ => (many % 3000 - intOf i).toNat)
        case atStart => exact ⟨0, false, an, la, 0, -1, S, by omega, rfl, by simp, rfl, rfl, B, T, dx, .inl ⟨rfl, rfl, rfl, l0, l1, by omega, .inl rfl⟩⟩
        case round =>
          clear B T dx l0 l1 SA q0 q1
          obtain ⟨j, wa, an, la, tr, last, gap, hj, rfl, rfl, rfl, rfl, B, T, dx, hs⟩ := hrel
          have HS := Lib.hid hs; clear hs
          have cB := B.cell; have zB := B.lt; have cT := T.cell; have zT := T.lt; have fT := T.frozen
          by_cases hlt : (j : Int) < many % 3000
          · rcases HS.out with ⟨rfl, rfl, rfl, l0, l1, js, hA⟩ | ⟨n, hn, g0, g1, rfl, rfl, rfl, rfl, hg, g2⟩
            · have HA := Lib.hid hA; clear hA
              have z0 : t0 wa 0 = 0 := by cases wa <;> rfl
              have F : Fit gap R la 0 (now + j) := ⟨h0, h1, h2, by omega, by omega, by omega, by omega, by omega, by omega⟩
              by_cases hi : an = true ∧ now + j - la < gap
              · obtain ⟨rfl, hi⟩ := hi
                have x1 : nIs gap R wa true la 0 true (now + j) = false := by simp [nIs, z0, (gapV_zero h1).1]; omega
                have x2 : nAn gap R wa true la 0 true (now + j) = true := by simp [nAn, x1]
                have x3 : nLa gap R wa true la 0 true (now + j) = la := by simp [nLa, x1]
                have x4 : nTr gap R wa true la 0 true (now + j) = 0 := by simp [nTr, x1, t0]
                have SA := Lib.hid (fun W => step_any gap R wa true la 0 true (now + j) W F)
                rw [x1, x2, x3, x4] at SA
                clear x1 x2 x3 x4 F
                have ne1 : ¬ (W3.heap.size = wr.heap.size) := by omega
                go_wp2_with fail
                refine (SA.out _).mono ?_
                rintro e w5 ⟨rfl, b4⟩
                replace B := B.kept b4; replace T := T.kept b4; replace dx := bl_step dx b4; clear b4
                replace cB := B.cell; replace zB := B.lt; replace cT := T.cell; replace zT := T.lt; replace fT := T.frozen
                go_wp2_with fail
                go_roundw
                case rel =>
                  refine ⟨j + 1, true, true, la, 0, -1, gap, by omega, by go_num, by congr 1; omega, rfl, rfl, ?_, ?_, ?_, .inl ⟨rfl, rfl, rfl, l0, l1, by omega, .inr ⟨rfl, by omega⟩⟩⟩
                  · repeat (first | (with_reducible exact B) | (with_reducible refine Blk.drew ?_) | (with_reducible refine Blk.drewN ?_ _) | (with_reducible refine Blk.alloc ?_ _) | ((with_reducible refine Blk.far ?_ ?hh _); case hh => (first | (simp; done) | (simp; omega))))
                  · repeat (first | (with_reducible refine Blk.drew ?_) | (with_reducible refine Blk.drewN ?_ _) | (with_reducible refine Blk.alloc ?_ _))
                    exact (((T.set_ 0 _).set_ 1 _).set_ 2 _).set_ 3 _
                  · have q2 := (dx).size; repeat (first | (with_reducible exact dx) | (with_reducible refine Below.drew ?_) | (with_reducible refine bl_drewN' ?_ _) | ((with_reducible refine Below.alloc ?_ ?hh _); case hh => (first | omega | (simp; omega) | simp)) | ((with_reducible refine Below.setCell ?_ ?hh _); case hh => (first | omega | (simp; omega) | simp)))
                case measure => simp [intOf]; omega
              · have hi' : an = false ∨ gap ≤ now + j - la := by
                  cases an
                  · exact .inl rfl
                  · exact .inr (by simpa using hi)
                clear hi
                rcases hi' with rfl | hi
                · have x1 : nIs gap R wa false la 0 true (now + j) = true := by simp [nIs]
                  have x2 : nAn gap R wa false la 0 true (now + j) = true := by simp [nAn, x1]
                  have x3 : nLa gap R wa false la 0 true (now + j) = (now + j) := by simp [nLa, x1]
                  have x4 : nTr gap R wa false la 0 true (now + j) = 1 := by simp [nTr, x1, t0]
                  have SA := Lib.hid (fun W => step_any gap R wa false la 0 true (now + j) W F)
                  rw [x1, x2, x3, x4] at SA
                  clear x1 x2 x3 x4 F
                  have ne1 : ¬ (W3.heap.size = wr.heap.size) := by omega
                  go_wp2_with fail
                  refine (SA.out _).mono ?_
                  rintro e w5 ⟨rfl, b4⟩
                  replace B := B.kept b4; replace T := T.kept b4; replace dx := bl_step dx b4; clear b4
                  replace cB := B.cell; replace zB := B.lt; replace cT := T.cell; replace zT := T.lt; replace fT := T.frozen
                  go_wp2_with fail
                  go_roundw
                  case rel =>
                    refine ⟨j + 1, true, true, now + j, 1, now + j, gap, by omega, by go_num, by congr 1; omega, rfl, rfl, ?_, ?_, ?_, .inr ⟨0, by omega, by omega, by omega, rfl, rfl, rfl, rfl, (gapV_zero h1).2.symm, by omega⟩⟩
                    · repeat (first | (with_reducible exact B) | (with_reducible refine Blk.drew ?_) | (with_reducible refine Blk.drewN ?_ _) | (with_reducible refine Blk.alloc ?_ _) | ((with_reducible refine Blk.far ?_ ?hh _); case hh => (first | (simp; done) | (simp; omega))))
                    · repeat (first | (with_reducible refine Blk.drew ?_) | (with_reducible refine Blk.drewN ?_ _) | (with_reducible refine Blk.alloc ?_ _))
                      exact (((T.set_ 0 _).set_ 1 _).set_ 2 _).set_ 3 _
                    · have q2 := (dx).size; repeat (first | (with_reducible exact dx) | (with_reducible refine Below.drew ?_) | (with_reducible refine bl_drewN' ?_ _) | ((with_reducible refine Below.alloc ?_ ?hh _); case hh => (first | omega | (simp; omega) | simp)) | ((with_reducible refine Below.setCell ?_ ?hh _); case hh => (first | omega | (simp; omega) | simp)))
                  case measure => simp [intOf]; omega
                · cases an
                  · have x1 : nIs gap R wa false la 0 true (now + j) = true := by simp [nIs]
                    have x2 : nAn gap R wa false la 0 true (now + j) = true := by simp [nAn, x1]
                    have x3 : nLa gap R wa false la 0 true (now + j) = (now + j) := by simp [nLa, x1]
                    have x4 : nTr gap R wa false la 0 true (now + j) = 1 := by simp [nTr, x1, t0]
                    have SA := Lib.hid (fun W => step_any gap R wa false la 0 true (now + j) W F)
                    rw [x1, x2, x3, x4] at SA
                    clear x1 x2 x3 x4 F
                    have ne1 : ¬ (W3.heap.size = wr.heap.size) := by omega
                    go_wp2_with fail
                    refine (SA.out _).mono ?_
                    rintro e w5 ⟨rfl, b4⟩
                    replace B := B.kept b4; replace T := T.kept b4; replace dx := bl_step dx b4; clear b4
                    replace cB := B.cell; replace zB := B.lt; replace cT := T.cell; replace zT := T.lt; replace fT := T.frozen
                    go_wp2_with fail
                    go_roundw
                    case rel =>
                      refine ⟨j + 1, true, true, now + j, 1, now + j, gap, by omega, by go_num, by congr 1; omega, rfl, rfl, ?_, ?_, ?_, .inr ⟨0, by omega, by omega, by omega, rfl, rfl, rfl, rfl, (gapV_zero h1).2.symm, by omega⟩⟩
                      · repeat (first | (with_reducible exact B) | (with_reducible refine Blk.drew ?_) | (with_reducible refine Blk.drewN ?_ _) | (with_reducible refine Blk.alloc ?_ _) | ((with_reducible refine Blk.far ?_ ?hh _); case hh => (first | (simp; done) | (simp; omega))))
                      · repeat (first | (with_reducible refine Blk.drew ?_) | (with_reducible refine Blk.drewN ?_ _) | (with_reducible refine Blk.alloc ?_ _))
                        exact (((T.set_ 0 _).set_ 1 _).set_ 2 _).set_ 3 _
                      · have q2 := (dx).size; repeat (first | (with_reducible exact dx) | (with_reducible refine Below.drew ?_) | (with_reducible refine bl_drewN' ?_ _) | ((with_reducible refine Below.alloc ?_ ?hh _); case hh => (first | omega | (simp; omega) | simp)) | ((with_reducible refine Below.setCell ?_ ?hh _); case hh => (first | omega | (simp; omega) | simp)))
                    case measure => simp [intOf]; omega
                  · have x1 : nIs gap R wa true la 0 true (now + j) = true := by simp [nIs, z0, (gapV_zero h1).1]; omega
                    have x2 : nAn gap R wa true la 0 true (now + j) = true := by simp [nAn, x1]
                    have x3 : nLa gap R wa true la 0 true (now + j) = (now + j) := by simp [nLa, x1]
                    have x4 : nTr gap R wa true la 0 true (now + j) = 1 := by simp [nTr, x1, t0]
                    have SA := Lib.hid (fun W => step_any gap R wa true la 0 true (now + j) W F)
                    rw [x1, x2, x3, x4] at SA
                    clear x1 x2 x3 x4 F
                    have ne1 : ¬ (W3.heap.size = wr.heap.size) := by omega
                    go_wp2_with fail
                    refine (SA.out _).mono ?_
                    rintro e w5 ⟨rfl, b4⟩
                    replace B := B.kept b4; replace T := T.kept b4; replace dx := bl_step dx b4; clear b4
                    replace cB := B.cell; replace zB := B.lt; replace cT := T.cell; replace zT := T.lt; replace fT := T.frozen
                    go_wp2_with fail
                    go_roundw
                    case rel =>
                      refine ⟨j + 1, true, true, now + j, 1, now + j, gap, by omega, by go_num, by congr 1; omega, rfl, rfl, ?_, ?_, ?_, .inr ⟨0, by omega, by omega, by omega, rfl, rfl, rfl, rfl, (gapV_zero h1).2.symm, by omega⟩⟩
                      · repeat (first | (with_reducible exact B) | (with_reducible refine Blk.drew ?_) | (with_reducible refine Blk.drewN ?_ _) | (with_reducible refine Blk.alloc ?_ _) | ((with_reducible refine Blk.far ?_ ?hh _); case hh => (first | (simp; done) | (simp; omega))))
                      · repeat (first | (with_reducible refine Blk.drew ?_) | (with_reducible refine Blk.drewN ?_ _) | (with_reducible refine Blk.alloc ?_ _))
                        exact (((T.set_ 0 _).set_ 1 _).set_ 2 _).set_ 3 _
                      · have q2 := (dx).size; repeat (first | (with_reducible exact dx) | (with_reducible refine Below.drew ?_) | (with_reducible refine bl_drewN' ?_ _) | ((with_reducible refine Below.alloc ?_ ?hh _); case hh => (first | omega | (simp; omega) | simp)) | ((with_reducible refine Below.setCell ?_ ?hh _); case hh => (first | omega | (simp; omega) | simp)))
                    case measure => simp [intOf]; omega
            · have gb := gapV_bd (t := (n : Int) + 1) h0 h1
              have gn := gapV_next (S := S) (R := R) (by omega) n
              rw [← hg] at gb gn
              obtain ⟨gb0, gb1⟩ := gb
              have GN := Lib.hid gn; have HG := Lib.hid hg; clear gn hg
              have F : Fit S R la ((n : Int) + 1) (now + j) := ⟨h0, h1, h2, by omega, by omega, by omega, by omega, by omega, by omega⟩
              by_cases hi : now + j - la < gap
              · have x1 : nIs S R true true la ((n : Int) + 1) true (now + j) = false := by simp [nIs, t0, ← HG.out]; omega
                have g4 : (now + (j : Int) == la + gap) = false := by simp; omega
                have x2 : nAn S R true true la ((n : Int) + 1) true (now + j) = true := by simp [nAn, x1]
                have x3 : nLa S R true true la ((n : Int) + 1) true (now + j) = la := by simp [nLa, x1]
                have x4 : nTr S R true true la ((n : Int) + 1) true (now + j) = (n : Int) + 1 := by simp [nTr, x1, t0]
                have SA := Lib.hid (fun W => step_any S R true true la ((n : Int) + 1) true (now + j) W F)
                rw [x1, x2, x3, x4] at SA
                clear x1 x2 x3 x4 F
                have ne1 : ¬ (W3.heap.size = wr.heap.size) := by omega
                go_wp2_with fail
                refine (SA.out _).mono ?_
                rintro e w5 ⟨rfl, b4⟩
                replace B := B.kept b4; replace T := T.kept b4; replace dx := bl_step dx b4; clear b4
                replace cB := B.cell; replace zB := B.lt; replace cT := T.cell; replace zT := T.lt; replace fT := T.frozen
                go_wp2_with fail
                go_roundw
                case rel =>
                  refine ⟨j + 1, true, true, la, (n : Int) + 1, la, gap, by omega, by go_num, by congr 1; omega, rfl, rfl, ?_, ?_, ?_, .inr ⟨n, by omega, by omega, by omega, rfl, rfl, rfl, rfl, HG.out, by omega⟩⟩
                  · repeat (first | (with_reducible exact B) | (with_reducible refine Blk.drew ?_) | (with_reducible refine Blk.drewN ?_ _) | (with_reducible refine Blk.alloc ?_ _) | ((with_reducible refine Blk.far ?_ ?hh _); case hh => (first | (simp; done) | (simp; omega))))
                  · repeat (first | (with_reducible refine Blk.drew ?_) | (with_reducible refine Blk.drewN ?_ _) | (with_reducible refine Blk.alloc ?_ _))
                    exact (((T.set_ 0 _).set_ 1 _).set_ 2 _).set_ 3 _
                  · have q2 := (dx).size; repeat (first | (with_reducible exact dx) | (with_reducible refine Below.drew ?_) | (with_reducible refine bl_drewN' ?_ _) | ((with_reducible refine Below.alloc ?_ ?hh _); case hh => (first | omega | (simp; omega) | simp)) | ((with_reducible refine Below.setCell ?_ ?hh _); case hh => (first | omega | (simp; omega) | simp)))
                case measure => simp [intOf]; omega
              · have x1 : nIs S R true true la ((n : Int) + 1) true (now + j) = true := by simp [nIs, t0, ← HG.out]; omega
                have g4 : (now + (j : Int) == la + gap) = true := by simp; omega
                by_cases hm : 2 * gap < R
                · have gn2 : 2 * gap = gapV S R ((n : Int) + 1 + 1) := by rw [GN.out, if_pos hm]
                  have GN2 := Lib.hid gn2; clear gn2
                  have hm2 : 2 * gap < R := hm
                  have x2 : nAn S R true true la ((n : Int) + 1) true (now + j) = true := by simp [nAn, x1]
                  have x3 : nLa S R true true la ((n : Int) + 1) true (now + j) = (now + j) := by simp [nLa, x1]
                  have x4 : nTr S R true true la ((n : Int) + 1) true (now + j) = (n : Int) + 1 + 1 := by simp [nTr, x1, t0]
                  have SA := Lib.hid (fun W => step_any S R true true la ((n : Int) + 1) true (now + j) W F)
                  rw [x1, x2, x3, x4] at SA
                  clear x1 x2 x3 x4 F
                  have ne1 : ¬ (W3.heap.size = wr.heap.size) := by omega
                  go_wp2_with fail
                  refine (SA.out _).mono ?_
                  rintro e w5 ⟨rfl, b4⟩
                  replace B := B.kept b4; replace T := T.kept b4; replace dx := bl_step dx b4; clear b4
                  replace cB := B.cell; replace zB := B.lt; replace cT := T.cell; replace zT := T.lt; replace fT := T.frozen
                  go_wp2_with fail
                  have wr2 : IntKind.i64.wrap (2 * gap) = 2 * gap := IntWalk.i64_in _ ⟨by omega, by omega⟩
                  go_region
                  clear wr2
                  go_wp2_with fail
                  go_roundw
                  case rel =>
                    refine ⟨j + 1, true, true, now + j, (n : Int) + 1 + 1, now + j, 2 * gap, by omega, by go_num, by congr 1; omega, rfl, rfl, ?_, ?_, ?_, .inr ⟨n + 1, by omega, by omega, by omega, rfl, rfl, rfl, by omega, by rw [show (((n + 1 : Nat) : Int) + 1) = (n : Int) + 1 + 1 from by omega]; exact GN2.out, by omega⟩⟩
                    · repeat (first | (with_reducible exact B) | (with_reducible refine Blk.drew ?_) | (with_reducible refine Blk.drewN ?_ _) | (with_reducible refine Blk.alloc ?_ _) | ((with_reducible refine Blk.far ?_ ?hh _); case hh => (first | (simp; done) | (simp; omega))))
                    · repeat (first | (with_reducible refine Blk.drew ?_) | (with_reducible refine Blk.drewN ?_ _) | (with_reducible refine Blk.alloc ?_ _))
                      exact (((T.set_ 0 _).set_ 1 _).set_ 2 _).set_ 3 _
                    · have q2 := (dx).size; repeat (first | (with_reducible exact dx) | (with_reducible refine Below.drew ?_) | (with_reducible refine bl_drewN' ?_ _) | ((with_reducible refine Below.alloc ?_ ?hh _); case hh => (first | omega | (simp; omega) | simp)) | ((with_reducible refine Below.setCell ?_ ?hh _); case hh => (first | omega | (simp; omega) | simp)))
                  case measure => simp [intOf]; omega
                · have gn2 : R = gapV S R ((n : Int) + 1 + 1) := by rw [GN.out, if_neg hm]
                  have GN2 := Lib.hid gn2; clear gn2
                  have hm2 : R ≤ 2 * gap := by omega
                  have x2 : nAn S R true true la ((n : Int) + 1) true (now + j) = true := by simp [nAn, x1]
                  have x3 : nLa S R true true la ((n : Int) + 1) true (now + j) = (now + j) := by simp [nLa, x1]
                  have x4 : nTr S R true true la ((n : Int) + 1) true (now + j) = (n : Int) + 1 + 1 := by simp [nTr, x1, t0]
                  have SA := Lib.hid (fun W => step_any S R true true la ((n : Int) + 1) true (now + j) W F)
                  rw [x1, x2, x3, x4] at SA
                  clear x1 x2 x3 x4 F
                  have ne1 : ¬ (W3.heap.size = wr.heap.size) := by omega
                  go_wp2_with fail
                  refine (SA.out _).mono ?_
                  rintro e w5 ⟨rfl, b4⟩
                  replace B := B.kept b4; replace T := T.kept b4; replace dx := bl_step dx b4; clear b4
                  replace cB := B.cell; replace zB := B.lt; replace cT := T.cell; replace zT := T.lt; replace fT := T.frozen
                  go_wp2_with fail
                  have wr2 : IntKind.i64.wrap (2 * gap) = 2 * gap := IntWalk.i64_in _ ⟨by omega, by omega⟩
                  go_region
                  clear wr2
                  go_wp2_with fail
                  go_roundw
                  case rel =>
                    refine ⟨j + 1, true, true, now + j, (n : Int) + 1 + 1, now + j, R, by omega, by go_num, by congr 1; omega, rfl, (by congr 1; split <;> omega), ?_, ?_, ?_, .inr ⟨n + 1, by omega, by omega, by omega, rfl, rfl, rfl, by omega, by rw [show (((n + 1 : Nat) : Int) + 1) = (n : Int) + 1 + 1 from by omega]; exact GN2.out, by omega⟩⟩
                    · repeat (first | (with_reducible exact B) | (with_reducible refine Blk.drew ?_) | (with_reducible refine Blk.drewN ?_ _) | (with_reducible refine Blk.alloc ?_ _) | ((with_reducible refine Blk.far ?_ ?hh _); case hh => (first | (simp; done) | (simp; omega))))
                    · repeat (first | (with_reducible refine Blk.drew ?_) | (with_reducible refine Blk.drewN ?_ _) | (with_reducible refine Blk.alloc ?_ _))
                      exact (((T.set_ 0 _).set_ 1 _).set_ 2 _).set_ 3 _
                    · have q2 := (dx).size; repeat (first | (with_reducible exact dx) | (with_reducible refine Below.drew ?_) | (with_reducible refine bl_drewN' ?_ _) | ((with_reducible refine Below.alloc ?_ ?hh _); case hh => (first | omega | (simp; omega) | simp)) | ((with_reducible refine Below.setCell ?_ ?hh _); case hh => (first | omega | (simp; omega) | simp)))
                  case measure => simp [intOf]; omega
          · go_wp2_with fail
            go_ret
            exact ⟨rfl, dx⟩
theorem tells_whole (S R : Int) (a : Option Addr) (len cap : Nat) (t : Int) (w : World) (w0 : (Lit.int .i64 S).wf = true) (w1 : (Lit.int .i64 R).wf = true) (hl : len ≤ maxLen) (Q : RowsOf w a len [.i .u8, .b]) (w2 : (Lit.int .i64 t).wf = true) :
    Calls Try.prog 3 #[ruV S R, .slice a len cap, .int .i64 t] w fun e w' => e = .returned (.bool true) ∧ Below w.heap.size w w' := by
  unfold maxLen at hl
  by_cases h : 1 ≤ S ∧ S ≤ R ∧ R ≤ 1000
  · exact tells_some S R a len cap t w h.1 h.2.1 h.2.2 (by omega) (Lib.hid Q)
  · exact tells_no S R a len cap t w (Lib.hid h)
theorem spaces_whole (S R : Int) (a : Option Addr) (len cap : Nat) (w : World) (w0 : (Lit.int .i64 S).wf = true) (w1 : (Lit.int .i64 R).wf = true) (hl : len ≤ maxLen) (Q : RowsOf w a len [.i .u8, .b]) :
    Calls Try.prog 4 #[ruV S R, .slice a len cap] w fun e w' => e = .returned (.bool true) ∧ Below w.heap.size w w' := by
  unfold maxLen at hl
  by_cases h : 1 ≤ S ∧ S ≤ R ∧ R ≤ 1000
  · exact spaces_some S R a len cap w h.1 h.2.1 h.2.2 (by omega) (Lib.hid Q)
  · exact spaces_no S R a len cap w (Lib.hid h)
theorem retries_whole (S R : Int) (a : Option Addr) (len cap : Nat) (many : Int) (w : World) (w0 : (Lit.int .i64 S).wf = true) (w1 : (Lit.int .i64 R).wf = true) (hl : len ≤ maxLen) (Q : RowsOf w a len [.i .u8, .b]) (w2 : (Lit.int .u16 many).wf = true) :
    Calls Try.prog 5 #[ruV S R, .slice a len cap, .int .u16 many] w fun e w' => e = .returned (.bool true) ∧ Below w.heap.size w w' := by
  unfold maxLen at hl
  simp [Lit.wf, IntKind.min, IntKind.max, IntKind.signed, IntKind.bits] at w2
  by_cases h : 1 ≤ S ∧ S ≤ R ∧ R ≤ 1000
  · exact retries_some S R a len cap many w h.1 h.2.1 h.2.2 (by omega) (by omega) (by omega) (Lib.hid Q)
  · exact retries_no S R a len cap many w (Lib.hid h)
end Go.Proofs.Ytpikchnmpdpljaa
