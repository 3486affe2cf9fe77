/- AskSpaces: the walk. -/
import Derived.Test.YtpikchnmpdpljaaTells
namespace Go.Proofs.Ytpikchnmpdpljaa
open Go.ChangeShapes Go.WideShapes Go.ChangeAt Go.RowKit
set_option linter.unusedVariables false

theorem dbl_ge {S R : Int} (h0 : 1 ≤ S) : ∀ n, S ≤ dbl S R n
  | 0 => Int.le_refl _
  | n + 1 => by have := dbl_ge (R := R) h0 n; unfold dbl; split <;> omega
theorem gapV_ge {S R t : Int} (h0 : 1 ≤ S) (h1 : S ≤ R) : S ≤ gapV S R t := by
  have := dbl_ge (R := R) h0 (t - 1).toNat
  unfold gapV; split <;> omega

theorem spaces_no (S R : Int) (a : Option Addr) (len cap : Nat) (w : World) (h : Hid (¬ (1 ≤ S ∧ S ≤ R ∧ R ≤ 1000))) :
    Calls Try.prog 4 #[ruV S R, .slice a len cap] w fun e w' => e = .returned (.bool true) ∧ Below w.heap.size w w' := by
  go_enter Try.func4, Try.ntmps4
  go_wp2_with fail
  refine (awake_true _).mono ?_
  rintro e w1 ⟨rfl, b1⟩
  have Br := Blk.born b1; have dr := bl_after (Below.refl w.heap.size w) b1; have cr := Br.cell; have zr := Br.lt; clear b1
  go_wp2_with fail
  refine (right_no _ _ _ h.out).mono ?_
  rintro e w' ⟨rfl, rfl⟩
  go_wp2_with fail
  go_ret
  exact ⟨rfl, dr.alloc dr.size _⟩

set_option maxRecDepth 100000 in
set_option maxHeartbeats 1500000 in
theorem spaces_some (S R : Int) (a : Option Addr) (len cap : Nat) (w : World) (h0 : 1 ≤ S) (h1 : S ≤ R) (h2 : R ≤ 1000) (hl : len ≤ 9223372036854775807) (Q : Hid (RowsOf w a len [.i .u8, .b])) :
    Calls Try.prog 4 #[ruV S R, .slice a len cap] w fun e w' => e = .returned (.bool true) ∧ Below w.heap.size w w' := by
  go_enter Try.func4, Try.ntmps4
  go_wp2_with fail
  refine (awake_true _).mono ?_
  rintro e w1 ⟨rfl, b1⟩
  have Br := Blk.born b1; have dr := bl_after (Below.refl w.heap.size w) b1; have cr := Br.cell; have zr := Br.lt; clear b1
  go_wp2_with fail
  refine (right_yes _ _ _ h0 h1 h2).mono ?_
  rintro e w' ⟨rfl, rfl⟩
  by_cases hlen : 300 < len
  · go_wp2_with fail
    go_ret
    exact ⟨rfl, dr.alloc dr.size _⟩
  · refine any_name (fun W => Blk W w.heap.size 23 #[.int .i64 S, .int .i64 R] ∧ Below w.heap.size w W) ⟨Br.alloc _, dr.alloc dr.size _⟩ ?_
    clear Br dr cr zr
    rintro W3 ⟨Br, dr⟩
    have cr := Br.cell; have zr := Br.lt; have k3 := dr.size
    go_wp2_with fail
    go_loopw [25, 6, 7] (fun i x y wr => ∃ (k : Nat) (wa an : Bool) (la tr now last : Int), k ≤ len ∧ i = .int .i64 k ∧ x = .int .i64 now ∧ y = .int .i64 last ∧ 0 ≤ now ∧ now ≤ 255 * k ∧ ((an = false ∧ last = -1 ∧ la = 0) ∨ (an = true ∧ last = la ∧ 0 ≤ la ∧ la ≤ now)) ∧ 0 ≤ tr ∧ tr ≤ k ∧ Blk wr w.heap.size 23 #[.int .i64 S, .int .i64 R] ∧ Blk wr W3.heap.size 32 #[.bool wa, .bool an, .int .i64 la, .int .i64 tr] ∧ Below w.heap.size w wr) (fun i _ _ _ => len - (intOf i).toNat)
    case atStart => exact ⟨0, false, false, 0, 0, 0, -1, by omega, rfl, rfl, rfl, by omega, by omega, .inl ⟨rfl, rfl, rfl⟩, by omega, by omega, Br.alloc _, Blk.new _ _ _, dr.alloc k3 _⟩
    case round =>
      rename_i wr
      obtain ⟨k, wa, an, la, tr, now, last, hk, rfl, rfl, rfl, n0, n1, hs, q0, q1, B, T, dx⟩ := hrel
      have HS := Lib.hid hs; clear hs
      clear Br dr cr
      have cB := B.cell; have zB := B.lt; have cT := T.cell; have zT := T.lt; have fT := T.frozen
      by_cases hlt : k < len
      · obtain ⟨b, off, rfl, hR⟩ := Q.out (by omega)
        obtain ⟨cs, hL, hc⟩ := hR k hlt
        obtain ⟨_, _, rfl, ⟨by_, rfl, wby⟩, _, _, rfl, ⟨wt, rfl⟩, rfl⟩ := hL
        have e0 : wr.cell? ⟨b, off + k * 2, none⟩ = some (.int .u8 by_) := cell_old dx (hc 0 (by decide))
        have e1 : wr.cell? ⟨b, off + k * 2 + 1, none⟩ = some (.bool wt) := cell_old dx (hc 1 (by decide))
        clear hc hR
        simp [Lit.wf, IntKind.min, IntKind.max, IntKind.signed, IntKind.bits] at wby
        obtain ⟨y0, y1⟩ := wby
        rcases HS.out with ⟨rfl, rfl, rfl⟩ | ⟨rfl, rfl, l0, l1⟩
        · cases wt
          · have x0 := 0
            have F : Fit S R 0 tr (now + by_) := ⟨h0, h1, h2, by omega, by omega, by omega, by omega, by omega, by omega⟩
            have x1 : nIs S R wa false 0 tr false (now + by_) = false := by simp [nIs]
            have x2 : nAn S R wa false 0 tr false (now + by_) = false := by simp [nAn, x1]
            have x3 : nLa S R wa false 0 tr false (now + by_) = 0 := by simp [nLa, x1]
            have nb := nbd S R wa false 0 tr false (now + by_) F k q1
            have x4 : false = false → nTr S R wa false 0 tr false (now + by_) = 0 := by simp [nTr]
            have SA := Lib.hid (fun W => step_any S R wa false 0 tr false (now + by_) W F)
            rw [x1, x2, x3] at SA
            clear x1 x2 x3 F
            generalize nTr S R wa false 0 tr false (now + by_) = T2 at SA nb x4
            obtain ⟨_, _, nb2, nb3⟩ := nb
            have NB3 := Lib.hid nb3; clear nb3
            obtain rfl := x4 rfl
            have ne1 : ¬ (W3.heap.size = wr.heap.size) := by omega
            go_wp2_with fail
            refine (SA.out _).mono ?_
            rintro e w4 ⟨rfl, b4⟩
            have X1 := Blk.born b4
            replace B := B.after b4; replace T := T.after b4; replace dx := bl_after dx b4; clear b4
            replace cB := B.cell; replace zB := B.lt; replace cT := T.cell; replace zT := T.lt; replace fT := T.frozen
            have cX := X1.cell; have zX := X1.lt
            go_wp2_with fail
            go_roundw
            case rel =>
              refine ⟨k + 1, false, false, 0, 0, now + by_, -1, by omega, by go_num, rfl, rfl, by omega, by omega, .inl ⟨rfl, rfl, rfl⟩, nb2, NB3.out, ?_, ?_, ?_⟩
              · repeat (first | (with_reducible exact B) | (with_reducible refine Blk.drew ?_) | (with_reducible refine Blk.alloc ?_ _) | ((with_reducible refine Blk.far ?_ ?hh _); case hh => (first | (simp; done) | (simp; omega))))
              · repeat (first | (with_reducible refine Blk.drew ?_) | (with_reducible refine Blk.alloc ?_ _))
                exact (((T.set_ 0 _).set_ 1 _).set_ 2 _).set_ 3 _
              · have q2 := (dx).size; repeat (first | (with_reducible exact dx) | (with_reducible refine Below.drew ?_) | ((with_reducible refine Below.alloc ?_ ?hh _); case hh => (first | omega | (simp; omega) | simp)) | ((with_reducible refine Below.setCell ?_ ?hh _); case hh => (first | omega | (simp; omega) | simp)))
            case measure => simp [intOf]; omega
          · have x0 := 0
            have F : Fit S R 0 tr (now + by_) := ⟨h0, h1, h2, by omega, by omega, by omega, by omega, by omega, by omega⟩
            have x1 : nIs S R wa false 0 tr true (now + by_) = true := by simp [nIs]
            have x2 : nAn S R wa false 0 tr true (now + by_) = true := by simp [nAn, x1]
            have x3 : nLa S R wa false 0 tr true (now + by_) = (now + by_) := by simp [nLa, x1]
            have nb := nbd S R wa false 0 tr true (now + by_) F k q1
            have x4 : true = false → nTr S R wa false 0 tr true (now + by_) = 0 := by simp [nTr]
            have SA := Lib.hid (fun W => step_any S R wa false 0 tr true (now + by_) W F)
            rw [x1, x2, x3] at SA
            clear x1 x2 x3 F
            generalize nTr S R wa false 0 tr true (now + by_) = T2 at SA nb x4
            obtain ⟨_, _, nb2, nb3⟩ := nb
            have NB3 := Lib.hid nb3; clear nb3
            clear x4
            have ne1 : ¬ (W3.heap.size = wr.heap.size) := by omega
            go_wp2_with fail
            refine (SA.out _).mono ?_
            rintro e w4 ⟨rfl, b4⟩
            have X1 := Blk.born b4
            replace B := B.after b4; replace T := T.after b4; replace dx := bl_after dx b4; clear b4
            replace cB := B.cell; replace zB := B.lt; replace cT := T.cell; replace zT := T.lt; replace fT := T.frozen
            have cX := X1.cell; have zX := X1.lt
            go_wp2_with fail
            go_roundw
            case rel =>
              refine ⟨k + 1, true, true, (now + by_), T2, now + by_, now + by_, by omega, by go_num, rfl, rfl, by omega, by omega, .inr ⟨rfl, rfl, by omega, by omega⟩, nb2, NB3.out, ?_, ?_, ?_⟩
              · repeat (first | (with_reducible exact B) | (with_reducible refine Blk.drew ?_) | (with_reducible refine Blk.alloc ?_ _) | ((with_reducible refine Blk.far ?_ ?hh _); case hh => (first | (simp; done) | (simp; omega))))
              · repeat (first | (with_reducible refine Blk.drew ?_) | (with_reducible refine Blk.alloc ?_ _))
                exact (((T.set_ 0 _).set_ 1 _).set_ 2 _).set_ 3 _
              · have q2 := (dx).size; repeat (first | (with_reducible exact dx) | (with_reducible refine Below.drew ?_) | ((with_reducible refine Below.alloc ?_ ?hh _); case hh => (first | omega | (simp; omega) | simp)) | ((with_reducible refine Below.setCell ?_ ?hh _); case hh => (first | omega | (simp; omega) | simp)))
            case measure => simp [intOf]; omega
        · cases wt
          · have x0 := 0
            have F : Fit S R last tr (now + by_) := ⟨h0, h1, h2, by omega, by omega, by omega, by omega, by omega, by omega⟩
            have x1 : nIs S R wa true last tr false (now + by_) = false := by simp [nIs]
            have x2 : nAn S R wa true last tr false (now + by_) = true := by simp [nAn, x1]
            have x3 : nLa S R wa true last tr false (now + by_) = last := by simp [nLa, x1]
            have nb := nbd S R wa true last tr false (now + by_) F k q1
            have x4 : false = false → nTr S R wa true last tr false (now + by_) = 0 := by simp [nTr]
            have SA := Lib.hid (fun W => step_any S R wa true last tr false (now + by_) W F)
            rw [x1, x2, x3] at SA
            clear x1 x2 x3 F
            generalize nTr S R wa true last tr false (now + by_) = T2 at SA nb x4
            obtain ⟨_, _, nb2, nb3⟩ := nb
            have NB3 := Lib.hid nb3; clear nb3
            obtain rfl := x4 rfl
            have ne1 : ¬ (W3.heap.size = wr.heap.size) := by omega
            go_wp2_with fail
            refine (SA.out _).mono ?_
            rintro e w4 ⟨rfl, b4⟩
            have X1 := Blk.born b4
            replace B := B.after b4; replace T := T.after b4; replace dx := bl_after dx b4; clear b4
            replace cB := B.cell; replace zB := B.lt; replace cT := T.cell; replace zT := T.lt; replace fT := T.frozen
            have cX := X1.cell; have zX := X1.lt
            go_wp2_with fail
            go_roundw
            case rel =>
              refine ⟨k + 1, false, true, last, 0, now + by_, last, by omega, by go_num, rfl, rfl, by omega, by omega, .inr ⟨rfl, rfl, by omega, by omega⟩, nb2, NB3.out, ?_, ?_, ?_⟩
              · repeat (first | (with_reducible exact B) | (with_reducible refine Blk.drew ?_) | (with_reducible refine Blk.alloc ?_ _) | ((with_reducible refine Blk.far ?_ ?hh _); case hh => (first | (simp; done) | (simp; omega))))
              · repeat (first | (with_reducible refine Blk.drew ?_) | (with_reducible refine Blk.alloc ?_ _))
                exact (((T.set_ 0 _).set_ 1 _).set_ 2 _).set_ 3 _
              · have q2 := (dx).size; repeat (first | (with_reducible exact dx) | (with_reducible refine Below.drew ?_) | ((with_reducible refine Below.alloc ?_ ?hh _); case hh => (first | omega | (simp; omega) | simp)) | ((with_reducible refine Below.setCell ?_ ?hh _); case hh => (first | omega | (simp; omega) | simp)))
            case measure => simp [intOf]; omega
          · by_cases hg : now + by_ - last < gapV S R (t0 wa tr)
            · have hg := Lib.hid hg
              have F : Fit S R last tr (now + by_) := ⟨h0, h1, h2, by omega, by omega, by omega, by omega, by omega, by omega⟩
              have x1 : nIs S R wa true last tr true (now + by_) = false := by simp [nIs]; exact hg.out
              have x2 : nAn S R wa true last tr true (now + by_) = true := by simp [nAn, x1]
              have x3 : nLa S R wa true last tr true (now + by_) = last := by simp [nLa, x1]
              have nb := nbd S R wa true last tr true (now + by_) F k q1
              have x4 : true = false → nTr S R wa true last tr true (now + by_) = 0 := by simp [nTr]
              have SA := Lib.hid (fun W => step_any S R wa true last tr true (now + by_) W F)
              rw [x1, x2, x3] at SA
              clear x1 x2 x3 F
              generalize nTr S R wa true last tr true (now + by_) = T2 at SA nb x4
              obtain ⟨_, _, nb2, nb3⟩ := nb
              have NB3 := Lib.hid nb3; clear nb3
              clear x4
              have ne1 : ¬ (W3.heap.size = wr.heap.size) := by omega
              go_wp2_with fail
              refine (SA.out _).mono ?_
              rintro e w4 ⟨rfl, b4⟩
              have X1 := Blk.born b4
              replace B := B.after b4; replace T := T.after b4; replace dx := bl_after dx b4; clear b4
              replace cB := B.cell; replace zB := B.lt; replace cT := T.cell; replace zT := T.lt; replace fT := T.frozen
              have cX := X1.cell; have zX := X1.lt
              go_wp2_with fail
              go_roundw
              case rel =>
                refine ⟨k + 1, true, true, last, T2, now + by_, last, by omega, by go_num, rfl, rfl, by omega, by omega, .inr ⟨rfl, rfl, by omega, by omega⟩, nb2, NB3.out, ?_, ?_, ?_⟩
                · repeat (first | (with_reducible exact B) | (with_reducible refine Blk.drew ?_) | (with_reducible refine Blk.alloc ?_ _) | ((with_reducible refine Blk.far ?_ ?hh _); case hh => (first | (simp; done) | (simp; omega))))
                · repeat (first | (with_reducible refine Blk.drew ?_) | (with_reducible refine Blk.alloc ?_ _))
                  exact (((T.set_ 0 _).set_ 1 _).set_ 2 _).set_ 3 _
                · have q2 := (dx).size; repeat (first | (with_reducible exact dx) | (with_reducible refine Below.drew ?_) | ((with_reducible refine Below.alloc ?_ ?hh _); case hh => (first | omega | (simp; omega) | simp)) | ((with_reducible refine Below.setCell ?_ ?hh _); case hh => (first | omega | (simp; omega) | simp)))
              case measure => simp [intOf]; omega
            · have hg := Lib.hid (Int.not_lt.1 hg)
              have F : Fit S R last tr (now + by_) := ⟨h0, h1, h2, by omega, by omega, by omega, by omega, by omega, by omega⟩
              have x1 : nIs S R wa true last tr true (now + by_) = true := by simp [nIs]; exact hg.out
              have x2 : nAn S R wa true last tr true (now + by_) = true := by simp [nAn, x1]
              have x3 : nLa S R wa true last tr true (now + by_) = (now + by_) := by simp [nLa, x1]
              have nb := nbd S R wa true last tr true (now + by_) F k q1
              have x4 : true = false → nTr S R wa true last tr true (now + by_) = 0 := by simp [nTr]
              have SA := Lib.hid (fun W => step_any S R wa true last tr true (now + by_) W F)
              rw [x1, x2, x3] at SA
              clear x1 x2 x3 F
              generalize nTr S R wa true last tr true (now + by_) = T2 at SA nb x4
              obtain ⟨_, _, nb2, nb3⟩ := nb
              have NB3 := Lib.hid nb3; clear nb3
              clear x4
              have ne1 : ¬ (W3.heap.size = wr.heap.size) := by omega
              have g7 : decide (now + by_ - last < S) = false := by have := gapV_ge (R := R) (t := t0 wa tr) h0 h1; have := hg.out; simp; omega
              go_wp2_with fail
              refine (SA.out _).mono ?_
              rintro e w4 ⟨rfl, b4⟩
              have X1 := Blk.born b4
              replace B := B.after b4; replace T := T.after b4; replace dx := bl_after dx b4; clear b4
              replace cB := B.cell; replace zB := B.lt; replace cT := T.cell; replace zT := T.lt; replace fT := T.frozen
              have cX := X1.cell; have zX := X1.lt
              go_wp2_with fail
              go_roundw
              case rel =>
                refine ⟨k + 1, true, true, (now + by_), T2, now + by_, now + by_, by omega, by go_num, rfl, rfl, by omega, by omega, .inr ⟨rfl, rfl, by omega, by omega⟩, nb2, NB3.out, ?_, ?_, ?_⟩
                · repeat (first | (with_reducible exact B) | (with_reducible refine Blk.drew ?_) | (with_reducible refine Blk.alloc ?_ _) | ((with_reducible refine Blk.far ?_ ?hh _); case hh => (first | (simp; done) | (simp; omega))))
                · repeat (first | (with_reducible refine Blk.drew ?_) | (with_reducible refine Blk.alloc ?_ _))
                  exact (((T.set_ 0 _).set_ 1 _).set_ 2 _).set_ 3 _
                · have q2 := (dx).size; repeat (first | (with_reducible exact dx) | (with_reducible refine Below.drew ?_) | ((with_reducible refine Below.alloc ?_ ?hh _); case hh => (first | omega | (simp; omega) | simp)) | ((with_reducible refine Below.setCell ?_ ?hh _); case hh => (first | omega | (simp; omega) | simp)))
              case measure => simp [intOf]; omega
      · go_wp2_with fail
        go_ret
        exact ⟨rfl, dx⟩
end Go.Proofs.Ytpikchnmpdpljaa
