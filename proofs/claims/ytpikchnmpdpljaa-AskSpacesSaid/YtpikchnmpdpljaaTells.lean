/- AskTells: the walk. -/
import Derived.Test.YtpikchnmpdpljaaAwake
import Derived.Test.YtpikchnmpdpljaaFlat
namespace Go.Proofs.Ytpikchnmpdpljaa
open Go.ChangeShapes Go.WideShapes Go.ChangeAt Go.RowKit
set_option linter.unusedVariables false

theorem nbd (S R : Int) (wa an : Bool) (la tr : Int) (wt : Bool) (now : Int) (F : Fit S R la tr now) (k : Nat) (hk : tr ≤ k) : 0 ≤ nLa S R wa an la tr wt now ∧ nLa S R wa an la tr wt now ≤ 1000000 ∧ 0 ≤ nTr S R wa an la tr wt now ∧ nTr S R wa an la tr wt now ≤ (k + 1 : Nat) := by
  obtain ⟨h0, h1, h2, l0, l1, n0, n1, q0, q1⟩ := F
  simp only [nLa, nTr, t0]
  cases nIs S R wa an la tr wt now <;> cases wt <;> cases wa <;> simp <;> omega

set_option maxRecDepth 100000 in
set_option maxHeartbeats 4000000 in
theorem tells_no (S R : Int) (a : Option Addr) (len cap : Nat) (t : Int) (w : World) (h : Hid (¬ (1 ≤ S ∧ S ≤ R ∧ R ≤ 1000))) :
    Calls Try.prog 3 #[ruV S R, .slice a len cap, .int .i64 t] w fun e w' => e = .returned (.bool true) ∧ Below w.heap.size w w' := by
  go_enter Try.func3, Try.ntmps3
  go_wp2_with fail
  refine (awake_true _).mono ?_
  rintro e w1 ⟨rfl, b1⟩
  have Br := Blk.born b1; have dr := bl_after (Below.refl w.heap.size w) b1; have cr := Br.cell; have zr := Br.lt; clear b1
  go_wp2_with fail
  go_region_held3 (fun W => W.cell? ⟨w.heap.size, 0, none⟩ = some (.int .i64 S) ∧ W.cell? ⟨w.heap.size, 1, none⟩ = some (.int .i64 R)) (simp [go_sem, *]) (first | (go_at_call 7; refine (right_no _ _ _ h.out).mono ?_; rintro e w' ⟨rfl, rfl⟩) | (go_at_call 8; refine (rright_no _ _ _ h.out).mono ?_; rintro e w' ⟨rfl, rfl⟩))
  all_goals
    refine any_name (fun W => Blk W w.heap.size 23 #[.int .i64 S, .int .i64 R] ∧ Below w.heap.size w W) ⟨by repeat (first | (with_reducible exact Br) | (with_reducible refine Blk.drew ?_) | (with_reducible refine Blk.alloc ?_ _) | ((with_reducible refine Blk.far ?_ ?hh _); case hh => (first | (simp; done) | (simp; omega)))), by have q2 := (dr).size; repeat (first | (with_reducible exact dr) | (with_reducible refine Below.drew ?_) | ((with_reducible refine Below.alloc ?_ ?hh _); case hh => (first | omega | (simp; omega) | simp)) | ((with_reducible refine Below.setCell ?_ ?hh _); case hh => (first | omega | (simp; omega) | simp)))⟩ ?_
    clear Br dr cr zr
    rintro W ⟨Br, dr⟩
    have cr := Br.cell; have zr := Br.lt
    go_wp2_with fail
    refine (rright_no _ _ _ h.out).mono ?_
    rintro e w' ⟨rfl, rfl⟩
    go_wp2_with fail
    go_ret
    exact ⟨rfl, dr.alloc dr.size _⟩

set_option maxRecDepth 100000 in
set_option maxHeartbeats 4000000 in
theorem tells_some (S R : Int) (a : Option Addr) (len cap : Nat) (t : Int) (w : World) (h0 : 1 ≤ S) (h1 : S ≤ R) (h2 : R ≤ 1000) (hl : len ≤ 9223372036854775807) (Q : Hid (RowsOf w a len [.i .u8, .b])) :
    Calls Try.prog 3 #[ruV S R, .slice a len cap, .int .i64 t] w fun e w' => e = .returned (.bool true) ∧ Below w.heap.size w w' := by
  have GA := Lib.hid (fun W => gap_any S R t W h0 h1 h2); have GR := Lib.hid (fun W => rgap_any S R t W h0 h1 h2)
  generalize gapV S R t = gv at GA GR
  go_enter Try.func3, Try.ntmps3
  go_wp2_with fail
  refine (awake_true _).mono ?_
  rintro e w1 ⟨rfl, b1⟩
  have Br := Blk.born b1; have dr := bl_after (Below.refl w.heap.size w) b1; have cr := Br.cell; have zr := Br.lt; clear b1
  go_wp2_with fail
  go_region_held3 (fun W => W.cell? ⟨w.heap.size, 0, none⟩ = some (.int .i64 S) ∧ W.cell? ⟨w.heap.size, 1, none⟩ = some (.int .i64 R)) (simp [go_sem, *]) (first | (go_at_call 7; refine (right_yes _ _ _ h0 h1 h2).mono ?_; rintro e w' ⟨rfl, rfl⟩) | (go_at_call 8; refine (rright_yes _ _ _ h0 h1 h2).mono ?_; rintro e w' ⟨rfl, rfl⟩))
  all_goals
    refine any_name (fun W => Blk W w.heap.size 23 #[.int .i64 S, .int .i64 R] ∧ Below w.heap.size w W) ⟨by repeat (first | (with_reducible exact Br) | (with_reducible refine Blk.drew ?_) | (with_reducible refine Blk.alloc ?_ _) | ((with_reducible refine Blk.far ?_ ?hh _); case hh => (first | (simp; done) | (simp; omega)))), by have q2 := (dr).size; repeat (first | (with_reducible exact dr) | (with_reducible refine Below.drew ?_) | ((with_reducible refine Below.alloc ?_ ?hh _); case hh => (first | omega | (simp; omega) | simp)) | ((with_reducible refine Below.setCell ?_ ?hh _); case hh => (first | omega | (simp; omega) | simp)))⟩ ?_
    clear Br dr cr zr
    rintro W ⟨Br, dr⟩
    have cr := Br.cell; have zr := Br.lt
    go_wp2_with fail
    refine (rright_yes _ _ _ h0 h1 h2).mono ?_
    rintro e w' ⟨rfl, rfl⟩
    replace Br := Br.alloc (.cells #[.int .i64 S, .int .i64 R] 28); replace dr := dr.alloc dr.size (.cells #[.int .i64 S, .int .i64 R] 28)
    by_cases hlen : 300 < len
    · go_wp2_with fail
      go_ret
      exact ⟨rfl, dr⟩
    · replace cr := Br.cell; replace zr := Br.lt
      go_wp2_with fail
      refine any_name (fun W => Blk W w.heap.size 23 #[.int .i64 S, .int .i64 R] ∧ Below w.heap.size w W) ⟨Br, dr⟩ ?_
      clear Br dr cr zr
      rintro W2 ⟨Br, dr⟩
      have cr := Br.cell; have zr := Br.lt
      go_region_held3 (fun W => W.cell? ⟨w.heap.size, 0, none⟩ = some (.int .i64 S) ∧ W.cell? ⟨w.heap.size, 1, none⟩ = some (.int .i64 R)) (simp [go_sem, *]) (first | (go_at_call 9; refine (GA.out _).mono ?_; rintro e w' ⟨rfl, rfl⟩) | (go_at_call 10; refine (GR.out _).mono ?_; rintro e w' ⟨rfl, rfl⟩))
      all_goals
        refine any_name (fun W => Blk W w.heap.size 23 #[.int .i64 S, .int .i64 R] ∧ Below w.heap.size w W) ⟨by repeat (first | (with_reducible exact Br) | (with_reducible refine Blk.drew ?_) | (with_reducible refine Blk.alloc ?_ _) | ((with_reducible refine Blk.far ?_ ?hh _); case hh => (first | (simp; done) | (simp; omega)))), by have q2 := (dr).size; repeat (first | (with_reducible exact dr) | (with_reducible refine Below.drew ?_) | ((with_reducible refine Below.alloc ?_ ?hh _); case hh => (first | omega | (simp; omega) | simp)) | ((with_reducible refine Below.setCell ?_ ?hh _); case hh => (first | omega | (simp; omega) | simp)))⟩ ?_
        clear Br dr cr zr
        rintro W3 ⟨Br, dr⟩
        have cr := Br.cell; have zr := Br.lt; have k3 := dr.size
        go_wp2_with fail
        go_loopw [42, 9] (fun i x wr => ∃ (k : Nat) (wa an : Bool) (la tr now : Int), k ≤ len ∧ i = .int .i64 k ∧ x = .int .i64 now ∧ 0 ≤ now ∧ now ≤ 255 * k ∧ 0 ≤ la ∧ la ≤ 1000000 ∧ 0 ≤ tr ∧ tr ≤ k ∧ Blk wr w.heap.size 23 #[.int .i64 S, .int .i64 R] ∧ Blk wr W3.heap.size 32 #[.bool wa, .bool an, .int .i64 la, .int .i64 tr] ∧ Blk wr (W3.heap.size + 1) 33 #[.bool wa, .bool an, .int .i64 la, .int .i64 tr] ∧ Below w.heap.size w wr) (fun i _ _ => len - (intOf i).toNat)
        case atStart => exact ⟨0, false, false, 0, 0, 0, by omega, rfl, rfl, by omega, by omega, by omega, by omega, by omega, by omega, (Br.alloc _).alloc _, (Blk.new _ _ _).alloc _, Blk.newAt _ _ _ _ (by simp), (dr.alloc k3 _).alloc (by simp; omega) _⟩
        case round =>
          rename_i wr
          obtain ⟨k, wa, an, la, tr, now, hk, rfl, rfl, n0, n1, l0, l1, q0, q1, B, T, U, dx⟩ := hrel
          clear Br dr cr
          have cB := B.cell; have zB := B.lt; have cT := T.cell; have zT := T.lt; have fT := T.frozen; have cU := U.cell; have zU := U.lt; have fU := U.frozen
          by_cases hlt : k < len
          · obtain ⟨b, off, rfl, hR⟩ := Q.out (by omega)
            obtain ⟨cs, hL, hc⟩ := hR k hlt
            obtain ⟨_, _, rfl, ⟨by_, rfl, wby⟩, _, _, rfl, ⟨wt, rfl⟩, rfl⟩ := hL
            have e0 : wr.cell? ⟨b, off + k * 2, none⟩ = some (.int .u8 by_) := cell_old dx (hc 0 (by decide))
            have e1 : wr.cell? ⟨b, off + k * 2 + 1, none⟩ = some (.bool wt) := cell_old dx (hc 1 (by decide))
            clear hc hR
            simp [Lit.wf, IntKind.min, IntKind.max, IntKind.signed, IntKind.bits] at wby
            obtain ⟨y0, y1⟩ := wby
            have F : Fit S R la tr (now + by_) := ⟨h0, h1, h2, by omega, by omega, by omega, by omega, by omega, by omega⟩
            have SA := Lib.hid (fun W => step_any S R wa an la tr wt (now + by_) W F); have SR := Lib.hid (fun W => rstep_any S R wa an la tr wt (now + by_) W F)
            have nb := nbd S R wa an la tr wt (now + by_) F k q1
            generalize nAn S R wa an la tr wt (now + by_) = A at SA SR
            generalize nLa S R wa an la tr wt (now + by_) = L at SA SR nb
            generalize nTr S R wa an la tr wt (now + by_) = T2 at SA SR nb
            generalize nIs S R wa an la tr wt (now + by_) = X at SA SR
            obtain ⟨nb0, nb1, nb2, nb3⟩ := nb
            have NB3 := Lib.hid nb3; clear nb3 F
            have ne1 : ¬ (W3.heap.size = wr.heap.size) := by omega
            go_wp2_with fail
            refine (SA.out _).mono ?_
            rintro e w4 ⟨rfl, b4⟩
            have X1 := Blk.born b4
            replace B := B.after b4; replace T := T.after b4; replace U := U.after b4; replace dx := bl_after dx b4; clear b4
            replace cB := B.cell; replace zB := B.lt; replace cT := T.cell; replace zT := T.lt; replace fT := T.frozen; replace cU := U.cell; replace zU := U.lt; replace fU := U.frozen
            have cX := X1.cell; have zX := X1.lt; have oa := zU; have oa' := zT
            go_wp2_with fail
            refine (SR.out _).mono ?_
            rintro e w5 ⟨rfl, b4⟩
            have V := Blk.born b4
            replace B := B.after b4; replace T := T.after b4; replace U := U.after b4; replace dx := bl_after dx b4; clear b4 X1 cX zX e0 e1
            replace cB := B.cell; replace zB := B.lt; replace cT := T.cell; replace zT := T.lt; replace fT := T.frozen; replace cU := U.cell; replace zU := U.lt; replace fU := U.frozen
            have cV := V.cell; have zV := V.lt; have ob := zU
            have ne2 : ¬ (W3.heap.size = w4.heap.size) := by omega
            go_wp2_with fail
            refine any_name (fun W => Blk W w.heap.size 23 #[.int .i64 S, .int .i64 R] ∧ Blk W W3.heap.size 32 #[.bool wa, .bool an, .int .i64 la, .int .i64 tr] ∧ Blk W (W3.heap.size + 1) 33 #[.bool wa, .bool an, .int .i64 la, .int .i64 tr] ∧ Blk W w4.heap.size 32 #[.bool wt, .bool A, .int .i64 L, .int .i64 T2] ∧ Blk W w5.heap.size 33 #[.bool wt, .bool A, .int .i64 L, .int .i64 T2] ∧ Below w.heap.size w W) ⟨B.alloc _, T.alloc _, U.alloc _, V.alloc _, Blk.new _ _ _, dx.alloc dx.size _⟩ ?_
            clear B T U V dx cB zB cT fT cU zU fU cV zV
            rintro W5 ⟨B, T, U, V, Y, dx⟩
            have cT := T.cell; have zT2 := T.lt; have fT := T.frozen; have cU := U.cell; have zU := U.lt; have fU := U.frozen; have cV := V.cell; have cY := Y.cell
            have ne3 : ¬ (W3.heap.size = w5.heap.size) := by omega
            have ne4 : ¬ (W3.heap.size + 1 = w5.heap.size) := by omega
            have ne5 : ¬ (W3.heap.size + 1 = w4.heap.size) := by omega
            go_region_held3 (fun W => W.cell? ⟨w4.heap.size, 0, none⟩ = some (.bool wt) ∧ W.cell? ⟨w4.heap.size, 1, none⟩ = some (.bool A) ∧ W.cell? ⟨w4.heap.size, 2, none⟩ = some (.int .i64 L) ∧ W.cell? ⟨w4.heap.size, 3, none⟩ = some (.int .i64 T2) ∧ W.cell? ⟨w5.heap.size, 0, none⟩ = some (.bool wt) ∧ W.cell? ⟨w5.heap.size, 1, none⟩ = some (.bool A) ∧ W.cell? ⟨w5.heap.size, 2, none⟩ = some (.int .i64 L) ∧ W.cell? ⟨w5.heap.size, 3, none⟩ = some (.int .i64 T2)) (simp [go_sem, *]) (first | fail)
            all_goals
              go_wp2_with fail
              go_roundw
              case rel =>
                refine ⟨k + 1, wt, A, L, T2, now + by_, by omega, by go_num, rfl, by omega, by omega, nb0, nb1, nb2, NB3.out, ?_, ?_, ?_, ?_⟩
                · repeat (first | (with_reducible exact B) | (with_reducible refine Blk.drew ?_) | (with_reducible refine Blk.alloc ?_ _) | ((with_reducible refine Blk.far ?_ ?hh _); case hh => (first | (simp; done) | (simp; omega))))
                · refine Blk.drew ?_
                  first | exact Blk.far (Blk.far (Blk.far (Blk.far ((((T.set_ 0 _).set_ 1 _).set_ 2 _).set_ 3 _) (by simp) _) (by simp) _) (by simp) _) (by simp) _ | exact ((((Blk.far (Blk.far (Blk.far (Blk.far T (by simp) _) (by simp) _) (by simp) _) (by simp) _).set_ 0 _).set_ 1 _).set_ 2 _).set_ 3 _
                · refine Blk.drew ?_
                  first | exact ((((Blk.far (Blk.far (Blk.far (Blk.far U (by simp) _) (by simp) _) (by simp) _) (by simp) _).set_ 0 _).set_ 1 _).set_ 2 _).set_ 3 _ | exact Blk.far (Blk.far (Blk.far (Blk.far ((((U.set_ 0 _).set_ 1 _).set_ 2 _).set_ 3 _) (by simp) _) (by simp) _) (by simp) _) (by simp) _
                · have q2 := (dx).size; repeat (first | (with_reducible exact dx) | (with_reducible refine Below.drew ?_) | ((with_reducible refine Below.alloc ?_ ?hh _); case hh => (first | omega | (simp; omega) | simp)) | ((with_reducible refine Below.setCell ?_ ?hh _); case hh => (first | omega | (simp; omega) | simp)))
              case measure => simp [intOf]; omega
          · go_wp2_with fail
            go_ret
            exact ⟨rfl, dx⟩
end Go.Proofs.Ytpikchnmpdpljaa
