/- awake: the calls whose answers the document fixes. -/
import Derived.Test.YtpikchnmpdpljaaAny
import Derived.Lib.SmallJoins
namespace Go.Proofs.Ytpikchnmpdpljaa
open Go.ChangeShapes Go.WideShapes Go.ChangeAt Go.RowKit
set_option linter.unusedVariables false

abbrev simC (s : Sim) : Array Value := #[.bool s.wa, .bool s.an, .int .i64 s.la, .int .i64 s.tr]

set_option maxRecDepth 100000 in
set_option maxHeartbeats 2000000 in
theorem awake_true (w : World) : Calls Try.prog 6 #[] w fun e w' => e = .returned (.bool true) ∧ Below w.heap.size w w' := by
  obtain ⟨i0, hi, hz0, hz1, hz2⟩ := info_parts Try.info2
  have HI := Lib.hid hi; have HZ0 := Lib.hid hz0; have HZ1 := Lib.hid hz1; have HZ2 := Lib.hid hz2
  clear hi hz0 hz1 hz2
  have p1 : gapV 2 7 2 = 4 := by decide +kernel
  go_enter Try.func6, Try.ntmps6
  go_wp2_with fail
  go_loopw [3, 8] (fun v i wr => ∃ k : Nat, k ≤ 21 ∧ i = .int .i64 k ∧ wr.ownsRow (w.heap.size + 1 + 1) 2 1 v (sim k).at_.length ((sim k).at_.map (Value.int .i64)) ∧ Blk wr w.heap.size 23 #[.int .i64 2, .int .i64 7] ∧ Blk wr (w.heap.size + 1) 32 (simC (sim k)) ∧ w.heap.size + 1 + 1 ≤ wr.heap.size ∧ Below w.heap.size w wr) (fun _ i _ => 21 - (intOf i).toNat)
  case atStart =>
    exact ⟨0, by omega, rfl, ⟨rfl, .inl ⟨rfl, rfl⟩⟩, (Blk.new _ _ _).alloc _, Blk.newAt _ _ _ _ (by simp), by simp, (((Below.refl _ _).alloc (Nat.le_refl _) _).alloc (by simp) _)⟩
  case round =>
    rename_i wr
    obtain ⟨k, hk, rfl, own, Br, Bs, hsz, dr⟩ := hrel
    have cr := Br.cell; have cs := Bs.cell; have zr := Br.lt; have zs := Bs.lt; have fs := Bs.frozen
    by_cases hlt : k < 21
    · have hf := sim_fit k hk
      have F : Fit 2 7 (sim k).la (sim k).tr k := ⟨by omega, by omega, by omega, by omega, by omega, by omega, by omega, by omega, by omega⟩
      have SA := Lib.hid (step_any 2 7 (sim k).wa (sim k).an (sim k).la (sim k).tr true k)
      have hs : sim (k + 1) = ⟨true, nAn 2 7 (sim k).wa (sim k).an (sim k).la (sim k).tr true k, nLa 2 7 (sim k).wa (sim k).an (sim k).la (sim k).tr true k, nTr 2 7 (sim k).wa (sim k).an (sim k).la (sim k).tr true k, if nIs 2 7 (sim k).wa (sim k).an (sim k).la (sim k).tr true k then (sim k).at_ ++ [(k : Int)] else (sim k).at_⟩ := rfl
      have hlen := hf.2.2.2.2
      have HS := Lib.hid hs; clear hs hf
      obtain ⟨s, hsk⟩ : ∃ s, s = sim k := ⟨_, rfl⟩
      rw [← hsk] at own Bs cs F SA HS hlen
      clear hsk
      generalize hA : nAn 2 7 s.wa s.an s.la s.tr true k = A at SA HS
      generalize hL : nLa 2 7 s.wa s.an s.la s.tr true k = L at SA HS
      generalize hT : nTr 2 7 s.wa s.an s.la s.tr true k = T at SA HS
      generalize hX : nIs 2 7 s.wa s.an s.la s.tr true k = X at SA HS
      clear hA hL hT hX
      have FH := Lib.hid F; clear F
      go_wp2_with fail
      refine (SA.out _ FH.out).mono ?_
      rintro e w3 ⟨rfl, b3⟩
      replace Br := Br.kept b3; replace Bs := Bs.kept b3; replace dr := bl_step dr b3
      replace own : w3.ownsRow (w.heap.size + 1 + 1) 2 1 _ s.at_.length (s.at_.map (Value.int .i64)) := own.kept (row := none) ⟨b3.os, b3.tape, b3.output, b3.size, fun i hi _ => b3.block i hi⟩ (Classical.em _)
      have k3 := b3.size
      clear b3
      replace cr := Br.cell; replace cs := Bs.cell; replace zr := Br.lt; replace zs := Bs.lt; replace fs := Bs.frozen
      cases X
      · have hat : s.at_ = (sim (k + 1)).at_ := by rw [HS.out]; simp
        rw [hat] at own
        clear hat
        go_wp2_with fail
        go_roundw
        case rel =>
          refine ⟨k + 1, by omega, by go_num, ?_, ?_, ?_, by simp; omega, ?_⟩
          · repeat (first | (with_reducible exact own) | (with_reducible refine World.ownsRow.alloc ?_ _) | ((with_reducible refine ownsRow_setCell_below ?_ ?hh _); case hh => (simp)))
          · repeat (first | (with_reducible exact Br) | (with_reducible refine Blk.drew ?_) | (with_reducible refine Blk.alloc ?_ _) | ((with_reducible refine Blk.far ?_ ?hh _); case hh => (first | (simp; done) | (simp; omega))))
          · rw [HS.out]
            repeat (first | (with_reducible refine Blk.drew ?_) | (with_reducible refine Blk.alloc ?_ _))
            exact (((Bs.set_ 0 _).set_ 1 _).set_ 2 _).set_ 3 _
          · have q2 := dr.size; repeat (first | (with_reducible exact dr) | (with_reducible refine Below.drew ?_) | ((with_reducible refine Below.alloc ?_ ?hh _); case hh => (first | omega | (simp; omega) | simp)) | ((with_reducible refine Below.setCell ?_ ?hh _); case hh => (first | omega | (simp; omega) | simp)))
        case measure => simp [intOf]; omega
      · go_wp2_with (at_builtin; refine wpList_append_own _ rfl _ _ 44 rfl (w.heap.size + 1 + 1) 2 i0 (.int .i64 0) 1 8 Try.underlying44 HI.out HZ0.out HZ1.out HZ2.out rfl (by decide) _ _ _ rfl ((own.alloc _).alloc _) ⟨w3.heap.size + 1, 0, none⟩ 1 1 [.int .i64 k] rfl rfl ?c1 ?c2 ?c3 ?c4 ?c5 ?_)
        case c1 =>
          intro j u hu
          have hj : j = 0 := by
            rcases j with _ | j
            · rfl
            · simp at hu
          subst hj
          simp at hu
          subst hu
          simp [Addr.add, go_sem]
        case c2 => intro u hu; simp at hu; subst hu; rfl
        case c3 => unfold maxLen; omega
        case c4 => omega
        case c5 => simp; omega
        intro v5 w5 own5 g5 _
        have Br5 := ((Br.alloc _).alloc _).grown g5 (own_blk_ne own Br (by decide))
        have Bs5 := ((Bs.alloc _).alloc _).grown g5 (own_blk_ne own Bs (by decide))
        have Bt5 : Blk w5 w3.heap.size 32 #[.bool true, .bool A, .int .i64 L, .int .i64 T] := ((Blk.new w3 32 #[.bool true, .bool A, .int .i64 L, .int .i64 T]).alloc _).grown g5 (own_blk_ne (own.alloc (.cells #[.bool true, .bool A, .int .i64 L, .int .i64 T] 32)) (Blk.new w3 32 #[.bool true, .bool A, .int .i64 L, .int .i64 T]) (by decide))
        have dr5 : Below w.heap.size w w5 := ((dr.alloc dr.size _).alloc (by have := dr.size; simp; omega) _).grown g5 (by have := dr.size; simp; omega) (fun j hj => by have := (own.lt j hj).1; omega)
        have own6 : w5.ownsRow (w.heap.size + 1 + 1) 2 1 v5 (sim (k + 1)).at_.length ((sim (k + 1)).at_.map (Value.int .i64)) := by rw [HS.out]; simpa using own5
        have k5 := g5.size
        simp at k5
        clear own5 g5 own Br Bs dr cr cs zr zs fs
        have cr := Br5.cell; have cs := Bs5.cell; have zr := Br5.lt; have zs := Bs5.lt; have fs := Bs5.frozen; have ct := Bt5.cell; have zt := Bt5.lt
        go_wp2_with fail
        go_roundw
        case rel =>
          refine ⟨k + 1, by omega, by go_num, ?_, ?_, ?_, by simp; omega, ?_⟩
          · repeat (first | (with_reducible exact own6) | (with_reducible refine World.ownsRow.alloc ?_ _) | ((with_reducible refine ownsRow_setCell_below ?_ ?hh _); case hh => (simp)))
          · repeat (first | (with_reducible exact Br5) | (with_reducible refine Blk.drew ?_) | (with_reducible refine Blk.alloc ?_ _) | ((with_reducible refine Blk.far ?_ ?hh _); case hh => (first | (simp; done) | (simp; omega))))
          · rw [HS.out]
            repeat (first | (with_reducible refine Blk.drew ?_) | (with_reducible refine Blk.alloc ?_ _))
            exact (((Bs5.set_ 0 _).set_ 1 _).set_ 2 _).set_ 3 _
          · have q2 := dr5.size; repeat (first | (with_reducible exact dr5) | (with_reducible refine Below.drew ?_) | ((with_reducible refine Below.alloc ?_ ?hh _); case hh => (first | omega | (simp; omega) | simp)) | ((with_reducible refine Below.setCell ?_ ?hh _); case hh => (first | omega | (simp; omega) | simp)))
        case measure => simp [intOf]; omega
    · have hk' : k = 21 := by omega
      subst hk'
      obtain ⟨q1, q2, q3, q4, q5⟩ := sim_end
      rw [q5] at own
      obtain ⟨g, cap, hv⟩ := Joins.ownsRow_form own (by decide)
      subst hv
      have o0 := own.cellAt 0 (by decide); have o1 := own.cellAt 1 (by decide); have o2 := own.cellAt 2 (by decide); have o3 := own.cellAt 3 (by decide); have o4 := own.cellAt 4 (by decide)
      simp at o0 o1 o2 o3 o4
      rw [show simC (sim 21) = #[.bool true, .bool true, .int .i64 20, .int .i64 5] from by rw [simC, q1, q2, q3, q4]] at Bs
      replace cs := Bs.cell
      clear q1 q2 q3 q4 q5 own
      go_wp2_with fail
      refine (right_yes _ _ _ (by omega) (by omega) (by omega)).mono ?_
      rintro e w4 ⟨rfl, rfl⟩
      go_wp2_with fail
      refine (right_no _ _ _ (by omega)).mono ?_
      rintro e w5 ⟨rfl, rfl⟩
      go_wp2_with fail
      refine (gap_any _ _ _ _ (by omega) (by omega) (by omega)).mono ?_
      rintro e w6 ⟨rfl, rfl⟩
      rw [p1]
      go_wp2_with fail
      go_ret
      refine ⟨rfl, ?_⟩
      have q2 := dr.size
      repeat (first | (with_reducible exact dr) | (with_reducible refine Below.drew ?_) | ((with_reducible refine Below.alloc ?_ ?hh _); case hh => (first | omega | (simp; omega) | simp)))
end Go.Proofs.Ytpikchnmpdpljaa
