/- The document's Workers. -/
import Derived.Test.YtiljihehbfnakaaWorkers
namespace Go.Proofs.Ytiljihehbfnakaa
open Go.ChangeShapes Go.WideShapes Go.ChangeAt Go.RowKit
set_option linter.unusedVariables false

theorem take_nextI {l : List Int} {k : Nat} (hk : k < l.length) : l.take (k + 1) = l.take k ++ [l.getD k 0] := by
  rw [List.take_succ_eq_append_getElem hk, List.getD_eq_getElem?_getD, List.getElem?_eq_getElem hk]; rfl

set_option maxHeartbeats 1000000 in
theorem rworkers_any (A : Option Addr) (n c : Nat) (l : List Int) (w : World) (h : IntAt w w.heap.size A n l) (hm : n ≤ 100000) :
    Calls Try.prog 15 #[.slice A n c] w fun e w' => (∃ A' m c', e = .returned (.slice A' m c') ∧ m ≤ c' ∧ c' ≤ maxLen ∧ WkAt w' w'.heap.size A' m (wl (inP l) 6)) ∧ Below w.heap.size w w' := by
  obtain ⟨i0, hi, hz0, hz1, hz2⟩ := info_parts Try.info44
  have HI := Lib.hid hi; have HZ0 := Lib.hid hz0; have HZ1 := Lib.hid hz1; have HZ2 := Lib.hid hz2
  have HL := Lib.hid h
  clear hi hz0 hz1 hz2 h
  go_enter Try.func15, Try.ntmps15
  go_wp2_with fail
  go_loopw [3, 4] (fun v i wr => ∃ (k : Nat), i = .int .i64 k ∧ k ≤ 6 ∧ wr.ownsRow w.heap.size 44 2 v (wl (inP l) k).length ((wl (inP l) k).flatMap wkC) ∧ Below w.heap.size w wr) (fun _ i _ => 6 - (intOf i).toNat)
  case atStart =>
    exact ⟨0, rfl, by omega, own_lit (n := 2) (Blk.new w 44 #[.int .i64 0, .int .i64 0, .int .i64 1, .int .i64 0]) (Nat.le_refl _) rfl (by unfold maxLen; omega), (Below.refl _ w).alloc (Nat.le_refl _) _⟩
  case round =>
    rename_i wr
    obtain ⟨k, rfl, hk, own, dr⟩ := hrel
    have sz := dr.size
    by_cases hlt : k < 6
    · have hwl := (wl_len (inP l) k).1
      have OWN := Lib.hid own
      clear own
      go_wp2_with fail
      go_loopw [5, 6] (fun v i wr' => ∃ (q : Nat), i = .int .i64 q ∧ q ≤ n ∧ v = .bool (decide ((k : Int) ∈ l.take q)) ∧ wr' = wr) (fun _ i _ => n - (intOf i).toNat)
      case atStart => exact ⟨0, rfl, by omega, rfl, rfl⟩
      case round =>
        obtain ⟨q, rfl, hq, rfl, rfl⟩ := hrel
        by_cases hlq : q < n
        · obtain ⟨hl', hc⟩ := HL.out
          obtain ⟨b, off, rfl, hb, hcell⟩ := hc (by omega)
          have f1 := (dr.cell (p := ⟨b, off + q, none⟩) hb).trans (hcell q hlq)
          have htk := take_nextI (l := l) (k := q) (by omega)
          generalize l.getD q 0 = y at f1 htk
          have HT := Lib.hid htk
          clear hc hcell htk hl'
          by_cases hy : y = (k : Int)
          · subst hy
            have hd : decide ((k : Int) ∈ l.take (q + 1)) = true := by rw [HT.out]; simp
            have HD := Lib.hid hd; clear hd
            go_wp2_with fail
            go_roundw
            case rel => exact ⟨q + 1, by go_num, by omega, by rw [HD.out], (by first | rfl | trivial)⟩
            case measure => simp [intOf]; omega
          · have hd : decide ((k : Int) ∈ l.take (q + 1)) = decide ((k : Int) ∈ l.take q) := by
              rw [HT.out]; simp [show ¬ (k : Int) = y from fun e => hy e.symm]
            have HD := Lib.hid hd; clear hd
            go_wp2_with fail
            go_roundw
            case rel => exact ⟨q + 1, by go_num, by omega, by rw [HD.out], (by first | rfl | trivial)⟩
            case measure => simp [intOf]; omega
        · have hq' : q = n := by omega
          subst hq'
          have hl' := HL.out.1
          rw [show l.take q = l from List.take_of_length_le (by omega)]
          have hstep : wl (inP l) (k + 1) = wl (inP l) k ++ if inP l k then three k else [] := rfl
          cases hb : decide ((k : Int) ∈ l)
          · have hs2 : wl (inP l) (k + 1) = wl (inP l) k := by rw [hstep, show inP l k = false from hb]; simp
            have HS := Lib.hid hs2; clear hs2 hstep hb
            go_wp2_with fail
            go_roundw
            case rel => exact ⟨k + 1, by go_num, by omega, by rw [HS.out]; exact OWN.out, dr⟩
            case measure => simp [intOf]; omega
          · have hs2 : wl (inP l) (k + 1) = wl (inP l) k ++ three k := by rw [hstep, show inP l k = true from hb]; simp
            have HS := Lib.hid hs2; clear hs2 hstep hb
            have own := OWN.out
            go_wp2_with (at_builtin; go_loud (refine wpList_append_own _ rfl _ _ 28 rfl w.heap.size 44 i0 (.agg #[.int .i64 0, .int .i64 0]) 2 16 Try.underlying28 HI.out HZ0.out HZ1.out HZ2.out rfl (by decide) _ _ _ rfl (own.alloc _) ⟨wr.heap.size, 0, none⟩ 3 3 ((three k).flatMap wkC) rfl rfl ?c1 ?c2 ?c3 ?c4 ?c5 ?_))
            case c1 =>
              intro j u hu
              rcases j with _ | _ | _ | _ | _ | _ | j <;> simp [wkC, three] at hu <;> subst hu <;> simp [Addr.add, go_sem]
            case c2 => intro u hu; simp [wkC, three] at hu; rcases hu with rfl | rfl | rfl | rfl | rfl | rfl <;> rfl
            case c3 => unfold maxLen; omega
            case c4 => omega
            case c5 => simp; omega
            intro v5 w5 own5 g5 _
            have dr5 : Below w.heap.size w w5 := (dr.alloc sz _).grown g5 (by simp; omega) (fun j hj => by have := (own.lt j hj).1; omega)
            have own6 : w5.ownsRow w.heap.size 44 2 v5 (wl (inP l) (k + 1)).length ((wl (inP l) (k + 1)).flatMap wkC) := by rw [HS.out, List.flatMap_append]; simpa [show (three k).length = 3 from rfl] using own5
            clear own5 own
            go_wp2_with fail
            go_roundw
            case rel => exact ⟨k + 1, by go_num, by omega, own6, dr5⟩
            case measure => simp [intOf]; omega
    · have hk' : k = 6 := by omega
      subst hk'
      obtain ⟨A', c', rfl, q1, q2, q3⟩ := wk_own own (wl_ok _ _ (by omega))
      have Q := Lib.hid q3; have Q1 := Lib.hid q1; have Q2 := Lib.hid q2
      clear q3 own q1 q2
      go_wp2_with fail
      go_ret
      exact ⟨⟨_, _, _, rfl, Q1.out, Q2.out, Q.out⟩, dr⟩
end Go.Proofs.Ytiljihehbfnakaa
