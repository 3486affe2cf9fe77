/- The document's Has, Same, Unfair. -/
import Derived.Test.YtiljihehbfnakaaWalks
namespace Go.Proofs.Ytiljihehbfnakaa
open Go.ChangeShapes Go.WideShapes Go.ChangeAt Go.RowKit
set_option linter.unusedVariables false

theorem getD_ext {α : Type} {d : α} : ∀ {l m : List α}, l.length = m.length → (∀ i, i < l.length → l.getD i d = m.getD i d) → l = m := by
  intro l m h hi
  refine List.ext_getElem h fun i h1 h2 => ?_
  have := hi i h1
  simpa [List.getD_eq_getElem?_getD, List.getElem?_eq_getElem h1, List.getElem?_eq_getElem h2] using this

set_option maxHeartbeats 1000000 in
theorem has_any (A : Option Addr) (n c : Nat) (l : List Wk) (x : Wk) (w : World) (h : WkAt w w.heap.size A n l) (hm : n ≤ 100000) :
    Calls Try.prog 16 #[.slice A n c, wv x] w fun e w' => e = .returned (.bool (decide (x ∈ l))) ∧ ∃ j, w' = (w.alloc (.cells #[.int .i64 x.1, .int .i64 x.2] 44)).drewN j := by
  obtain ⟨hl, ho, hc⟩ := h
  obtain ⟨x1, x2⟩ := x
  have HO := Lib.hid ho; clear ho
  go_enter Try.func16, Try.ntmps16
  go_wp2_with fail
  go_loopw [5] (fun i wr => ∃ k : Nat, i = .int .i64 k ∧ k ≤ n ∧ (∀ j, j < k → l.getD j (0, 0) ≠ (x1, x2)) ∧ ∃ q, wr = (w.alloc (.cells #[.int .i64 x1, .int .i64 x2] 44)).drewN q) (fun i _ => n - (intOf i).toNat)
  case atStart => exact ⟨0, rfl, by omega, fun j hj => absurd hj (by omega), 0, rfl⟩
  case round =>
    rename_i wr
    obtain ⟨k, rfl, hk, hs, q, rfl⟩ := hrel
    by_cases hlt : k < n
    · obtain ⟨b, off, rfl, hb, hcell⟩ := hc (by omega)
      obtain ⟨e1, e2⟩ := hcell k hlt
      have bx := (Blk.new w 44 #[.int .i64 x1, .int .i64 x2])
      have dr := (Below.refl w.heap.size w).alloc (Nat.le_refl _) (.cells #[.int .i64 x1, .int .i64 x2] 44)
      have f1 := (dr.cell (p := ⟨b, off + k * 2, none⟩) hb).trans e1
      have f2 := (dr.cell (p := ⟨b, off + k * 2 + 1, none⟩) hb).trans e2
      have f3 := bx.cell 0
      have f4 := bx.cell 1
      have hmem := getD_mem (l := l) (k := k) (by omega)
      generalize hy : l.getD k (0, 0) = y at f1 f2 hmem
      obtain ⟨y1, y2⟩ := y
      have HS := Lib.hid hs; have HM := Lib.hid hmem; have HY := Lib.hid hy
      clear hs hcell hc e1 e2 hmem hy bx dr
      simp at f1 f2 f3 f4
      by_cases hy1 : y1 = x1
      · subst hy1
        by_cases hy2 : y2 = x2
        · subst hy2
          go_wp2_with fail
          go_region
          go_wp2_with fail
          go_ret
          exact ⟨by rw [show decide ((y1, y2) ∈ l) = true from by simpa using HM.out]; rfl, _, rfl⟩
        · go_wp2_with fail
          go_region
          go_wp2_with fail
          go_roundw
          case rel =>
            refine ⟨k + 1, by go_num, by omega, fun j hj => ?_, _, rfl⟩
            rcases Nat.lt_or_ge j k with hj' | hj'
            · exact HS.out j hj'
            · have : j = k := by omega
              subst this
              rw [HY.out]
              intro e
              injection e with q1 q2
              exact hy2 q2
          case measure => simp [intOf]; omega
      · go_wp2_with fail
        go_region
        go_wp2_with fail
        go_roundw
        case rel =>
          refine ⟨k + 1, by go_num, by omega, fun j hj => ?_, _, rfl⟩
          rcases Nat.lt_or_ge j k with hj' | hj'
          · exact HS.out j hj'
          · have : j = k := by omega
            subst this
            rw [HY.out]
            intro e
            injection e with q1 q2
            exact hy1 q1
        case measure => simp [intOf]; omega
    · have hk' : k = n := by omega
      subst hk'
      have hL : decide ((x1, x2) ∈ l) = false := by
        simp only [decide_eq_false_iff_not]
        intro hx
        obtain ⟨j, hj, e⟩ := List.getElem_of_mem hx
        refine hs j (by omega) ?_
        rw [List.getD_eq_getElem?_getD, List.getElem?_eq_getElem hj]; exact e
      have HL := Lib.hid hL; clear hL hs
      go_wp2_with fail
      go_ret
      exact ⟨by rw [HL.out]; rfl, _, rfl⟩

set_option maxHeartbeats 1000000 in
theorem same_any (A A' : Option Addr) (n n' c c' : Nat) (l m : List Wk) (w : World) (h : WkAt w w.heap.size A n l) (h' : WkAt w w.heap.size A' n' m) (hm : n ≤ 100000) :
    Calls Try.prog 13 #[.slice A n c, .slice A' n' c'] w fun e w' => e = .returned (.bool (decide (l = m))) ∧ ∃ j, w' = w.drewN j := by
  obtain ⟨hl, hx, hc⟩ := h
  obtain ⟨hl', hx', hc'⟩ := h'
  clear hx hx'
  by_cases hn : n = n'
  · subst hn
    go_enter Try.func13, Try.ntmps13
    go_wp2_with fail
    go_loopw [5] (fun i wr => ∃ k : Nat, i = .int .i64 k ∧ k ≤ n ∧ (∀ j, j < k → l.getD j (0, 0) = m.getD j (0, 0)) ∧ ∃ q, wr = w.drewN q) (fun i _ => n - (intOf i).toNat)
    case atStart => exact ⟨0, rfl, by omega, fun j hj => absurd hj (by omega), 0, rfl⟩
    case round =>
      rename_i wr
      obtain ⟨k, rfl, hk, hs, q, rfl⟩ := hrel
      by_cases hlt : k < n
      · obtain ⟨b, off, rfl, hb, hcell⟩ := hc (by omega)
        obtain ⟨b', off', rfl, hb', hcell'⟩ := hc' (by omega)
        obtain ⟨e1, e2⟩ := hcell k hlt
        obtain ⟨e3, e4⟩ := hcell' k hlt
        have HS := Lib.hid hs
        generalize hxk : l.getD k (0, 0) = x at e1 e2
        generalize hyk : m.getD k (0, 0) = y at e3 e4
        obtain ⟨x1, x2⟩ := x
        obtain ⟨y1, y2⟩ := y
        have HX := Lib.hid hxk; have HY := Lib.hid hyk
        clear hs hcell hcell' hc hc' hxk hyk
        simp only at e1 e2 e3 e4
        by_cases hy1 : x1 = y1
        · subst hy1
          by_cases hy2 : x2 = y2
          · subst hy2
            go_wp2_with fail
            go_region
            go_wp2_with fail
            go_roundw
            case rel =>
              refine ⟨k + 1, by go_num, by omega, fun j hj => ?_, _, rfl⟩
              rcases Nat.lt_or_ge j k with hj' | hj'
              · exact HS.out j hj'
              · have : j = k := by omega
                subst this
                rw [HX.out, HY.out]
            case measure => simp [intOf]; omega
          · go_wp2_with fail
            go_region
            go_wp2_with fail
            go_ret
            refine ⟨?_, _, rfl⟩
            have hL : decide (l = m) = false := by
              simp only [decide_eq_false_iff_not]; rintro rfl
              have e := HX.out.symm.trans HY.out
              injection e with q1 q2
              exact hy2 q2
            rw [hL]; rfl
        · go_wp2_with fail
          go_region
          go_wp2_with fail
          go_ret
          refine ⟨?_, _, rfl⟩
          have hL : decide (l = m) = false := by
            simp only [decide_eq_false_iff_not]; rintro rfl
            have e := HX.out.symm.trans HY.out
            injection e with q1 q2
            exact hy1 q1
          rw [hL]; rfl
      · have hk' : k = n := by omega
        subst hk'
        have hL : l = m := getD_ext (by omega) (fun i hi => hs i (by omega))
        have HL := Lib.hid hL; clear hL hs
        go_wp2_with fail
        go_ret
        exact ⟨by rw [HL.out]; simp, q, rfl⟩
  · have hL : decide (l = m) = false := by
      simp only [decide_eq_false_iff_not]; rintro rfl; omega
    go_enter Try.func13, Try.ntmps13
    go_wp2_with fail
    go_ret
    exact ⟨by rw [hL]; rfl, 0, rfl⟩

structure WA (w : World) (B : Nat) (A : Option Addr) (n : Nat) (l : List Wk) : Prop where
  out : WkAt w B A n l
@[simp, go_sem] theorem WA_drew {w : World} {B : Nat} {A : Option Addr} {n : Nat} {l : List Wk} : WA w.drew B A n l ↔ WA w B A n l := ⟨fun h => ⟨h.out⟩, fun h => ⟨h.out⟩⟩
@[simp, go_sem] theorem WA_drewN {w : World} {B q : Nat} {A : Option Addr} {n : Nat} {l : List Wk} : WA (w.drewN q) B A n l ↔ WA w B A n l := ⟨fun h => ⟨h.out⟩, fun h => ⟨h.out⟩⟩

set_option maxHeartbeats 2000000 in
theorem runfair_any (A A' : Option Addr) (n n' c c' : Nat) (ps need : List Wk) (size : Int) (w : World) (h : WkAt w w.heap.size A n ps) (h' : WkAt w w.heap.size A' n' need) (hn : n ≤ 100000) (hn' : n' ≤ 100000) (hnc : n ≤ c) (hcm : c ≤ maxLen) (hsz : okI size) :
    Calls Try.prog 8 #[.slice A n c, .slice A' n' c', .int .i64 size] w fun e w' => e = unfR (unf ps need size) ∧ Below w.heap.size w w' := by
  have hl := h.1
  have hz : -9223372036854775808 ≤ size ∧ size ≤ 9223372036854775807 := by
    simp [okI, Lit.wf, IntKind.min, IntKind.max, IntKind.signed, IntKind.bits] at hsz; omega
  by_cases h1 : size < 1
  · have hu : unf ps need size = (0, false) := by unfold unf; rw [if_pos h1]
    rw [hu]
    go_enter Try.func8, Try.ntmps8
    go_wp2_with fail
    refine bodyPost_ret (v := .tuple #[.int .i64 0, .bool false]) (by simp [results, Try.results8, go_sem]) rfl ⟨rfl, Below.refl _ _⟩
  obtain ⟨s, rfl⟩ : ∃ s : Nat, size = s := ⟨size.toNat, by omega⟩
  have hs1 : 1 ≤ s := by omega
  have HP := Lib.hid h; have HN := Lib.hid h'
  clear h h' hsz
  go_enter Try.func8, Try.ntmps8
  go_wp2_with fail
  go_loopw [8] (fun i wr => ∃ (k : Nat), i = .int .i64 k ∧ k ≤ n ∧ (∀ j, j < k → j + s ≤ n → lacks need (win ps j s) = false) ∧ Below w.heap.size w wr) (fun i _ => n - (intOf i).toNat)
  case atStart => exact ⟨0, rfl, by omega, fun j hj => absurd hj (by omega), Below.refl _ _⟩
  case round =>
    rename_i wr
    obtain ⟨k, rfl, hk, hall, dr⟩ := hrel
    have sz := dr.size
    by_cases hlt : k + s ≤ n
    · have HA := Lib.hid hall; clear hall
      have hcnd : (s : Int) ≤ (n : Int) - (k : Int) := by omega
      go_wp2_with fail
      go_loopw [9] (fun i wr => ∃ (q : Nat), i = .int .i64 q ∧ q ≤ n' ∧ (∀ j, j < q → need.getD j (0, 0) ∈ win ps k s) ∧ Below w.heap.size w wr) (fun i _ => n' - (intOf i).toNat)
      case atStart => exact ⟨0, rfl, by omega, fun j hj => absurd hj (by omega), dr⟩
      case round =>
        clear dr sz
        obtain ⟨q, rfl, hq, hin, dr⟩ := hrel
        have sz := dr.size
        by_cases hlt2 : q < n'
        · obtain ⟨hl', ho, hc⟩ := HN.out
          obtain ⟨b, off, rfl, hb, hcell⟩ := hc (by omega)
          obtain ⟨e1, e2⟩ := hcell q hlt2
          have f1 := (dr.cell (p := ⟨b, off + q * 2, none⟩) hb).trans e1
          have f2 := (dr.cell (p := ⟨b, off + q * 2 + 1, none⟩) hb).trans e2
          obtain ⟨b0, off0, rfl, hb0, _⟩ := HP.out.2.2 (by omega)
          have r : WA wr w.heap.size (some ⟨b0, off0 + k * 2, none⟩) s (win ps k s) := ⟨(HP.out.part k s hlt).below dr⟩
          have hmem := getD_mem (l := need) (k := q) (by omega)
          generalize hxq : need.getD q (0, 0) = x at f1 f2 e1 e2 hmem
          obtain ⟨x1, x2⟩ := x
          have E1 := Lib.hid e1; have E2 := Lib.hid e2
          have HI := Lib.hid hin; have HX := Lib.hid hxq; have HM := Lib.hid hmem
          clear ho hc hcell e1 e2 hin hxq hmem hl'
          simp only at f1 f2
          have hck : ¬ c = k := by omega
          have hk1 : k + s ≤ c := by omega
          have hrun := slice_run 28 (.inl rfl) b0 off0 n c k s hs1 hk1
          have hw : IntKind.i64.wrap ((k : Int) + (s : Int)) = (k : Int) + (s : Int) := by rw [IntKind.wrap_i64]; omega
          have hsm : s ≤ 100000 := by omega
          go_wp2_with fail
          go_region_held3 (fun W => W.cell? ⟨b, off + q * 2, none⟩ = some (.int .i64 x1) ∧ W.cell? ⟨b, off + q * 2 + 1, none⟩ = some (.int .i64 x2) ∧ WA W w.heap.size (some ⟨b0, off0 + k * 2, none⟩) s (win ps k s) ∧ w.heap.size ≤ W.heap.size) (first | (simp [go_sem, *]; done) | exact ⟨((bl_drewN' (dr.alloc sz _) _).cell (p := ⟨b, off + q * 2, none⟩) hb).trans E1.out, ((bl_drewN' (dr.alloc sz _) _).cell (p := ⟨b, off + q * 2 + 1, none⟩) hb).trans E2.out, ⟨(HP.out.part k s hlt).below (bl_drewN' (dr.alloc sz _) _)⟩, (bl_drewN' (dr.alloc sz _) _).size⟩) (first | (go_at_call 16; refine (has_any _ _ _ (win ps k s) (x1, x2) _ (by exact r.out.mono sz) hsm).mono ?_; rintro e w' ⟨rfl, j, rfl⟩))
          all_goals
            have dr1 : Below w.heap.size w ((wr.alloc (.cells #[.int .i64 x1, .int .i64 x2] 44)).drewN (1 + j)) := bl_drewN' (dr.alloc sz _) _
            cases hq : decide ((x1, x2) ∈ win ps k s)
            · have hno : (x1, x2) ∉ win ps k s := by simpa using hq
              have hu : unf ps need (s : Nat) = (k, true) := unf_some rfl hs1 (by omega) (lacks_true.2 ⟨_, HM.out, hno⟩) (fun j hj => HA.out j hj (by omega))
              have HU := Lib.hid hu; clear hu hno hq
              go_wp2_with fail
              refine bodyPost_ret (v := .tuple #[.int .i64 k, .bool true]) (by simp [results, Try.results8, go_sem]) rfl ⟨by rw [HU.out]; rfl, dr1⟩
            · have hyes : (x1, x2) ∈ win ps k s := by simpa using hq
              have HY := Lib.hid hyes; clear hyes hq
              go_wp2_with fail
              go_roundw
              case rel =>
                refine ⟨q + 1, by go_num, by omega, fun i hi => ?_, dr1⟩
                rcases Nat.lt_or_ge i q with h | h
                · exact HI.out i h
                · obtain rfl : i = q := by omega
                  rw [HX.out]; exact HY.out
              case measure => simp [intOf]; omega
        · have hq' : q = n' := by omega
          subst hq'
          have hall2 : ∀ j, j < k + 1 → j + s ≤ n → lacks need (win ps j s) = false := fun j hj hjs => by
            rcases Nat.lt_or_ge j k with h | h
            · exact HA.out j h hjs
            · obtain rfl : j = k := by omega
              rw [lacks_false]
              intro x hx
              obtain ⟨i, hi, rfl⟩ := List.getElem_of_mem hx
              have := hin i (by have := HN.out.1; omega)
              rw [List.getD_eq_getElem?_getD, List.getElem?_eq_getElem hi] at this
              exact this
          have HA2 := Lib.hid hall2; clear hall2 hin
          go_wp2_with fail
          go_roundw
          case rel => exact ⟨k + 1, by go_num, by omega, HA2.out, dr⟩
          case measure => simp [intOf]; omega
    · have hu : unf ps need (s : Nat) = (0, false) := unf_none rfl hs1 (fun j hj => hall j (by omega) (by omega))
      have HU := Lib.hid hu; clear hu hall
      by_cases hkn : k < n
      · have hcnd : ¬ (s : Int) ≤ (n : Int) - (k : Int) := by omega
        go_wp2_with fail
        refine bodyPost_ret (v := .tuple #[.int .i64 0, .bool false]) (by simp [results, Try.results8, go_sem]) rfl ⟨by rw [HU.out]; rfl, dr⟩
      · go_wp2_with fail
        refine bodyPost_ret (v := .tuple #[.int .i64 0, .bool false]) (by simp [results, Try.results8, go_sem]) rfl ⟨by rw [HU.out]; rfl, dr⟩
end Go.Proofs.Ytiljihehbfnakaa
