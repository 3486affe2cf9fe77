/- fair.Unfair: the walk. -/
import Derived.Test.YtiljihehbfnakaaUnfair
namespace Go.Proofs.Ytiljihehbfnakaa
open Go.ChangeShapes Go.WideShapes Go.ChangeAt Go.RowKit
set_option linter.unusedVariables false

def unfR (r : Nat × Bool) : Ending := .returned (.tuple #[.int .i64 r.1, .bool r.2])
theorem Below.mapped {B b : Nat} {w w1 w2 : World} (h : Below B w w1) (g : w1.grownBy w2 (some b)) (hB : B ≤ w1.heap.size) (hb : B ≤ b) : Below B w w2 :=
  h.grown g hB (fun j hj => by cases hj; exact hb)

set_option maxHeartbeats 2000000 in
theorem unfair_any (A A' : Option Addr) (n n' c c' : Nat) (ps need : List Wk) (size : Int) (w : World) (h : WkAt w w.heap.size A n ps) (h' : WkAt w w.heap.size A' n' need) (hn : n ≤ 100000) (hn' : n' ≤ 100000) (hsz : okI size) :
    Calls Try.prog 7 #[.slice A n c, .slice A' n' c', .int .i64 size] w fun e w' => e = unfR (unf ps need size) ∧ Below w.heap.size w w' := by
  have hl := h.1
  by_cases h1 : size < 1
  · have hu : unf ps need size = (0, false) := by unfold unf; rw [if_pos h1]
    rw [hu]
    go_enter Try.func7, Try.ntmps7
    go_wp2_with fail
    refine bodyPost_ret (v := .tuple #[.int .i64 0, .bool false]) (by simp [results, Try.results7, go_sem]) rfl ⟨rfl, Below.refl _ _⟩
  by_cases h2 : (n : Int) < size
  · have hu : unf ps need size = (0, false) := unf_none (s := size.toNat) (by omega) (by omega) (fun j hj => by omega)
    rw [hu]
    go_enter Try.func7, Try.ntmps7
    go_wp2_with fail
    refine bodyPost_ret (v := .tuple #[.int .i64 0, .bool false]) (by simp [results, Try.results7, go_sem]) rfl ⟨rfl, Below.refl _ _⟩
  obtain ⟨s, rfl⟩ : ∃ s : Nat, size = s := ⟨size.toNat, by omega⟩
  have hs1 : 1 ≤ s := by omega
  have hsn : s ≤ n := by omega
  have HP := Lib.hid h; have HN := Lib.hid h'
  clear h h' hsz
  have hmm := @run_makeMap Try.prog
  go_enter Try.func7, Try.ntmps7
  go_wp2_with fail
  go_loopw [30] (fun i wr => ∃ (k : Nat) (ds : List Wk), i = .int .i64 k ∧ k ≤ n' ∧ ds.length ≤ k ∧ MapC wr w.heap.size ds (fun _ => 0) ∧ (∀ x, x ∈ ds ↔ x ∈ need.take k) ∧ Below w.heap.size w wr) (fun i _ => n' - (intOf i).toNat)
  case atStart => exact ⟨0, [], rfl, by omega, by simp, MapC.made w _, fun x => by simp, (Below.refl _ w).alloc (Nat.le_refl _) _⟩
  case round =>
    obtain ⟨k, ds, rfl, hk, hdk, M, hd, dr⟩ := hrel
    have sz := dr.size
    by_cases hlt : k < n'
    · obtain ⟨hl', ho, hc⟩ := HN.out
      obtain ⟨b, off, rfl, hb, hcell⟩ := hc (by omega)
      obtain ⟨e1, e2⟩ := hcell k hlt
      have f1 := (dr.cell (p := ⟨b, off + k * 2, none⟩) hb).trans e1
      have f2 := (dr.cell (p := ⟨b, off + k * 2 + 1, none⟩) hb).trans e2
      have htk := take_next (l := need) (k := k) (by omega)
      have hox := ho _ (getD_mem (l := need) (k := k) (by omega))
      generalize need.getD k (0, 0) = x at f1 f2 htk hox
      obtain ⟨x1, x2⟩ := x
      have HT := Lib.hid htk; have HD := Lib.hid hd; have HO := Lib.hid hox
      clear hl' ho hc hcell e1 e2 htk hd hox
      by_cases hx : (x1, x2) ∈ ds
      · go_wp2_with (at_mapUpdate; go_loud (refine wpc_put _ rfl _ _ _ rfl w.heap.size ds _ rfl (M.alloc _) (by unfold maxLen; omega) (x1, x2) 0 rfl rfl hx (okI_small (by omega) (by omega)) ?_); intro w1 M1 g1)
        have dr1 := Below.mapped (dr.alloc sz _) g1 (by simp; omega) (Nat.le_refl _)
        go_wp2_with fail
        go_roundw
        case rel =>
          refine ⟨k + 1, ds, by go_num, by omega, by omega, M1.congr (fun y _ => by simp), fun y => ?_, dr1⟩
          rw [HT.out, List.mem_append, ← HD.out y]
          simp only [List.mem_singleton]
          exact ⟨.inl, fun h => by rcases h with h | rfl; exact h; exact hx⟩
        case measure => simp [intOf]; omega
      · go_wp2_with (at_mapUpdate; go_loud (refine wpc_new _ rfl _ _ _ rfl w.heap.size ds _ rfl (M.alloc _) (by unfold maxLen; omega) (x1, x2) 0 rfl rfl hx HO.out (okI_small (by omega) (by omega)) ?_); intro w1 M1 g1)
        have dr1 := Below.mapped (dr.alloc sz _) g1 (by simp; omega) (Nat.le_refl _)
        go_wp2_with fail
        go_roundw
        case rel =>
          refine ⟨k + 1, (x1, x2) :: ds, by go_num, by omega, by simp; omega, M1.congr (fun y _ => by simp), fun y => ?_, dr1⟩
          rw [HT.out, List.mem_append, ← HD.out y]
          simp only [List.mem_singleton, List.mem_cons, List.not_mem_nil, or_false]
          exact ⟨fun h => h.symm, fun h => h.symm⟩
        case measure => simp [intOf]; omega
    · have hk' : k = n' := by omega
      subst hk'
      have hds : ∀ x, x ∈ ds ↔ x ∈ need := fun x => by rw [hd x, List.take_of_length_le (by have := HN.out.1; omega)]
      have hnd : ds.Nodup := by obtain ⟨D, _, C⟩ := M; exact C.nodup
      have HD := Lib.hid hds; have HNd := Lib.hid hnd
      clear hd hds hnd
      go_wp2_with (at_len; go_loud (refine wpc_len _ rfl _ rfl w.heap.size ds _ rfl M ?_))
      go_loopw [11, 41] (fun v i wr => ∃ (k p : Nat), i = .int .i64 k ∧ k ≤ n ∧ v = .int .i64 p ∧ p = miss ds (wat ps s k) ∧ MapC wr w.heap.size ds (cnt (wat ps s k)) ∧ (∀ j, j + s ≤ k → lacks need (win ps j s) = false) ∧ Below w.heap.size w wr) (fun _ i _ => n - (intOf i).toNat)
      case atStart => exact ⟨0, _, rfl, by omega, rfl, by rw [wat_zero hs1, miss_nil], M.congr (fun y _ => by rw [wat_zero hs1]; rfl), fun j hj => absurd hj (by omega), dr⟩
      case round =>
        clear M dr sz
        obtain ⟨k, p, rfl, hk, rfl, hmiss, M, hall, dr⟩ := hrel
        have sz := dr.size
        by_cases hlt : k < n
        · obtain ⟨hl', ho, hc⟩ := HP.out
          obtain ⟨b, off, rfl, hb, hcell⟩ := hc (by omega)
          obtain ⟨e1, e2⟩ := hcell k hlt
          have f1 := (dr.cell (p := ⟨b, off + k * 2, none⟩) hb).trans e1
          have f2 := (dr.cell (p := ⟨b, off + k * 2 + 1, none⟩) hb).trans e2
          have hox := ho _ (getD_mem (l := ps) (k := k) (by omega))
          have hwa := wat_add (ps := ps) (s := s) (k := k) hs1 (by omega)
          have hlen := wat_len (ps := ps) (s := s) (k := k)
          generalize ps.getD k (0, 0) = x at f1 f2 hox hwa
          obtain ⟨x1, x2⟩ := x
          have hml := miss_le ds (wat' ps s k)
          have hok2 : ∀ i, i < n → okW (ps.getD i (0, 0)) := fun i hi => ho _ (getD_mem (l := ps) (k := i) (by omega))
          have hcl2 := hcell
          have HW := Lib.hid hwa; have HO := Lib.hid hox; have HA := Lib.hid hall
          clear ho hc hcell e1 e2 hox hall hwa
          generalize hq : miss ds (wat' ps s k) = q at hml
          by_cases hsm : k + 1 < s
          · have hs2 := wat_small (ps := ps) hsm
            have hms : q = miss ds (wat ps s (k + 1)) := by rw [hs2, hq]
            have ha2 : ∀ j, j + s ≤ k + 1 → lacks need (win ps j s) = false := fun j hj => absurd hj (by omega)
            have HS := Lib.hid hs2; have HMS := Lib.hid hms; have HA2 := Lib.hid ha2; clear hs2 hms ha2
            by_cases hx : (x1, x2) ∈ ds
            · have cl := cnt_le (wat ps s k) (x1, x2)
              generalize hn0 : cnt (wat ps s k) (x1, x2) = n0 at cl
              have HN0 := Lib.hid hn0
              by_cases hz : n0 = 0
              · have hq2 := miss_new HNd.out hx (hn0.trans hz)
                rw [← HW.out, ← hmiss, hq] at hq2
                subst hz
                subst hq2
                have HQ := Lib.hid hq; clear hn0 hmiss hq
                go_wp2_with (first | (at_lookup; go_loud (refine wpc_in _ rfl _ _ rfl w.heap.size ds _ rfl (M.alloc _) (x1, x2) rfl hx ?_); rw [HN0.out]) | (at_mapUpdate; go_loud (refine wpc_put _ rfl _ _ _ rfl w.heap.size ds _ rfl (M.alloc _) (by unfold maxLen; omega) (x1, x2) 1 rfl rfl hx (okI_small (by omega) (by omega)) ?_; intro w1 M1 g1; have dr1 := Below.mapped (dr.alloc sz _) g1 (by simp; omega) (Nat.le_refl _); have sz1 := dr1.size; have M1 := M1.congr (g := cnt (wat ps s k ++ [(x1, x2)])) (fun z _ => by have h := cnt_add (wat ps s k) (x1, x2) z; rw [HN0.out] at h; exact h); rw [← HW.out] at M1; clear g1)))
                go_roundw
                case rel =>
                  exact ⟨k + 1, _, by go_num, by omega, by go_num, HMS.out, M1.congr (fun z _ => by rw [HS.out]), HA2.out, dr1⟩
                case measure => simp [intOf]; omega
              · have hq2 := miss_old (l := wat ps s k) (x := (x1, x2)) (ds := ds) (.inr (by rw [hn0]; exact hz))
                rw [← HW.out, ← hmiss, hq] at hq2
                subst hq2
                have HQ := Lib.hid hq; clear hn0 hmiss hq
                go_wp2_with (first | (at_lookup; go_loud (refine wpc_in _ rfl _ _ rfl w.heap.size ds _ rfl (M.alloc _) (x1, x2) rfl hx ?_); rw [HN0.out]) | (at_mapUpdate; go_loud (refine wpc_put _ rfl _ _ _ rfl w.heap.size ds _ rfl (M.alloc _) (by unfold maxLen; omega) (x1, x2) (n0 + 1) rfl rfl hx (okI_small (by omega) (by omega)) ?_; intro w1 M1 g1; have dr1 := Below.mapped (dr.alloc sz _) g1 (by simp; omega) (Nat.le_refl _); have sz1 := dr1.size; have M1 := M1.congr (g := cnt (wat ps s k ++ [(x1, x2)])) (fun z _ => by have h := cnt_add (wat ps s k) (x1, x2) z; rw [HN0.out] at h; exact h); rw [← HW.out] at M1; clear g1)))
                go_roundw
                case rel =>
                  exact ⟨k + 1, _, by go_num, by omega, by go_num, HMS.out, M1.congr (fun z _ => by rw [HS.out]), HA2.out, dr1⟩
                case measure => simp [intOf]; omega
            · have hq2 := miss_old (l := wat ps s k) (x := (x1, x2)) (ds := ds) (.inl hx)
              rw [← HW.out, ← hmiss, hq] at hq2
              subst hq2
              have HQ := Lib.hid hq; clear hmiss hq
              have dr1 := dr.alloc sz (.cells #[.int .i64 x1, .int .i64 x2] 41)
              have M1 := (M.alloc (.cells #[.int .i64 x1, .int .i64 x2] 41)).congr (cnt_out (wat ps s k) (x1, x2) hx)
              rw [← HW.out] at M1
              have sz1 := dr1.size
              go_wp2_with (first | (at_lookup; go_loud (refine wpc_out _ rfl _ _ rfl w.heap.size ds _ rfl (M.alloc _) (x1, x2) rfl hx HO.out ?_)))
              go_roundw
              case rel =>
                exact ⟨k + 1, _, by go_num, by omega, by go_num, HMS.out, M1.congr (fun z _ => by rw [HS.out]), HA2.out, dr1⟩
              case measure => simp [intOf]; omega
          · obtain ⟨a, ha⟩ : ∃ a : Nat, k + 1 = a + s := ⟨k + 1 - s, by omega⟩
            have hat : (k : Int) + 1 - (s : Int) = (a : Int) := by omega
            have hae : k + 1 - s = a := by omega
            have hwin := wat_win (ps := ps) (s := s) (k := k) (by omega)
            have htl := wat_tail (ps := ps) (s := s) (k := k) hs1 (by omega) (by omega)
            rw [hae] at hwin htl
            have HWIN := Lib.hid hwin; have HTL := Lib.hid htl; have HAE := Lib.hid hae
            clear hwin htl hae
            by_cases hq0 : 0 < q
            · have hu : unf ps need (s : Nat) = (a, true) := unf_some rfl hs1 (by omega) (by rw [← HWIN.out, ← lacks_congr HD.out]; exact miss_pos.1 (by rw [hq]; exact hq0)) (fun j hj => HA.out j (by omega))
              have HU := Lib.hid hu; clear hu
              by_cases hx : (x1, x2) ∈ ds
              · have cl := cnt_le (wat ps s k) (x1, x2)
                generalize hn0 : cnt (wat ps s k) (x1, x2) = n0 at cl
                have HN0 := Lib.hid hn0
                by_cases hz : n0 = 0
                · have hq2 := miss_new HNd.out hx (hn0.trans hz)
                  rw [← HW.out, ← hmiss, hq] at hq2
                  subst hz
                  subst hq2
                  have HQ := Lib.hid hq; clear hn0 hmiss hq
                  go_wp2_with (first | (at_lookup; go_loud (refine wpc_in _ rfl _ _ rfl w.heap.size ds _ rfl (M.alloc _) (x1, x2) rfl hx ?_); rw [HN0.out]) | (at_mapUpdate; go_loud (refine wpc_put _ rfl _ _ _ rfl w.heap.size ds _ rfl (M.alloc _) (by unfold maxLen; omega) (x1, x2) 1 rfl rfl hx (okI_small (by omega) (by omega)) ?_; intro w1 M1 g1; have dr1 := Below.mapped (dr.alloc sz _) g1 (by simp; omega) (Nat.le_refl _); have sz1 := dr1.size; have M1 := M1.congr (g := cnt (wat ps s k ++ [(x1, x2)])) (fun z _ => by have h := cnt_add (wat ps s k) (x1, x2) z; rw [HN0.out] at h; exact h); rw [← HW.out] at M1; clear g1)))
                  refine bodyPost_ret (v := .tuple #[.int .i64 a, .bool true]) (by simp [results, Try.results7, go_sem]) rfl ⟨by rw [HU.out]; rfl, dr1⟩
                · have hq2 := miss_old (l := wat ps s k) (x := (x1, x2)) (ds := ds) (.inr (by rw [hn0]; exact hz))
                  rw [← HW.out, ← hmiss, hq] at hq2
                  subst hq2
                  have HQ := Lib.hid hq; clear hn0 hmiss hq
                  go_wp2_with (first | (at_lookup; go_loud (refine wpc_in _ rfl _ _ rfl w.heap.size ds _ rfl (M.alloc _) (x1, x2) rfl hx ?_); rw [HN0.out]) | (at_mapUpdate; go_loud (refine wpc_put _ rfl _ _ _ rfl w.heap.size ds _ rfl (M.alloc _) (by unfold maxLen; omega) (x1, x2) (n0 + 1) rfl rfl hx (okI_small (by omega) (by omega)) ?_; intro w1 M1 g1; have dr1 := Below.mapped (dr.alloc sz _) g1 (by simp; omega) (Nat.le_refl _); have sz1 := dr1.size; have M1 := M1.congr (g := cnt (wat ps s k ++ [(x1, x2)])) (fun z _ => by have h := cnt_add (wat ps s k) (x1, x2) z; rw [HN0.out] at h; exact h); rw [← HW.out] at M1; clear g1)))
                  refine bodyPost_ret (v := .tuple #[.int .i64 a, .bool true]) (by simp [results, Try.results7, go_sem]) rfl ⟨by rw [HU.out]; rfl, dr1⟩
              · have hq2 := miss_old (l := wat ps s k) (x := (x1, x2)) (ds := ds) (.inl hx)
                rw [← HW.out, ← hmiss, hq] at hq2
                subst hq2
                have HQ := Lib.hid hq; clear hmiss hq
                have dr1 := dr.alloc sz (.cells #[.int .i64 x1, .int .i64 x2] 41)
                have M1 := (M.alloc (.cells #[.int .i64 x1, .int .i64 x2] 41)).congr (cnt_out (wat ps s k) (x1, x2) hx)
                rw [← HW.out] at M1
                have sz1 := dr1.size
                go_wp2_with (first | (at_lookup; go_loud (refine wpc_out _ rfl _ _ rfl w.heap.size ds _ rfl (M.alloc _) (x1, x2) rfl hx HO.out ?_)))
                refine bodyPost_ret (v := .tuple #[.int .i64 a, .bool true]) (by simp [results, Try.results7, go_sem]) rfl ⟨by rw [HU.out]; rfl, dr1⟩
            · obtain rfl : q = 0 := by omega
              have hlk : lacks need (win ps a s) = false := by
                rw [← HWIN.out, ← lacks_congr HD.out]
                cases hb : lacks ds (wat' ps s k)
                · rfl
                · have := miss_pos.2 hb; omega
              have ha2 : ∀ j, j + s ≤ k + 1 → lacks need (win ps j s) = false := fun j hj => by
                rcases Nat.lt_or_ge k (j + s) with h | h
                · rw [show j = a from by omega]; exact hlk
                · exact HA.out j h
              have HA2 := Lib.hid ha2; clear ha2 hlk
              have hoy := hok2 a (by omega)
              obtain ⟨e3, e4⟩ := hcl2 a (by omega)
              generalize hyy : ps.getD a (0, 0) = y at e3 e4 hoy
              have htl2 := HTL.out
              rw [hyy] at htl2
              obtain ⟨y1, y2⟩ := y
              have E3 := Lib.hid e3; have E4 := Lib.hid e4; have HOy := Lib.hid hoy; have HTL := Lib.hid htl2
              clear e3 e4 hoy hyy htl2
              by_cases hy : (y1, y2) ∈ ds
              · have cl2 := cnt_le (wat' ps s k) (y1, y2)
                have hl2 : (wat' ps s k).length ≤ n + 1 := by rw [HW.out, List.length_append]; simp; omega
                generalize hn1 : cnt (wat' ps s k) (y1, y2) = n1 at cl2
                have HN1 := Lib.hid hn1
                by_cases h11 : n1 = 1
                · have hms := miss_rem (l := wat ps s (k + 1)) HNd.out hy (by rw [← HTL.out, hn1, h11])
                  rw [← HTL.out, hq] at hms
                  subst h11
                  have HMS := Lib.hid hms.symm; clear hms hn1
                  by_cases hx : (x1, x2) ∈ ds
                  · have cl := cnt_le (wat ps s k) (x1, x2)
                    generalize hn0 : cnt (wat ps s k) (x1, x2) = n0 at cl
                    have HN0 := Lib.hid hn0
                    by_cases hz : n0 = 0
                    · have hq2 := miss_new HNd.out hx (hn0.trans hz)
                      rw [← HW.out, ← hmiss, hq] at hq2
                      subst hz
                      subst hq2
                      have HQ := Lib.hid hq; clear hn0 hmiss hq
                      go_wp2_with (first | (at_lookup; go_loud (refine wpc_in _ rfl _ _ rfl w.heap.size ds _ rfl (M.alloc _) (x1, x2) rfl hx ?_); rw [HN0.out]) | (at_mapUpdate; go_loud (refine wpc_put _ rfl _ _ _ rfl w.heap.size ds _ rfl (M.alloc _) (by unfold maxLen; omega) (x1, x2) 1 rfl rfl hx (okI_small (by omega) (by omega)) ?_; intro w1 M1 g1; have dr1 := Below.mapped (dr.alloc sz _) g1 (by simp; omega) (Nat.le_refl _); have sz1 := dr1.size; have M1 := M1.congr (g := cnt (wat ps s k ++ [(x1, x2)])) (fun z _ => by have h := cnt_add (wat ps s k) (x1, x2) z; rw [HN0.out] at h; exact h); rw [← HW.out] at M1; have f3 := (dr1.cell (p := ⟨b, off + a * 2, none⟩) hb).trans E3.out; have f4 := (dr1.cell (p := ⟨b, off + a * 2 + 1, none⟩) hb).trans E4.out; clear g1)) | (at_lookup; go_loud (refine wpc_in _ rfl _ _ rfl w.heap.size ds _ rfl M1 (y1, y2) rfl hy ?_); rw [HN1.out]) | (at_mapUpdate; go_loud (refine wpc_put _ rfl _ _ _ rfl w.heap.size ds _ rfl M1 (by unfold maxLen; omega) (y1, y2) 0 rfl rfl hy (okI_small (by omega) (by omega)) ?_); intro w2 M2 g2; have dr2 := Below.mapped dr1 g2 sz1 (Nat.le_refl _); clear g2))
                      go_roundw
                      case rel =>
                        exact ⟨k + 1, _, by go_num, by omega, by go_num, HMS.out, M2.congr (fun z _ => by have h := cnt_rem (wat ps s (k + 1)) (y1, y2) z; rw [← HTL.out, HN1.out] at h; exact h), HA2.out, dr2⟩
                      case measure => simp [intOf]; omega
                    · have hq2 := miss_old (l := wat ps s k) (x := (x1, x2)) (ds := ds) (.inr (by rw [hn0]; exact hz))
                      rw [← HW.out, ← hmiss, hq] at hq2
                      subst hq2
                      have HQ := Lib.hid hq; clear hn0 hmiss hq
                      go_wp2_with (first | (at_lookup; go_loud (refine wpc_in _ rfl _ _ rfl w.heap.size ds _ rfl (M.alloc _) (x1, x2) rfl hx ?_); rw [HN0.out]) | (at_mapUpdate; go_loud (refine wpc_put _ rfl _ _ _ rfl w.heap.size ds _ rfl (M.alloc _) (by unfold maxLen; omega) (x1, x2) (n0 + 1) rfl rfl hx (okI_small (by omega) (by omega)) ?_; intro w1 M1 g1; have dr1 := Below.mapped (dr.alloc sz _) g1 (by simp; omega) (Nat.le_refl _); have sz1 := dr1.size; have M1 := M1.congr (g := cnt (wat ps s k ++ [(x1, x2)])) (fun z _ => by have h := cnt_add (wat ps s k) (x1, x2) z; rw [HN0.out] at h; exact h); rw [← HW.out] at M1; have f3 := (dr1.cell (p := ⟨b, off + a * 2, none⟩) hb).trans E3.out; have f4 := (dr1.cell (p := ⟨b, off + a * 2 + 1, none⟩) hb).trans E4.out; clear g1)) | (at_lookup; go_loud (refine wpc_in _ rfl _ _ rfl w.heap.size ds _ rfl M1 (y1, y2) rfl hy ?_); rw [HN1.out]) | (at_mapUpdate; go_loud (refine wpc_put _ rfl _ _ _ rfl w.heap.size ds _ rfl M1 (by unfold maxLen; omega) (y1, y2) 0 rfl rfl hy (okI_small (by omega) (by omega)) ?_); intro w2 M2 g2; have dr2 := Below.mapped dr1 g2 sz1 (Nat.le_refl _); clear g2))
                      go_roundw
                      case rel =>
                        exact ⟨k + 1, _, by go_num, by omega, by go_num, HMS.out, M2.congr (fun z _ => by have h := cnt_rem (wat ps s (k + 1)) (y1, y2) z; rw [← HTL.out, HN1.out] at h; exact h), HA2.out, dr2⟩
                      case measure => simp [intOf]; omega
                  · have hq2 := miss_old (l := wat ps s k) (x := (x1, x2)) (ds := ds) (.inl hx)
                    rw [← HW.out, ← hmiss, hq] at hq2
                    subst hq2
                    have HQ := Lib.hid hq; clear hmiss hq
                    have dr1 := dr.alloc sz (.cells #[.int .i64 x1, .int .i64 x2] 41)
                    have M1 := (M.alloc (.cells #[.int .i64 x1, .int .i64 x2] 41)).congr (cnt_out (wat ps s k) (x1, x2) hx)
                    rw [← HW.out] at M1
                    have sz1 := dr1.size
                    have f3 := (dr1.cell (p := ⟨b, off + a * 2, none⟩) hb).trans E3.out
                    have f4 := (dr1.cell (p := ⟨b, off + a * 2 + 1, none⟩) hb).trans E4.out
                    go_wp2_with (first | (at_lookup; go_loud (refine wpc_out _ rfl _ _ rfl w.heap.size ds _ rfl (M.alloc _) (x1, x2) rfl hx HO.out ?_)) | (at_lookup; go_loud (refine wpc_in _ rfl _ _ rfl w.heap.size ds _ rfl M1 (y1, y2) rfl hy ?_); rw [HN1.out]) | (at_mapUpdate; go_loud (refine wpc_put _ rfl _ _ _ rfl w.heap.size ds _ rfl M1 (by unfold maxLen; omega) (y1, y2) 0 rfl rfl hy (okI_small (by omega) (by omega)) ?_); intro w2 M2 g2; have dr2 := Below.mapped dr1 g2 sz1 (Nat.le_refl _); clear g2))
                    go_roundw
                    case rel =>
                      exact ⟨k + 1, _, by go_num, by omega, by go_num, HMS.out, M2.congr (fun z _ => by have h := cnt_rem (wat ps s (k + 1)) (y1, y2) z; rw [← HTL.out, HN1.out] at h; exact h), HA2.out, dr2⟩
                    case measure => simp [intOf]; omega
                · have hms := miss_rem_old (l := wat ps s (k + 1)) (x := (y1, y2)) (ds := ds) (.inr (by rw [← HTL.out, hn1]; exact h11))
                  rw [← HTL.out, hq] at hms
                  have HMS := Lib.hid hms.symm; clear hms hn1
                  by_cases hx : (x1, x2) ∈ ds
                  · have cl := cnt_le (wat ps s k) (x1, x2)
                    generalize hn0 : cnt (wat ps s k) (x1, x2) = n0 at cl
                    have HN0 := Lib.hid hn0
                    by_cases hz : n0 = 0
                    · have hq2 := miss_new HNd.out hx (hn0.trans hz)
                      rw [← HW.out, ← hmiss, hq] at hq2
                      subst hz
                      subst hq2
                      have HQ := Lib.hid hq; clear hn0 hmiss hq
                      go_wp2_with (first | (at_lookup; go_loud (refine wpc_in _ rfl _ _ rfl w.heap.size ds _ rfl (M.alloc _) (x1, x2) rfl hx ?_); rw [HN0.out]) | (at_mapUpdate; go_loud (refine wpc_put _ rfl _ _ _ rfl w.heap.size ds _ rfl (M.alloc _) (by unfold maxLen; omega) (x1, x2) 1 rfl rfl hx (okI_small (by omega) (by omega)) ?_; intro w1 M1 g1; have dr1 := Below.mapped (dr.alloc sz _) g1 (by simp; omega) (Nat.le_refl _); have sz1 := dr1.size; have M1 := M1.congr (g := cnt (wat ps s k ++ [(x1, x2)])) (fun z _ => by have h := cnt_add (wat ps s k) (x1, x2) z; rw [HN0.out] at h; exact h); rw [← HW.out] at M1; have f3 := (dr1.cell (p := ⟨b, off + a * 2, none⟩) hb).trans E3.out; have f4 := (dr1.cell (p := ⟨b, off + a * 2 + 1, none⟩) hb).trans E4.out; clear g1)) | (at_lookup; go_loud (refine wpc_in _ rfl _ _ rfl w.heap.size ds _ rfl M1 (y1, y2) rfl hy ?_); rw [HN1.out]) | (at_mapUpdate; go_loud (refine wpc_put _ rfl _ _ _ rfl w.heap.size ds _ rfl M1 (by unfold maxLen; omega) (y1, y2) (n1 - 1) rfl rfl hy (okI_small (by omega) (by omega)) ?_); intro w2 M2 g2; have dr2 := Below.mapped dr1 g2 sz1 (Nat.le_refl _); clear g2))
                      go_roundw
                      case rel =>
                        exact ⟨k + 1, _, by go_num, by omega, by go_num, HMS.out, M2.congr (fun z _ => by have h := cnt_rem (wat ps s (k + 1)) (y1, y2) z; rw [← HTL.out, HN1.out] at h; exact h), HA2.out, dr2⟩
                      case measure => simp [intOf]; omega
                    · have hq2 := miss_old (l := wat ps s k) (x := (x1, x2)) (ds := ds) (.inr (by rw [hn0]; exact hz))
                      rw [← HW.out, ← hmiss, hq] at hq2
                      subst hq2
                      have HQ := Lib.hid hq; clear hn0 hmiss hq
                      go_wp2_with (first | (at_lookup; go_loud (refine wpc_in _ rfl _ _ rfl w.heap.size ds _ rfl (M.alloc _) (x1, x2) rfl hx ?_); rw [HN0.out]) | (at_mapUpdate; go_loud (refine wpc_put _ rfl _ _ _ rfl w.heap.size ds _ rfl (M.alloc _) (by unfold maxLen; omega) (x1, x2) (n0 + 1) rfl rfl hx (okI_small (by omega) (by omega)) ?_; intro w1 M1 g1; have dr1 := Below.mapped (dr.alloc sz _) g1 (by simp; omega) (Nat.le_refl _); have sz1 := dr1.size; have M1 := M1.congr (g := cnt (wat ps s k ++ [(x1, x2)])) (fun z _ => by have h := cnt_add (wat ps s k) (x1, x2) z; rw [HN0.out] at h; exact h); rw [← HW.out] at M1; have f3 := (dr1.cell (p := ⟨b, off + a * 2, none⟩) hb).trans E3.out; have f4 := (dr1.cell (p := ⟨b, off + a * 2 + 1, none⟩) hb).trans E4.out; clear g1)) | (at_lookup; go_loud (refine wpc_in _ rfl _ _ rfl w.heap.size ds _ rfl M1 (y1, y2) rfl hy ?_); rw [HN1.out]) | (at_mapUpdate; go_loud (refine wpc_put _ rfl _ _ _ rfl w.heap.size ds _ rfl M1 (by unfold maxLen; omega) (y1, y2) (n1 - 1) rfl rfl hy (okI_small (by omega) (by omega)) ?_); intro w2 M2 g2; have dr2 := Below.mapped dr1 g2 sz1 (Nat.le_refl _); clear g2))
                      go_roundw
                      case rel =>
                        exact ⟨k + 1, _, by go_num, by omega, by go_num, HMS.out, M2.congr (fun z _ => by have h := cnt_rem (wat ps s (k + 1)) (y1, y2) z; rw [← HTL.out, HN1.out] at h; exact h), HA2.out, dr2⟩
                      case measure => simp [intOf]; omega
                  · have hq2 := miss_old (l := wat ps s k) (x := (x1, x2)) (ds := ds) (.inl hx)
                    rw [← HW.out, ← hmiss, hq] at hq2
                    subst hq2
                    have HQ := Lib.hid hq; clear hmiss hq
                    have dr1 := dr.alloc sz (.cells #[.int .i64 x1, .int .i64 x2] 41)
                    have M1 := (M.alloc (.cells #[.int .i64 x1, .int .i64 x2] 41)).congr (cnt_out (wat ps s k) (x1, x2) hx)
                    rw [← HW.out] at M1
                    have sz1 := dr1.size
                    have f3 := (dr1.cell (p := ⟨b, off + a * 2, none⟩) hb).trans E3.out
                    have f4 := (dr1.cell (p := ⟨b, off + a * 2 + 1, none⟩) hb).trans E4.out
                    go_wp2_with (first | (at_lookup; go_loud (refine wpc_out _ rfl _ _ rfl w.heap.size ds _ rfl (M.alloc _) (x1, x2) rfl hx HO.out ?_)) | (at_lookup; go_loud (refine wpc_in _ rfl _ _ rfl w.heap.size ds _ rfl M1 (y1, y2) rfl hy ?_); rw [HN1.out]) | (at_mapUpdate; go_loud (refine wpc_put _ rfl _ _ _ rfl w.heap.size ds _ rfl M1 (by unfold maxLen; omega) (y1, y2) (n1 - 1) rfl rfl hy (okI_small (by omega) (by omega)) ?_); intro w2 M2 g2; have dr2 := Below.mapped dr1 g2 sz1 (Nat.le_refl _); clear g2))
                    go_roundw
                    case rel =>
                      exact ⟨k + 1, _, by go_num, by omega, by go_num, HMS.out, M2.congr (fun z _ => by have h := cnt_rem (wat ps s (k + 1)) (y1, y2) z; rw [← HTL.out, HN1.out] at h; exact h), HA2.out, dr2⟩
                    case measure => simp [intOf]; omega
              · have hms := miss_rem_old (l := wat ps s (k + 1)) (x := (y1, y2)) (ds := ds) (.inl hy)
                rw [← HTL.out, hq] at hms
                have HMS := Lib.hid hms.symm; clear hms
                by_cases hx : (x1, x2) ∈ ds
                · have cl := cnt_le (wat ps s k) (x1, x2)
                  generalize hn0 : cnt (wat ps s k) (x1, x2) = n0 at cl
                  have HN0 := Lib.hid hn0
                  by_cases hz : n0 = 0
                  · have hq2 := miss_new HNd.out hx (hn0.trans hz)
                    rw [← HW.out, ← hmiss, hq] at hq2
                    subst hz
                    subst hq2
                    have HQ := Lib.hid hq; clear hn0 hmiss hq
                    go_wp2_with (first | (at_lookup; go_loud (refine wpc_in _ rfl _ _ rfl w.heap.size ds _ rfl (M.alloc _) (x1, x2) rfl hx ?_); rw [HN0.out]) | (at_mapUpdate; go_loud (refine wpc_put _ rfl _ _ _ rfl w.heap.size ds _ rfl (M.alloc _) (by unfold maxLen; omega) (x1, x2) 1 rfl rfl hx (okI_small (by omega) (by omega)) ?_; intro w1 M1 g1; have dr1 := Below.mapped (dr.alloc sz _) g1 (by simp; omega) (Nat.le_refl _); have sz1 := dr1.size; have M1 := M1.congr (g := cnt (wat ps s k ++ [(x1, x2)])) (fun z _ => by have h := cnt_add (wat ps s k) (x1, x2) z; rw [HN0.out] at h; exact h); rw [← HW.out] at M1; have f3 := (dr1.cell (p := ⟨b, off + a * 2, none⟩) hb).trans E3.out; have f4 := (dr1.cell (p := ⟨b, off + a * 2 + 1, none⟩) hb).trans E4.out; clear g1)) | (at_lookup; go_loud (refine wpc_out _ rfl _ _ rfl w.heap.size ds _ rfl M1 (y1, y2) rfl hy HOy.out ?_)))
                    go_roundw
                    case rel =>
                      exact ⟨k + 1, _, by go_num, by omega, by go_num, HMS.out, M1.congr (fun z hz => by rw [HTL.out]; exact cnt_out' _ _ hy z hz), HA2.out, dr1⟩
                    case measure => simp [intOf]; omega
                  · have hq2 := miss_old (l := wat ps s k) (x := (x1, x2)) (ds := ds) (.inr (by rw [hn0]; exact hz))
                    rw [← HW.out, ← hmiss, hq] at hq2
                    subst hq2
                    have HQ := Lib.hid hq; clear hn0 hmiss hq
                    go_wp2_with (first | (at_lookup; go_loud (refine wpc_in _ rfl _ _ rfl w.heap.size ds _ rfl (M.alloc _) (x1, x2) rfl hx ?_); rw [HN0.out]) | (at_mapUpdate; go_loud (refine wpc_put _ rfl _ _ _ rfl w.heap.size ds _ rfl (M.alloc _) (by unfold maxLen; omega) (x1, x2) (n0 + 1) rfl rfl hx (okI_small (by omega) (by omega)) ?_; intro w1 M1 g1; have dr1 := Below.mapped (dr.alloc sz _) g1 (by simp; omega) (Nat.le_refl _); have sz1 := dr1.size; have M1 := M1.congr (g := cnt (wat ps s k ++ [(x1, x2)])) (fun z _ => by have h := cnt_add (wat ps s k) (x1, x2) z; rw [HN0.out] at h; exact h); rw [← HW.out] at M1; have f3 := (dr1.cell (p := ⟨b, off + a * 2, none⟩) hb).trans E3.out; have f4 := (dr1.cell (p := ⟨b, off + a * 2 + 1, none⟩) hb).trans E4.out; clear g1)) | (at_lookup; go_loud (refine wpc_out _ rfl _ _ rfl w.heap.size ds _ rfl M1 (y1, y2) rfl hy HOy.out ?_)))
                    go_roundw
                    case rel =>
                      exact ⟨k + 1, _, by go_num, by omega, by go_num, HMS.out, M1.congr (fun z hz => by rw [HTL.out]; exact cnt_out' _ _ hy z hz), HA2.out, dr1⟩
                    case measure => simp [intOf]; omega
                · have hq2 := miss_old (l := wat ps s k) (x := (x1, x2)) (ds := ds) (.inl hx)
                  rw [← HW.out, ← hmiss, hq] at hq2
                  subst hq2
                  have HQ := Lib.hid hq; clear hmiss hq
                  have dr1 := dr.alloc sz (.cells #[.int .i64 x1, .int .i64 x2] 41)
                  have M1 := (M.alloc (.cells #[.int .i64 x1, .int .i64 x2] 41)).congr (cnt_out (wat ps s k) (x1, x2) hx)
                  rw [← HW.out] at M1
                  have sz1 := dr1.size
                  have f3 := (dr1.cell (p := ⟨b, off + a * 2, none⟩) hb).trans E3.out
                  have f4 := (dr1.cell (p := ⟨b, off + a * 2 + 1, none⟩) hb).trans E4.out
                  go_wp2_with (first | (at_lookup; go_loud (refine wpc_out _ rfl _ _ rfl w.heap.size ds _ rfl (M.alloc _) (x1, x2) rfl hx HO.out ?_)) | (at_lookup; go_loud (refine wpc_out _ rfl _ _ rfl w.heap.size ds _ rfl M1 (y1, y2) rfl hy HOy.out ?_)))
                  go_roundw
                  case rel =>
                    exact ⟨k + 1, _, by go_num, by omega, by go_num, HMS.out, M1.congr (fun z hz => by rw [HTL.out]; exact cnt_out' _ _ hy z hz), HA2.out, dr1⟩
                  case measure => simp [intOf]; omega
        · have hk' : k = n := by omega
          subst hk'
          have hu : unf ps need (s : Nat) = (0, false) := unf_none rfl hs1 (fun j hj => hall j (by omega))
          have HU := Lib.hid hu; clear hu hall
          go_wp2_with fail
          refine bodyPost_ret (v := .tuple #[.int .i64 0, .bool false]) (by simp [results, Try.results7, go_sem]) rfl ⟨by rw [HU.out]; rfl, dr⟩
end Go.Proofs.Ytiljihehbfnakaa
