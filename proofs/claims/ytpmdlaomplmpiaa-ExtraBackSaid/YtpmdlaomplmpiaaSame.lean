/- The two Sames: are bytes the same, are items the same. -/
import Derived.Test.YtpmdlaomplmpiaaWalks
namespace Go.Proofs.Ytpmdlaomplmpiaa
open Go.ChangeShapes Go.WideShapes Go.ChangeAt Go.RowKit
set_option linter.unusedVariables false

theorem getD_ext {α : Type} {d : α} : ∀ {l m : List α}, l.length = m.length → (∀ i, i < l.length → l.getD i d = m.getD i d) → l = m := by
  intro l m h hi
  refine List.ext_getElem h fun i h1 h2 => ?_
  have := hi i h1
  simpa [List.getD_eq_getElem?_getD, List.getElem?_eq_getElem h1, List.getElem?_eq_getElem h2] using this

theorem BytesAt.mono {w : World} {B B' : Nat} {A : Option Addr} {n : Nat} {xs : List Int} (h : BytesAt w B A n xs) (hB : B ≤ B') : BytesAt w B' A n xs := h.keep (fun _ _ _ => rfl) hB
theorem ItemsAt.mono {w : World} {B B' : Nat} {A : Option Addr} {n : Nat} {l : List It} (h : ItemsAt w B A n l) (hB : B ≤ B') : ItemsAt w B' A n l := h.keep (fun _ _ _ => rfl) hB
structure BA (w : World) (B : Nat) (A : Option Addr) (n : Nat) (xs : List Int) : Prop where
  out : BytesAt w B A n xs
@[simp, go_sem] theorem BA_drew {w : World} {B : Nat} {A : Option Addr} {n : Nat} {xs : List Int} : BA w.drew B A n xs ↔ BA w B A n xs := ⟨fun h => ⟨h.out⟩, fun h => ⟨h.out⟩⟩
@[simp, go_sem] theorem BA_drewN {w : World} {B q : Nat} {A : Option Addr} {n : Nat} {xs : List Int} : BA (w.drewN q) B A n xs ↔ BA w B A n xs := ⟨fun h => ⟨h.out⟩, fun h => ⟨h.out⟩⟩
theorem BA.mono1 {w : World} {B : Nat} {A : Option Addr} {n : Nat} {xs : List Int} (h : BA w B A n xs) (hB : B ≤ w.heap.size) : BytesAt w w.heap.size A n xs := h.out.mono hB
theorem same1_any (A A' : Option Addr) (n n' c c' : Nat) (xs ys : List Int) (w : World) (h : BytesAt w w.heap.size A n xs) (h' : BytesAt w w.heap.size A' n' ys) (hm : n ≤ 1000) :
    Calls Try.prog 10 #[.slice A n c, .slice A' n' c'] w fun e w' => e = .returned (.bool (decide (xs = ys))) ∧ ∃ j, w' = w.drewN j := by
  obtain ⟨hl, hx, hc⟩ := h
  obtain ⟨hl', hx', hc'⟩ := h'
  by_cases hn : n = n'
  · subst hn
    go_enter Try.func10, Try.ntmps10
    go_wp2_with fail
    go_loopw [5] (fun i wr => ∃ k : Nat, i = .int .i64 k ∧ k ≤ n ∧ (∀ j, j < k → xs.getD j 0 = ys.getD j 0) ∧ ∃ q, wr = w.drewN q) (fun i _ => n - (intOf i).toNat)
    case atStart => exact ⟨0, rfl, by omega, fun j hj => absurd hj (by omega), 0, rfl⟩
    case round =>
      rename_i wr
      obtain ⟨k, rfl, hk, hs, q, rfl⟩ := hrel
      by_cases hlt : k < n
      · obtain ⟨b, off, rfl, hb, hcell⟩ := hc (by omega)
        obtain ⟨b', off', rfl, hb', hcell'⟩ := hc' (by omega)
        have e1 := hcell k hlt
        have e2 := hcell' k hlt
        have HS := Lib.hid hs
        obtain ⟨x, hxk⟩ : ∃ x, x = xs.getD k 0 := ⟨_, rfl⟩
        obtain ⟨y, hyk⟩ : ∃ y, y = ys.getD k 0 := ⟨_, rfl⟩
        rw [← hxk] at e1
        rw [← hyk] at e2
        have HX := Lib.hid hxk; have HY := Lib.hid hyk
        clear hs hcell hcell' hc hc' hxk hyk
        by_cases hxy : x = y
        · go_wp2_with fail
          go_region
          go_wp2_with fail
          go_roundw
          case rel =>
            refine ⟨k + 1, by go_num, by omega, fun j hj => ?_, _, rfl⟩
            rcases Nat.lt_or_ge j k with hj' | hj'
            · exact HS.out j hj'
            · have : j = k := by omega
              subst this
              rw [← HX.out, ← HY.out, hxy]
          case measure => simp [intOf]; omega
        · go_wp2_with fail
          go_region
          go_wp2_with fail
          go_ret
          refine ⟨?_, _, rfl⟩
          have hL : decide (xs = ys) = false := by
            simp only [decide_eq_false_iff_not]; rintro rfl; exact hxy (by rw [HX.out, HY.out])
          rw [hL]; rfl
      · have hk' : k = n := by omega
        subst hk'
        have hL : xs = ys := getD_ext (by omega) (fun i hi => hs i (by omega))
        have HL := Lib.hid hL; clear hL hs
        go_wp2_with fail
        go_ret
        exact ⟨by rw [HL.out]; simp, q, rfl⟩
  · have hL : decide (xs = ys) = false := by
      simp only [decide_eq_false_iff_not]; rintro rfl; omega
    go_enter Try.func10, Try.ntmps10
    go_wp2_with fail
    go_ret
    exact ⟨by rw [hL]; rfl, 0, rfl⟩

theorem getD_len {l : List It} {k : Nat} (hk : k < l.length) : l.getD k (0, []) ∈ l := by
  rw [List.getD_eq_getElem?_getD, List.getElem?_eq_getElem hk]; exact List.getElem_mem hk

set_option maxHeartbeats 1000000 in
theorem same_any (A A' : Option Addr) (n n' c c' : Nat) (l m : List It) (w : World) (h : ItemsAt w w.heap.size A n l) (h' : ItemsAt w w.heap.size A' n' m) (hn0 : n ≤ 1000) (hd : ∀ x ∈ l, x.2.length ≤ 1000) :
    Calls Try.prog 8 #[.slice A n c, .slice A' n' c'] w fun e w' => e = .returned (.bool (decide (l = m))) ∧ Below w.heap.size w w' := by
  obtain ⟨hl, hx, hc⟩ := h
  obtain ⟨hl', hx', hc'⟩ := h'
  by_cases hn : n = n'
  · subst hn
    go_enter Try.func8, Try.ntmps8
    go_wp2_with fail
    go_loopw [5] (fun i wr => ∃ k : Nat, i = .int .i64 k ∧ k ≤ n ∧ (∀ j, j < k → l.getD j (0, []) = m.getD j (0, [])) ∧ Below w.heap.size w wr) (fun i _ => n - (intOf i).toNat)
    case atStart => exact ⟨0, rfl, by omega, fun j hj => absurd hj (by omega), Below.refl _ _⟩
    case round =>
      rename_i wr
      obtain ⟨k, rfl, hk, hs, dr⟩ := hrel
      by_cases hlt : k < n
      · obtain ⟨b, off, rfl, hb, hcell⟩ := hc (by omega)
        obtain ⟨b', off', rfl, hb', hcell'⟩ := hc' (by omega)
        obtain ⟨a, p, c1, e1, e2, e3, e4, e5⟩ := hcell k hlt
        obtain ⟨a', p', c1', e1', e2', e3', e4', e5'⟩ := hcell' k hlt
        have f1 := (dr.cell (p := ⟨b, off + k * 2, none⟩) hb).trans e1
        have f2 := (dr.cell (p := ⟨b, off + k * 2 + 1, none⟩) hb).trans e2
        have f1' := (dr.cell (p := ⟨b', off' + k * 2, none⟩) hb').trans e1'
        have f2' := (dr.cell (p := ⟨b', off' + k * 2 + 1, none⟩) hb').trans e2'
        have r : BA wr w.heap.size a p _ := ⟨e5.below dr⟩
        have r' : BA wr w.heap.size a' p' _ := ⟨e5'.below dr⟩
        have hp : p ≤ 1000 := by have := hd _ (getD_len (l := l) (k := k) (by omega)); have := e5.1; omega
        obtain ⟨x, hxk⟩ : ∃ x, x = l.getD k (0, []) := ⟨_, rfl⟩
        obtain ⟨y, hyk⟩ : ∃ y, y = m.getD k (0, []) := ⟨_, rfl⟩
        rw [← hxk] at f1 r
        rw [← hyk] at f1' r'
        have HS := Lib.hid hs; have HX := Lib.hid hxk; have HY := Lib.hid hyk
        clear hs hcell hcell' hc hc' hxk hyk e1 e2 e5 e1' e2' e5' hx hx' hd
        obtain ⟨xn, xd⟩ := x
        obtain ⟨yn, yd⟩ := y
        simp only at f1 f1' r r'
        have sz := dr.size
        by_cases hxy : xn = yn
        · subst hxy
          go_wp2_with fail
          go_region_held3 (fun W => W.cell? ⟨b, off + k * 2, none⟩ = some (.int .u8 xn) ∧ W.cell? ⟨b, off + k * 2 + 1, none⟩ = some (.slice a p c1) ∧ W.cell? ⟨b', off' + k * 2, none⟩ = some (.int .u8 xn) ∧ W.cell? ⟨b', off' + k * 2 + 1, none⟩ = some (.slice a' p' c1') ∧ BA W w.heap.size a p xd ∧ BA W w.heap.size a' p' yd ∧ w.heap.size ≤ W.heap.size) (simp [go_sem, *]) (first | (go_at_call 10; refine (same1_any _ _ _ _ _ _ xd yd _ (by exact r.out.mono sz) (by exact r'.out.mono sz) hp).mono ?_; rintro e w' ⟨rfl, j, rfl⟩))
          all_goals
            cases hq : decide (xd = yd)
            · go_wp2_with fail
              go_ret
              refine ⟨?_, by first | exact dr | exact dr.drew | exact bl_drewN' dr _⟩
              have hL : decide (l = m) = false := by
                simp only [decide_eq_false_iff_not] at hq ⊢
                rintro rfl; exact hq (congrArg Prod.snd (HX.out.trans HY.out.symm))
              rw [hL]; rfl
            · go_wp2_with fail
              go_roundw
              case rel =>
                refine ⟨k + 1, by go_num, by omega, fun j hj => ?_, by first | exact dr | exact dr.drew | exact bl_drewN' dr _⟩
                rcases Nat.lt_or_ge j k with hj' | hj'
                · exact HS.out j hj'
                · have : j = k := by omega
                  subst this
                  rw [← HX.out, ← HY.out, of_decide_eq_true hq]
              case measure => simp [intOf]; omega
        · have hxc : (xn == yn) = false := by simp; omega
          go_wp2_with fail
          go_quiet (fail)
          go_wp2_with fail
          go_ret
          refine ⟨?_, by first | exact dr | exact dr.drew | exact bl_drewN' dr _⟩
          have hL : decide (l = m) = false := by
            simp only [decide_eq_false_iff_not]
            rintro rfl; exact hxy (congrArg Prod.fst (HX.out.trans HY.out.symm))
          rw [hL]; rfl
      · have hk' : k = n := by omega
        subst hk'
        have hL : l = m := getD_ext (by omega) (fun i hi => hs i (by omega))
        have HL := Lib.hid hL; clear hL hs
        go_wp2_with fail
        go_ret
        exact ⟨by rw [HL.out]; simp, dr⟩
  · have hL : decide (l = m) = false := by
      simp only [decide_eq_false_iff_not]; rintro rfl; omega
    go_enter Try.func8, Try.ntmps8
    go_wp2_with fail
    go_ret
    exact ⟨by rw [hL]; rfl, Below.refl _ _⟩
end Go.Proofs.Ytpmdlaomplmpiaa
