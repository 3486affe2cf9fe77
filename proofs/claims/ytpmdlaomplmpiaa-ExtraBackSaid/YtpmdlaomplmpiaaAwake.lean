/- awake: the calls whose answers the document fixes. -/
import Derived.Test.YtpmdlaomplmpiaaRead
namespace Go.Proofs.Ytpmdlaomplmpiaa
open Go.ChangeShapes Go.WideShapes Go.ChangeAt Go.RowKit
set_option linter.unusedVariables false

theorem read_three (b off c : Nat) (w : World) (hc : w.cell? ⟨b, off, none⟩ = some (.int .u8 3)) :
    Calls Try.prog 7 #[.slice (some ⟨b, off, none⟩) 1 c] w fun e w' => e = .returned (.tuple #[.slice none 0 0, .int .i64 2]) ∧ Below w.heap.size w w' := by
  go_enter Try.func7, Try.ntmps7
  go_wp2_with fail
  go_step3
  go_wp2_with fail
  go_step3
  go_wp2_with fail
  go_loopw [4, 5] (fun v i wr => v = .slice none 0 0 ∧ i = .int .i64 0 ∧ wr = w) (fun _ i _ => 1 - (intOf i).toNat)
  case atStart => exact ⟨rfl, rfl, rfl⟩
  case round =>
    obtain ⟨rfl, rfl, rfl⟩ := hrel
    go_wp2_with fail
    simp only [Exit.noGoto]
    refine bodyPost_ret (v := .tuple #[.slice none 0 0, .int .i64 2]) (by simp [results, Try.results7, go_sem]) rfl ⟨rfl, Below.refl _ _⟩

/-- Find, where the second of two items is sought -/
theorem find_two (b off c b2 off2 m2 c2 : Nat) (A1 : Option Addr) (m1 c1 : Nat) (xs : List Int) (w : World) (h1 : w.cell? ⟨b, off, none⟩ = some (.int .u8 1)) (h2 : w.cell? ⟨b, off + 1, none⟩ = some (.slice A1 m1 c1)) (h3 : w.cell? ⟨b, off + 2, none⟩ = some (.int .u8 2)) (h4 : w.cell? ⟨b, off + 3, none⟩ = some (.slice (some ⟨b2, off2, none⟩) m2 c2)) (hb : b < w.heap.size)
    (hx : BytesAt w w.heap.size (some ⟨b2, off2, none⟩) m2 xs) (hm : 0 < m2) (hm2 : m2 ≤ 1000) :
    Calls Try.prog 11 #[.slice (some ⟨b, off, none⟩) 2 c, .int .u8 2] w fun e w' => (∃ v, e = .returned (.tuple #[v, .bool true]) ∧ w'.ownsRow w.heap.size 5 1 v m2 (xs.map (Value.int .u8))) ∧ Below w.heap.size w w' := by
  have HX := Lib.hid hx; clear hx
  go_enter Try.func11, Try.ntmps11
  go_wp2_with fail
  go_loopw [10] (fun i wr => ∃ k : Nat, i = .int .i64 k ∧ k ≤ 1 ∧ Below w.heap.size w wr) (fun i _ => 2 - (intOf i).toNat)
  case atStart => exact ⟨0, rfl, by omega, Below.refl _ _⟩
  case round =>
    obtain ⟨k, rfl, hk, dr⟩ := hrel
    have sz := dr.size
    have f1 := (dr.cell (p := ⟨b, off, none⟩) hb).trans h1
    have f2 := (dr.cell (p := ⟨b, off + 1, none⟩) hb).trans h2
    have f3 := (dr.cell (p := ⟨b, off + 2, none⟩) hb).trans h3
    have f4 := (dr.cell (p := ⟨b, off + 3, none⟩) hb).trans h4
    rcases Nat.lt_or_ge k 1 with h | h
    · have hk0 : k = 0 := by omega
      subst hk0
      go_wp2_with fail
      go_roundw
      case rel => exact ⟨1, by go_num, by omega, dr.alloc sz _⟩
      case measure => simp [intOf]
    · have hk0 : k = 1 := by omega
      subst hk0
      go_wp2_with fail
      refine (clone_any b2 off2 m2 c2 xs _ ((HX.out.below (dr.alloc sz _)).mono (by simp; omega)) hm hm2).mono ?_
      rintro e w1 ⟨v1, rfl, o1, b1⟩
      have dr1 := bl_after dr b1
      have o2 := own_mono (base' := w.heap.size) o1 (by simp; omega)
      clear o1 b1
      go_wp2_with fail
      refine bodyPost_ret (v := .tuple #[v1, .bool true]) (by simp [results, Try.results11, go_sem]) rfl ⟨⟨v1, rfl, o2⟩, dr1⟩

theorem bytes_blk {w : World} {g : Nat} {xs : List Int} {t : TypeId} (h : Blk w g t (xs.map (Value.int .u8)).toArray) (hx : ∀ x ∈ xs, 0 ≤ x ∧ x ≤ 255) : BytesAt w w.heap.size (some ⟨g, 0, none⟩) xs.length xs := by
  refine ⟨rfl, hx, fun _ => ⟨g, 0, rfl, h.lt, fun i hi => ?_⟩⟩
  rw [Nat.zero_add, h.cell, List.getElem?_toArray, List.getElem?_map, List.getD_eq_getElem?_getD, List.getElem?_eq_getElem hi]; rfl
theorem own_bytes {w : World} {base : Nat} {v : Value} {n : Nat} {xs : List Int} (h : w.ownsRow base 5 1 v n (xs.map (Value.int .u8))) (hx : ∀ x ∈ xs, 0 ≤ x ∧ x ≤ 255) : ∃ A c, v = .slice A n c ∧ n ≤ c ∧ c ≤ maxLen ∧ BytesAt w w.heap.size A n xs := by
  obtain ⟨A, c, e, hb⟩ := bytes_own h hx
  refine ⟨A, c, e, ?_, ?_, hb⟩
  · rcases h.2 with ⟨e', h0⟩ | ⟨g, cap, cur, e', _, _, q1, q2, _⟩
    · omega
    · rw [e'] at e; simp only [Value.slice.injEq] at e; omega
  · rcases h.2 with ⟨e', h0⟩ | ⟨g, cap, cur, e', _, _, q1, q2, _⟩
    · rw [e'] at e; simp only [Value.slice.injEq] at e; unfold maxLen; omega
    · rw [e'] at e; simp only [Value.slice.injEq] at e; omega
abbrev twoL : List It := [(1, [7]), (2, [8, 9])]
theorem items_two {w : World} {b b1 b2 c1 c2 : Nat} (h : Blk w b 37 #[.int .u8 1, .slice (some ⟨b1, 0, none⟩) 1 c1, .int .u8 2, .slice (some ⟨b2, 0, none⟩) 2 c2]) (r1 : BytesAt w w.heap.size (some ⟨b1, 0, none⟩) 1 [7]) (r2 : BytesAt w w.heap.size (some ⟨b2, 0, none⟩) 2 [8, 9]) (k1 : 1 ≤ c1) (k2 : 2 ≤ c2) (m1 : c1 ≤ maxLen) (m2 : c2 ≤ maxLen) : ItemsAt w w.heap.size (some ⟨b, 0, none⟩) 2 twoL := by
  refine ⟨rfl, by decide, fun _ => ⟨b, 0, rfl, h.lt, fun i hi => ?_⟩⟩
  rcases Nat.lt_or_ge i 1 with hi1 | hi1
  · have : i = 0 := by omega
    subst this
    exact ⟨_, 1, c1, by rw [h.cell]; rfl, by rw [h.cell]; rfl, k1, m1, r1⟩
  · have : i = 1 := by omega
    subst this
    exact ⟨_, 2, c2, by rw [h.cell]; rfl, by rw [h.cell]; rfl, k2, m2, r2⟩
theorem two_ok : okB twoL := ⟨by decide, by decide⟩
theorem two_enc : encB twoL = [16, 7, 33, 8, 9, 0, 0, 0] := by decide
theorem two_dec : decB 8 [16, 7, 33, 8, 9, 0, 0, 0] = some twoL := by decide

set_option maxHeartbeats 2000000 in
theorem awake_true (w : World) : Calls Try.prog 4 #[] w fun e w' => e = .returned (.bool true) ∧ Below w.heap.size w w' := by
  go_enter Try.func4, Try.ntmps4
  go_wp2_with fail
  have B1 := ((Blk.new w 5 #[.int .u8 7]).alloc (.cells #[.int .u8 8, .int .u8 9] 5)).alloc (.cells #[.int .u8 1, .slice (some ⟨w.heap.size, 0, none⟩) 1 1, .int .u8 2, .slice (some ⟨w.heap.size + 1, 0, none⟩) 2 2] 37)
  have B2 : Blk _ (w.heap.size + 1) 5 #[.int .u8 8, .int .u8 9] := (Blk.newAt (w.alloc (.cells #[.int .u8 7] 5)) 5 #[.int .u8 8, .int .u8 9] (w.heap.size + 1) (by simp)).alloc (.cells #[.int .u8 1, .slice (some ⟨w.heap.size, 0, none⟩) 1 1, .int .u8 2, .slice (some ⟨w.heap.size + 1, 0, none⟩) 2 2] 37)
  have B3 : Blk _ (w.heap.size + 1 + 1) 37 _ := Blk.newAt ((w.alloc (.cells #[.int .u8 7] 5)).alloc (.cells #[.int .u8 8, .int .u8 9] 5)) 37 #[.int .u8 1, .slice (some ⟨w.heap.size, 0, none⟩) 1 1, .int .u8 2, .slice (some ⟨w.heap.size + 1, 0, none⟩) 2 2] (w.heap.size + 1 + 1) (by simp)
  have dr0 : Below w.heap.size w (((w.alloc (.cells #[.int .u8 7] 5)).alloc (.cells #[.int .u8 8, .int .u8 9] 5)).alloc (.cells #[.int .u8 1, .slice (some ⟨w.heap.size, 0, none⟩) 1 1, .int .u8 2, .slice (some ⟨w.heap.size + 1, 0, none⟩) 2 2] 37)) := (((Below.refl _ w).alloc (Nat.le_refl _) _).alloc (by simp) _).alloc (by simp; omega) _
  generalize hW : ((w.alloc (.cells #[.int .u8 7] 5)).alloc (.cells #[.int .u8 8, .int .u8 9] 5)).alloc (.cells #[.int .u8 1, .slice (some ⟨w.heap.size, 0, none⟩) 1 1, .int .u8 2, .slice (some ⟨w.heap.size + 1, 0, none⟩) 2 2] 37) = W at B1 B2 B3 dr0 ⊢
  clear hW
  have I0 := items_two B3 (bytes_blk (xs := [7]) B1 (by decide)) (bytes_blk (xs := [8, 9]) B2 (by decide)) (by decide) (by decide) (by unfold maxLen; decide) (by unfold maxLen; decide)
  have d0 := bytes_blk (xs := [8, 9]) B2 (by decide)
  have f1 := B3.cell 0; have f2 := B3.cell 1; have f3 := B3.cell 2; have f4 := B3.cell 3
  simp at f1 f2 f3 f4
  have hb0 := B3.lt
  have hs0 := dr0.size
  clear B1 B2 B3
  refine (bytes_any _ 2 2 twoL W I0 (by decide) (by decide)).mono ?_
  rintro e w1 ⟨he, b1⟩
  rcases he with ⟨v1, rfl, _, o1⟩ | ⟨_, _, hno, _⟩
  rotate_left
  · exact absurd two_ok hno
  rw [two_enc] at o1
  obtain ⟨A1, c1, rfl, q1, q2, x1⟩ := own_bytes o1 (by decide)
  clear o1
  have dr1 := bl_step dr0 b1
  have I1 := (I0.below b1).mono b1.size
  have d1 := (d0.below b1).mono b1.size
  replace f1 := (b1.cell (p := ⟨_, 0, none⟩) hb0).trans f1; replace f2 := (b1.cell (p := ⟨_, 1, none⟩) hb0).trans f2; replace f3 := (b1.cell (p := ⟨_, 2, none⟩) hb0).trans f3; replace f4 := (b1.cell (p := ⟨_, 3, none⟩) hb0).trans f4
  have hb1 := Nat.lt_of_lt_of_le hb0 b1.size
  have hs1 := b1.size
  clear I0 d0 b1 dr0 hb0
  have HI1 := Lib.hid I1; have HD1 := Lib.hid d1; have HX1 := Lib.hid x1
  clear I1 d1 x1
  go_wp2_with fail
  refine (read_ok _ 8 _ _ _ HX1.out (by decide) q1 q2 8 (by decide) _ two_dec).mono ?_
  rintro e w2 ⟨⟨A2, c2, rfl, J2⟩, b2⟩
  have dr2 := bl_step dr1 b2
  have I2 := (HI1.out.below b2).mono b2.size
  have d2 := (HD1.out.below b2).mono b2.size
  have x2 := (HX1.out.below b2).mono b2.size
  replace f1 := (b2.cell (p := ⟨_, 0, none⟩) hb1).trans f1; replace f2 := (b2.cell (p := ⟨_, 1, none⟩) hb1).trans f2; replace f3 := (b2.cell (p := ⟨_, 2, none⟩) hb1).trans f3; replace f4 := (b2.cell (p := ⟨_, 3, none⟩) hb1).trans f4
  have hb2 := Nat.lt_of_lt_of_le hb1 b2.size
  clear b2 dr1 hb1 HI1 HD1 HX1
  have HI2 := Lib.hid I2; have HD2 := Lib.hid d2; have HX2 := Lib.hid x2; have HJ2 := Lib.hid J2
  clear I2 d2 x2 J2
  go_wp2_with fail
  refine (find_two _ 0 2 _ 0 2 2 _ 1 1 [8, 9] w2 f1 f2 f3 f4 hb2 HD2.out (by decide) (by decide)).mono ?_
  rintro e w3 ⟨⟨v3, rfl, o3⟩, b3⟩
  obtain ⟨A3, c3, rfl, _, _, y3⟩ := own_bytes o3 (by decide)
  have dr3 := bl_step dr2 b3
  have HI3 := Lib.hid ((HI2.out.below b3).mono b3.size)
  have HX3 := Lib.hid ((HX2.out.below b3).mono b3.size)
  have HJ3 := Lib.hid ((HJ2.out.below b3).mono b3.size)
  have HY3 := Lib.hid y3
  have hs3 := dr3.size
  clear o3 b3 dr2 HI2 HX2 HJ2 HD2 y3 f1 f2 f3 f4 hb2
  go_wp2_with fail
  refine (read_three _ _ _ _ (by simp [go_sem])).mono ?_
  rintro e w4 ⟨rfl, b4⟩
  have B4 := Below.trans ((Below.refl w3.heap.size w3).alloc (Nat.le_refl _) (.cells #[.int .u8 3] 5)) (b4.mono (by simp))
  clear b4
  have dr4 := bl_step dr3 B4
  have HI4 := Lib.hid ((HI3.out.below B4).mono B4.size)
  have HX4 := Lib.hid ((HX3.out.below B4).mono B4.size)
  have HJ4 := Lib.hid ((HJ3.out.below B4).mono B4.size)
  have HY4 := Lib.hid ((HY3.out.below B4).mono B4.size)
  clear B4 dr3 HI3 HX3 HJ3 HY3
  have hs4 := dr4.size
  go_wp2_with fail
  have Z := Blk.new w4 5 #[.int .u8 16, .int .u8 7, .int .u8 33, .int .u8 8, .int .u8 9, .int .u8 0, .int .u8 0, .int .u8 0]
  have b5 := (Below.refl w4.heap.size w4).alloc (Nat.le_refl _) (.cells #[.int .u8 16, .int .u8 7, .int .u8 33, .int .u8 8, .int .u8 9, .int .u8 0, .int .u8 0, .int .u8 0] 5)
  have z := bytes_blk (xs := [16, 7, 33, 8, 9, 0, 0, 0]) Z (by decide)
  refine (same1_any _ _ 8 8 _ _ [16, 7, 33, 8, 9, 0, 0, 0] [16, 7, 33, 8, 9, 0, 0, 0] _ ((HX4.out.below b5).mono b5.size) z (by decide)).mono ?_
  rintro e w5 ⟨rfl, j5, rfl⟩
  have b6 := bl_drewN' b5 j5
  have dr5 := bl_step dr4 b6
  have HI5 := Lib.hid ((HI4.out.below b6).mono b6.size)
  have HJ5 := Lib.hid ((HJ4.out.below b6).mono b6.size)
  have HY5 := Lib.hid ((HY4.out.below b6).mono b6.size)
  clear HI4 HX4 HJ4 HY4 dr4 z Z b5
  generalize hW5 : World.drewN _ j5 = w5 at b6 dr5 HI5 HJ5 HY5 ⊢
  clear hW5 b6
  have hs5 := dr5.size
  go_wp2_with fail
  refine (own_any _ 2 _ _ _ HJ5.out (by decide)).mono ?_
  rintro e w6 ⟨⟨A6, c6, rfl, k6⟩, b6⟩
  have dr6 := bl_step dr5 b6
  have HI6 := Lib.hid ((HI5.out.below b6).mono b6.size)
  have HY6 := Lib.hid ((HY5.out.below b6).mono b6.size)
  have HK6 := Lib.hid k6
  clear HI5 HJ5 HY5 dr5 b6 k6
  go_wp2_with fail
  refine (own_any _ 2 _ _ _ HI6.out (by decide)).mono ?_
  rintro e w7 ⟨⟨A7, c7, rfl, k7⟩, b7⟩
  have dr7 := bl_step dr6 b7
  have HY7 := Lib.hid ((HY6.out.below b7).mono b7.size)
  have HK7 := Lib.hid ((HK6.out.below b7).mono b7.size)
  have HL7 := Lib.hid k7
  clear HI6 HY6 HK6 dr6 b7 k7
  go_wp2_with fail
  refine (same_any _ _ 2 2 _ _ _ _ _ HK7.out HL7.out (by decide) (by decide)).mono ?_
  rintro e w8 ⟨rfl, b8⟩
  have dr8 := bl_step dr7 b8
  have HY8 := Lib.hid ((HY7.out.below b8).mono b8.size)
  clear HY7 HK7 HL7 dr7 b8
  have hs8 := dr8.size
  go_wp2_with fail
  have Z9 := Blk.new w8 5 #[.int .u8 8, .int .u8 9]
  have b9 := (Below.refl w8.heap.size w8).alloc (Nat.le_refl _) (.cells #[.int .u8 8, .int .u8 9] 5)
  refine (same1_any _ _ 2 2 _ _ [8, 9] [8, 9] _ ((HY8.out.below b9).mono b9.size) (bytes_blk (xs := [8, 9]) Z9 (by decide)) (by decide)).mono ?_
  rintro e w9 ⟨rfl, j9, rfl⟩
  have dr9 := bl_step dr8 (bl_drewN' b9 j9)
  clear HY8 dr8 b9 Z9
  go_wp2_with fail
  go_ret
  exact ⟨rfl, dr9⟩
end Go.Proofs.Ytpmdlaomplmpiaa
