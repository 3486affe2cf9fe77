/- FairTells: the walk. -/
import Derived.Test.YtiljihehbfnakaaAwake
namespace Go.Proofs.Ytiljihehbfnakaa
open Go.ChangeShapes Go.WideShapes Go.ChangeAt Go.RowKit
set_option linter.unusedVariables false

theorem unfR_mk (a : Nat) (b : Bool) : unfR (a, b) = .returned (.tuple #[.int .i64 a, .bool b]) := rfl
theorem drewn_below {w w' : World} (h : ∃ j, w' = w.drewN j) : Below w.heap.size w w' := by
  obtain ⟨j, rfl⟩ := h; exact bl_drewN' (Below.refl _ _) j
theorem ends_in {n : Int} (h1 : 1 ≤ n) (h2 : n ≤ 1000) : endsI n = (5 * n, 0) := by simp [endsI, inB, h1, h2]
theorem ends_out {n : Int} (h : ¬ (1 ≤ n ∧ n ≤ 1000)) : endsI n = (0, 1) := by
  unfold endsI inB; rw [if_neg (by simpa using h)]

set_option maxHeartbeats 2000000 in
theorem tells_walk (A0 A1 A2 : Option Addr) (n0 n1 n2 c0 c1 c2 : Nat) (subs : List Int) (ps need : List Wk) (size room hold : Int) (w : World) (h0 : IntAt w w.heap.size A0 n0 subs) (h1 : WkAt w w.heap.size A1 n1 ps) (h2 : WkAt w w.heap.size A2 n2 need) (hsz : okI size) :
    Calls Try.prog 3 #[.slice A0 n0 c0, .slice A1 n1 c1, .slice A2 n2 c2, .int .i64 size, .int .i64 room, .int .i64 hold] w fun e w' => e = .returned (.bool true) ∧ Below w.heap.size w w' := by
  have H0 := Lib.hid h0; have H1 := Lib.hid h1; have H2 := Lib.hid h2
  clear h0 h1 h2
  go_enter Try.func3, Try.ntmps3
  go_wp2_with fail
  refine (awake_true w).mono ?_
  rintro e w1 ⟨rfl, b1⟩
  by_cases k0 : 80 < n0
  · go_wp2_with fail
    go_ret
    exact ⟨rfl, b1⟩
  by_cases k1 : 80 < n1
  · go_wp2_with fail
    go_ret
    exact ⟨rfl, b1⟩
  by_cases k2 : 80 < n2
  · go_wp2_with fail
    go_ret
    exact ⟨rfl, b1⟩
  have G0 := Lib.hid ((H0.out.below b1).mono b1.size); have G1 := Lib.hid ((H1.out.below b1).mono b1.size); have G2 := Lib.hid ((H2.out.below b1).mono b1.size)
  clear H0 H1 H2
  have dr1 := b1
  clear b1
  go_wp2_with fail
  refine (unfair_any _ _ n1 n2 _ _ ps need size _ G1.out G2.out (by omega) (by omega) hsz).mono ?_
  generalize hr : unf ps need size = r
  obtain ⟨a, b⟩ := r
  have HR := Lib.hid hr; clear hr
  rw [unfR_mk]
  rintro e w2 ⟨rfl, b2⟩
  have dr2 := bl_step dr1 b2
  have H0 := Lib.hid ((G0.out.below b2).mono b2.size); have H1 := Lib.hid ((G1.out.below b2).mono b2.size); have H2 := Lib.hid ((G2.out.below b2).mono b2.size)
  clear G0 G1 G2 dr1 b2
  go_wp2_with fail
  refine (own_any _ n1 _ ps _ H1.out (by omega)).mono ?_
  rintro e w3 ⟨⟨B1, d1, rfl, q1, q2, k3⟩, b3⟩
  have dr3 := bl_step dr2 b3
  have G0 := Lib.hid ((H0.out.below b3).mono b3.size); have G2 := Lib.hid ((H2.out.below b3).mono b3.size); have G1 := Lib.hid k3
  clear H0 H1 H2 dr2 b3 k3
  go_wp2_with fail
  refine (own_any _ n2 _ need _ G2.out (by omega)).mono ?_
  rintro e w4 ⟨⟨B2, d2, rfl, _, _, k4⟩, b4⟩
  have dr4 := bl_step dr3 b4
  have H0 := Lib.hid ((G0.out.below b4).mono b4.size); have H1 := Lib.hid ((G1.out.below b4).mono b4.size); have H2 := Lib.hid k4
  clear G0 G1 G2 dr3 b4 k4
  go_wp2_with fail
  refine (runfair_any _ _ n1 n2 _ _ ps need size _ H1.out H2.out (by omega) (by omega) q1 q2 hsz).mono ?_
  rw [HR.out, unfR_mk]
  rintro e w5 ⟨rfl, b5⟩
  have dr5 := bl_step dr4 b5
  have G0 := Lib.hid ((H0.out.below b5).mono b5.size)
  clear H0 H1 H2 dr4 b5
  go_wp2_with fail
  refine (drains_any size room hold _).mono ?_
  generalize hd : drainsI size room hold = d
  obtain ⟨x, y⟩ := d
  have HD := Lib.hid hd; clear hd
  rintro e w6 ⟨rfl, b6⟩
  have b6 := drewn_below b6
  have dr6 := bl_step dr5 b6
  have H0 := Lib.hid ((G0.out.below b6).mono b6.size)
  clear G0 dr5 b6
  go_wp2_with fail
  refine (rdrains_any size room hold _).mono ?_
  rw [HD.out]
  rintro e w7 ⟨rfl, b7⟩
  have b7 := drewn_below b7
  have dr7 := bl_step dr6 b7
  have G0 := Lib.hid ((H0.out.below b7).mono b7.size)
  clear H0 dr6 b7
  go_wp2_with fail
  refine (ends_any size _).mono ?_
  rcases (show (1 ≤ size ∧ size ≤ 1000) ∨ size < 1 ∨ 1000 < size from by omega) with ⟨i1, i2⟩ | i1 | i1
  · rw [ends_in i1 i2]
    rintro e w8 ⟨rfl, b8⟩
    have b8 := drewn_below b8
    have dr8 := bl_step dr7 b8
    have H0 := Lib.hid ((G0.out.below b8).mono b8.size)
    clear G0 dr7 b8
    go_wp2_with fail
    refine (workers_any _ n0 _ subs _ H0.out (by omega)).mono ?_
    rintro e w9 ⟨⟨B3, m3, d3, rfl, _, _, k9⟩, b9⟩
    have dr9 := bl_step dr8 b9
    have hm3 : m3 ≤ 100 := by have := k9.1; have := (wl_len (inP subs) 6).1; omega
    have G0 := Lib.hid ((H0.out.below b9).mono b9.size); have G1 := Lib.hid k9
    clear H0 dr8 b9 k9
    go_wp2_with fail
    refine (own_any _ m3 _ _ _ G1.out (by omega)).mono ?_
    rintro e w10 ⟨⟨B4, d4, rfl, _, _, k10⟩, b10⟩
    have dr10 := bl_step dr9 b10
    have H0 := Lib.hid ((G0.out.below b10).mono b10.size); have H1 := Lib.hid k10
    clear G0 G1 dr9 b10 k10
    go_wp2_with fail
    refine (rworkers_any _ n0 _ subs _ H0.out (by omega)).mono ?_
    rintro e w11 ⟨⟨B5, m5, d5, rfl, _, _, k11⟩, b11⟩
    have dr11 := bl_step dr10 b11
    have G1 := Lib.hid ((H1.out.below b11).mono b11.size); have G2 := Lib.hid k11
    clear H0 H1 dr10 b11 k11
    go_wp2_with fail
    refine (same_any _ _ m3 m5 _ _ _ _ _ G1.out G2.out (by omega)).mono ?_
    rw [show decide (wl (inP subs) 6 = wl (inP subs) 6) = true from by simp]
    rintro e w12 ⟨rfl, b12⟩
    have dr12 := bl_step dr11 (drewn_below b12)
    clear G1 G2 dr11 b12
    go_wp2_with fail
    go_ret
    exact ⟨rfl, dr12⟩
  · rw [ends_out (by omega)]
    rintro e w8 ⟨rfl, b8⟩
    have b8 := drewn_below b8
    have dr8 := bl_step dr7 b8
    have H0 := Lib.hid ((G0.out.below b8).mono b8.size)
    clear G0 dr7 b8
    go_wp2_with fail
    refine (workers_any _ n0 _ subs _ H0.out (by omega)).mono ?_
    rintro e w9 ⟨⟨B3, m3, d3, rfl, _, _, k9⟩, b9⟩
    have dr9 := bl_step dr8 b9
    have hm3 : m3 ≤ 100 := by have := k9.1; have := (wl_len (inP subs) 6).1; omega
    have G0 := Lib.hid ((H0.out.below b9).mono b9.size); have G1 := Lib.hid k9
    clear H0 dr8 b9 k9
    go_wp2_with fail
    refine (own_any _ m3 _ _ _ G1.out (by omega)).mono ?_
    rintro e w10 ⟨⟨B4, d4, rfl, _, _, k10⟩, b10⟩
    have dr10 := bl_step dr9 b10
    have H0 := Lib.hid ((G0.out.below b10).mono b10.size); have H1 := Lib.hid k10
    clear G0 G1 dr9 b10 k10
    go_wp2_with fail
    refine (rworkers_any _ n0 _ subs _ H0.out (by omega)).mono ?_
    rintro e w11 ⟨⟨B5, m5, d5, rfl, _, _, k11⟩, b11⟩
    have dr11 := bl_step dr10 b11
    have G1 := Lib.hid ((H1.out.below b11).mono b11.size); have G2 := Lib.hid k11
    clear H0 H1 dr10 b11 k11
    go_wp2_with fail
    refine (same_any _ _ m3 m5 _ _ _ _ _ G1.out G2.out (by omega)).mono ?_
    rw [show decide (wl (inP subs) 6 = wl (inP subs) 6) = true from by simp]
    rintro e w12 ⟨rfl, b12⟩
    have dr12 := bl_step dr11 (drewn_below b12)
    clear G1 G2 dr11 b12
    go_wp2_with fail
    go_ret
    exact ⟨rfl, dr12⟩
  · rw [ends_out (by omega)]
    rintro e w8 ⟨rfl, b8⟩
    have b8 := drewn_below b8
    have dr8 := bl_step dr7 b8
    have H0 := Lib.hid ((G0.out.below b8).mono b8.size)
    clear G0 dr7 b8
    go_wp2_with fail
    refine (workers_any _ n0 _ subs _ H0.out (by omega)).mono ?_
    rintro e w9 ⟨⟨B3, m3, d3, rfl, _, _, k9⟩, b9⟩
    have dr9 := bl_step dr8 b9
    have hm3 : m3 ≤ 100 := by have := k9.1; have := (wl_len (inP subs) 6).1; omega
    have G0 := Lib.hid ((H0.out.below b9).mono b9.size); have G1 := Lib.hid k9
    clear H0 dr8 b9 k9
    go_wp2_with fail
    refine (own_any _ m3 _ _ _ G1.out (by omega)).mono ?_
    rintro e w10 ⟨⟨B4, d4, rfl, _, _, k10⟩, b10⟩
    have dr10 := bl_step dr9 b10
    have H0 := Lib.hid ((G0.out.below b10).mono b10.size); have H1 := Lib.hid k10
    clear G0 G1 dr9 b10 k10
    go_wp2_with fail
    refine (rworkers_any _ n0 _ subs _ H0.out (by omega)).mono ?_
    rintro e w11 ⟨⟨B5, m5, d5, rfl, _, _, k11⟩, b11⟩
    have dr11 := bl_step dr10 b11
    have G1 := Lib.hid ((H1.out.below b11).mono b11.size); have G2 := Lib.hid k11
    clear H0 H1 dr10 b11 k11
    go_wp2_with fail
    refine (same_any _ _ m3 m5 _ _ _ _ _ G1.out G2.out (by omega)).mono ?_
    rw [show decide (wl (inP subs) 6 = wl (inP subs) 6) = true from by simp]
    rintro e w12 ⟨rfl, b12⟩
    have dr12 := bl_step dr11 (drewn_below b12)
    clear G1 G2 dr11 b12
    go_wp2_with fail
    go_ret
    exact ⟨rfl, dr12⟩
end Go.Proofs.Ytiljihehbfnakaa
