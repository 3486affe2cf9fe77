/- FairWider: the walk. -/
import Derived.Test.YtiljihehbfnakaaTurns
namespace Go.Proofs.Ytiljihehbfnakaa
open Go.ChangeShapes Go.WideShapes Go.ChangeAt Go.RowKit
set_option linter.unusedVariables false

theorem u8_nat {t : Int} (ht : (Lit.int .u8 t).wf = true) : ∃ k : Nat, t = k ∧ k ≤ 255 := by
  have ht' : 0 ≤ t ∧ t ≤ 255 := by simp [Lit.wf, IntKind.min, IntKind.max, IntKind.signed, IntKind.bits] at ht; omega
  exact ⟨t.toNat, by omega, by omega⟩

set_option maxHeartbeats 4000000 in
set_option maxRecDepth 20000 in
theorem wider_walk (A A' : Option Addr) (n n' c c' : Nat) (ps need : List Wk) (size more f t : Int) (w : World) (h : WkAt w w.heap.size A n ps) (h' : WkAt w w.heap.size A' n' need) (hnc : n ≤ c) (hnc' : n' ≤ c')
    (hsz : (Lit.int .u8 size).wf = true) (hmo : (Lit.int .u8 more).wf = true) (hf : (Lit.int .u8 f).wf = true) (ht : (Lit.int .u8 t).wf = true) :
    Calls Try.prog 5 #[.slice A n c, .slice A' n' c', .int .u8 size, .int .u8 more, .int .u8 f, .int .u8 t] w fun e w' => e = .returned (.bool true) ∧ Below w.heap.size w w' := by
  obtain ⟨s, rfl, s255⟩ := u8_nat hsz
  obtain ⟨mo, rfl, m255⟩ := u8_nat hmo
  obtain ⟨f, rfl, f255⟩ := u8_nat hf
  obtain ⟨t, rfl, t255⟩ := u8_nat ht
  have hl := h.1
  have hl' := h'.1
  have H0 := Lib.hid h; have H1 := Lib.hid h'; have HL := Lib.hid hl; have HL' := Lib.hid hl'
  clear h h' hsz hmo hf ht hl hl'
  go_enter Try.func5, Try.ntmps5
  go_wp2_with fail
  refine (awake_true w).mono ?_
  rintro e w1 ⟨rfl, dr1⟩
  by_cases k0 : 80 < n
  · go_wp2_with fail
    go_ret
    exact ⟨rfl, dr1⟩
  by_cases k1 : 80 < n'
  · go_wp2_with fail
    go_ret
    exact ⟨rfl, dr1⟩
  by_cases k2 : s = 0
  · subst k2
    go_wp2_with fail
    go_ret
    exact ⟨rfl, dr1⟩
  have k2' : ((s : Int) == 0) = false := by simp; omega
  by_cases k3 : t < f
  · go_wp2_with fail
    go_ret
    exact ⟨rfl, dr1⟩
  by_cases k4 : n < t
  · go_wp2_with fail
    go_ret
    exact ⟨rfl, dr1⟩
  have G0 := Lib.hid ((H0.out.below dr1).mono dr1.size); have G1 := Lib.hid ((H1.out.below dr1).mono dr1.size)
  have hs1 : 1 ≤ s := by omega
  clear H0 H1
  go_wp2_with fail
  refine (unfair_any _ _ n n' _ _ ps need s _ G0.out G1.out (by omega) (by omega) (okI_small (by omega) (by omega))).mono ?_
  rcases unf_cases ps need hs1 with ⟨a, hu, ha, hlk, hbe⟩ | ⟨hu, hno⟩
  · rw [hu, unfR_mk]
    rintro e w2 ⟨rfl, b2⟩
    have dr2 := bl_step dr1 b2
    have has : a + s ≤ n := by have := HL.out; omega
    have e1 := alone_law hs1 ha hlk
    have e2 := ahead_law hs1 ha hbe
    have P0 := Lib.hid ((G0.out.below b2).mono b2.size); have P1 := Lib.hid ((G1.out.below b2).mono b2.size)
    have E1 := Lib.hid e1; have E2 := Lib.hid e2
    obtain ⟨b, off, rfl, _, _⟩ := P0.out.2.2 (by omega)
    have hrun := slice_run 23 (.inr rfl) b off n c a s hs1 (by omega)
    have hrun2 := slice_to 23 (.inr rfl) (some ⟨b, off, none⟩) n c (a + s - 1) (by omega)
    have hcast : (a : Int) + (s : Int) - 1 = ((a + s - 1 : Nat) : Int) := by omega
    have kk : ¬ (n : Int) < (a : Int) + (s : Int) := by omega
    clear G0 G1 dr1 b2 hu ha hlk hbe e1 e2
    go_wp2_with fail
    refine (unfair_any _ _ s n' _ _ (win ps a s) need s _ (P0.out.part a s has) P1.out (by omega) (by omega) (okI_small (by omega) (by omega))).mono ?_
    rw [E1.out, unfR_mk]
    rintro e w3 ⟨rfl, b3⟩
    have dr3 := bl_step dr2 b3
    have Q0 := Lib.hid ((P0.out.below b3).mono b3.size); have Q1 := Lib.hid ((P1.out.below b3).mono b3.size)
    clear P0 P1 dr2 b3
    go_wp2_with fail
    refine (unfair_any _ _ (a + s - 1) n' _ _ (ps.take (a + s - 1)) need s _ (Q0.out.to (a + s - 1) (by omega)) Q1.out (by omega) (by omega) (okI_small (by omega) (by omega))).mono ?_
    rw [E2.out, unfR_mk]
    rintro e w4 ⟨rfl, b4⟩
    have dr4 := bl_step dr3 b4
    clear Q0 Q1 dr3 b4
    go_wp2_with fail
    go_ret
    exact ⟨rfl, dr4⟩
  · rw [hu, unfR_mk]
    rintro e w2 ⟨rfl, b2⟩
    have dr2 := bl_step dr1 b2
    have e1 := wide_law (m := mo) hs1 hno
    have e2 := few_law (need := need) (k := n' / 2) hs1 hno
    have e3 := part_law (f := f) (m := t - f) hs1 (by have := HL.out; omega) hno
    have P0 := Lib.hid ((G0.out.below b2).mono b2.size); have P1 := Lib.hid ((G1.out.below b2).mono b2.size)
    have E1 := Lib.hid e1; have E2 := Lib.hid e2; have E3 := Lib.hid e3
    clear G0 G1 dr1 b2 hu hno e1 e2 e3
    go_wp2_with fail
    refine (unfair_any _ _ n n' _ _ ps need ((s : Int) + (mo : Int)) _ P0.out P1.out (by omega) (by omega) (okI_small (by omega) (by omega))).mono ?_
    rw [E1.out, unfR_mk]
    rintro e w3 ⟨rfl, b3⟩
    have dr3 := bl_step dr2 b3
    have Q0 := Lib.hid ((P0.out.below b3).mono b3.size); have Q1 := Lib.hid ((P1.out.below b3).mono b3.size)
    clear P0 P1 dr2 b3
    have hrun2 := slice_to 23 (.inr rfl) A' n' c' (n' / 2) (by omega)
    have hdiv : Int.tdiv (n' : Int) 2 = ((n' / 2 : Nat) : Int) := by rw [Int.tdiv_eq_ediv_of_nonneg (by omega)]; omega
    go_wp2_with fail
    refine (unfair_any _ _ n (n' / 2) _ _ ps (need.take (n' / 2)) s _ Q0.out (Q1.out.to (n' / 2) (by omega)) (by omega) (by omega) (okI_small (by omega) (by omega))).mono ?_
    rw [E2.out, unfR_mk]
    rintro e w4 ⟨rfl, b4⟩
    have dr4 := bl_step dr3 b4
    have P0 := Lib.hid ((Q0.out.below b4).mono b4.size); have P1 := Lib.hid ((Q1.out.below b4).mono b4.size)
    clear Q0 Q1 dr3 b4 hrun2 hdiv
    have M := P0.out.mid (c := c) f t (by omega) (by omega) (by omega)
    by_cases hcf : c = f
    · rw [if_pos hcf] at M
      have HM := Lib.hid M
      clear M
      go_wp2_with fail
      refine (unfair_any _ _ (t - f) n' _ _ ((ps.drop f).take (t - f)) need s _ HM.out P1.out (by omega) (by omega) (okI_small (by omega) (by omega))).mono ?_
      rw [E3.out, unfR_mk]
      rintro e w5 ⟨rfl, b5⟩
      have dr5 := bl_step dr4 b5
      clear P0 P1 dr4 b5
      go_wp2_with fail
      go_ret
      exact ⟨rfl, dr5⟩
    · rw [if_neg hcf] at M
      have HM := Lib.hid M
      clear M
      go_wp2_with fail
      refine (unfair_any _ _ (t - f) n' _ _ ((ps.drop f).take (t - f)) need s _ HM.out P1.out (by omega) (by omega) (okI_small (by omega) (by omega))).mono ?_
      rw [E3.out, unfR_mk]
      rintro e w5 ⟨rfl, b5⟩
      have dr5 := bl_step dr4 b5
      clear P0 P1 dr4 b5
      go_wp2_with fail
      go_ret
      exact ⟨rfl, dr5⟩
end Go.Proofs.Ytiljihehbfnakaa
