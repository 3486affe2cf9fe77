/- ExtraBack: the walk. -/
import Derived.Test.YtpmdlaomplmpiaaAwake
namespace Go.Proofs.Ytpmdlaomplmpiaa
open Go.ChangeShapes Go.WideShapes Go.ChangeAt Go.RowKit
set_option linter.unusedVariables false

theorem large_no {l : List It} (h : largeB l = false) : l.length ≤ 40 ∧ ∀ x ∈ l, x.2.length ≤ 400 := by
  simp only [largeB, Bool.or_eq_false_iff, decide_eq_false_iff_not, List.any_eq_false, decide_eq_true_eq] at h
  exact ⟨by omega, fun x hx => by have := h.2 x hx; omega⟩

theorem items_range {w : World} {B n : Nat} {A : Option Addr} {l : List It} (h : ItemsAt w B A n l) : ∀ x ∈ l, ∀ y ∈ x.2, 0 ≤ y ∧ y ≤ 255 := by
  intro x hx
  obtain ⟨i, hi, rfl⟩ := List.getElem_of_mem hx
  obtain ⟨h1, h2, h3⟩ := h
  obtain ⟨b, off, _, _, hc⟩ := h3 (by omega)
  obtain ⟨_, _, _, _, _, _, _, e5⟩ := hc i (by omega)
  have := e5.2.1
  rw [List.getD_eq_getElem?_getD, List.getElem?_eq_getElem hi] at this
  exact this
theorem flat_range : ∀ {l : List It}, (∀ x ∈ l, rightB x = true) → (∀ x ∈ l, ∀ y ∈ x.2, 0 ≤ y ∧ y ≤ 255) → ∀ y ∈ flatB l, 0 ≤ y ∧ y ≤ 255
  | [], _, _, y, hy => by simp [flatB] at hy
  | x :: r, ho, hr, y, hy => by
    have hx := ho x (by simp)
    simp only [rightB, Bool.and_eq_true, decide_eq_true_eq] at hx
    simp only [flatB, List.mem_append, List.mem_cons, List.cons_append] at hy
    rcases hy with rfl | hy | hy
    · omega
    · exact hr x (by simp) y hy
    · exact flat_range (fun z hz => ho z (by simp [hz])) (fun z hz => hr z (by simp [hz])) y hy
theorem enc_range {l : List It} (ho : okB l) (hr : ∀ x ∈ l, ∀ y ∈ x.2, 0 ≤ y ∧ y ≤ 255) : ∀ y ∈ encB l, 0 ≤ y ∧ y ≤ 255 := by
  intro y hy
  rcases List.mem_append.1 hy with hy | hy
  · exact flat_range ho.1 hr y hy
  · rw [List.mem_replicate] at hy; omega

theorem enc_dec {l : List It} (ho : okB l) : decB (encB l).length (encB l) = some l := decB_enc l _ _ ho.1 (by simp [encB, flatB_length])

set_option maxHeartbeats 4000000 in
theorem back_walk (A A' : Option Addr) (n n' c c' : Nat) (l m : List It) (w : World) (h : ItemsAt w w.heap.size A n l) (h' : ItemsAt w w.heap.size A' n' m) :
    Calls Try.prog 3 #[.slice A n c, .slice A' n' c'] w fun e w' => e = .returned (.bool true) ∧ Below w.heap.size w w' := by
  go_enter Try.func3, Try.ntmps3
  go_wp2_with fail
  refine (awake_true _).mono ?_
  rintro e w1 ⟨rfl, b1⟩
  have HL1 := Lib.hid ((h.below b1).mono b1.size)
  have HM1 := Lib.hid ((h'.below b1).mono b1.size)
  have dr1 := b1
  clear h h' b1
  go_wp2_with fail
  refine (large_any _ _ _ _ _ HL1.out).mono ?_
  rintro e w2 ⟨rfl, b2⟩
  have dr2 := bl_step dr1 b2
  have HL2 := Lib.hid ((HL1.out.below b2).mono b2.size)
  have HM2 := Lib.hid ((HM1.out.below b2).mono b2.size)
  clear HL1 HM1 b2 dr1
  cases hb : largeB l
  · have HB := Lib.hid (large_no hb); clear hb
    go_wp2_with fail
    refine (large_any _ _ _ _ _ HM2.out).mono ?_
    rintro e w3 ⟨rfl, b3⟩
    have dr3 := bl_step dr2 b3
    have HL3 := Lib.hid ((HL2.out.below b3).mono b3.size)
    have HM3 := Lib.hid ((HM2.out.below b3).mono b3.size)
    clear HL2 HM2 b3 dr2
    cases hb : largeB m
    · have HB' := Lib.hid (large_no hb); clear hb
      go_wp2_with fail
      have hn : n ≤ 40 := by have := HB.out.1; have := HL3.out.1; omega
      have hn' : n' ≤ 40 := by have := HB'.out.1; have := HM3.out.1; omega
      refine (bytes_any _ n c l w3 HL3.out hn HB.out.2).mono ?_
      rintro e w4 ⟨he, b4⟩
      have dr4 := bl_step dr3 b4
      have HL4 := Lib.hid ((HL3.out.below b4).mono b4.size)
      have HM4 := Lib.hid ((HM3.out.below b4).mono b4.size)
      clear HL3 HM3 b4 dr3
      rcases he with ⟨v4, rfl, ok1, o4⟩ | ⟨er, hne, _, rfl⟩
      · obtain ⟨X, cx, rfl, q1, q2, x4⟩ := own_bytes o4 (enc_range ok1 (items_range HL4.out))
        have HX4 := Lib.hid x4; have HO1 := Lib.hid ok1
        clear x4 o4 ok1
        go_wp2_with fail
        refine (bytes_any _ n' c' m w4 HM4.out hn' HB'.out.2).mono ?_
        rintro e w5 ⟨he, b5⟩
        have dr5 := bl_step dr4 b5
        have HL5 := Lib.hid ((HL4.out.below b5).mono b5.size)
        have HM5 := Lib.hid ((HM4.out.below b5).mono b5.size)
        have HX5 := Lib.hid ((HX4.out.below b5).mono b5.size)
        clear HL4 HM4 HX4 b5 dr4
        have hD := Lib.hid (enc_dec HO1.out)
        have hN4 : (((encB l).length : Nat) : Int) % 4 = 0 := by have := encB_mod l; omega
        have hN2 : (encB l).length ≤ 200 := encB_le l HO1.out.2
        have hLn := Lib.hid HL5.out.1
        generalize hN : (encB l).length = N at *
        rcases he with ⟨v5, rfl, ok2, o5⟩ | ⟨er2, hne2, _, rfl⟩
        · obtain ⟨Y, cy, rfl, _, _, y5⟩ := own_bytes o5 (enc_range ok2 (items_range HM5.out))
          have HY5 := Lib.hid y5; have HO2 := Lib.hid ok2
          clear y5 o5 ok2
          go_wp2_with fail
          refine (read_ok _ N _ _ _ HX5.out hN2 q1 q2 N (by omega) _ hD.out).mono ?_
          rintro e w6 ⟨⟨A6, c6, rfl, k6⟩, b6⟩
          have dr6 := bl_step dr5 b6
          have HL6 := Lib.hid ((HL5.out.below b6).mono b6.size)
          have HM6 := Lib.hid ((HM5.out.below b6).mono b6.size)
          have HX6 := Lib.hid ((HX5.out.below b6).mono b6.size)
          have HY6 := Lib.hid ((HY5.out.below b6).mono b6.size)
          have HK6 := Lib.hid k6
          have hl40 : l.length ≤ 1000 := by have := HB.out.1; omega
          have hld : ∀ x ∈ l, x.2.length ≤ 1000 := fun x hx => by have := HB.out.2 x hx; omega
          have HLD := Lib.hid hld
          clear k6 b6 dr5 HL5 HM5 HX5 hld HY5
          go_wp2_with fail
          refine (own_any _ _ _ _ _ HK6.out hl40).mono ?_
          rintro e w7 ⟨⟨A7, c7, rfl, k7⟩, b7⟩
          have dr7 := bl_step dr6 b7
          have HL7 := Lib.hid ((HL6.out.below b7).mono b7.size)
          have HM7 := Lib.hid ((HM6.out.below b7).mono b7.size)
          have HX7 := Lib.hid ((HX6.out.below b7).mono b7.size)
          have HY7 := Lib.hid ((HY6.out.below b7).mono b7.size)
          have HK7 := Lib.hid k7
          clear k7 b7 dr6 HL6 HM6 HX6 HK6 HY6
          go_wp2_with fail
          refine (own_any _ _ _ _ _ HL7.out (by omega)).mono ?_
          rintro e w8 ⟨⟨A8, c8, rfl, k8⟩, b8⟩
          have dr8 := bl_step dr7 b8
          have HL8 := Lib.hid ((HL7.out.below b8).mono b8.size)
          have HM8 := Lib.hid ((HM7.out.below b8).mono b8.size)
          have HX8 := Lib.hid ((HX7.out.below b8).mono b8.size)
          have HY8 := Lib.hid ((HY7.out.below b8).mono b8.size)
          have HK8 := Lib.hid ((HK7.out.below b8).mono b8.size)
          have HJ8 := Lib.hid k8
          clear k8 b8 dr7 HL7 HM7 HX7 HK7 HY7
          go_wp2_with fail
          refine (same_any _ _ _ _ _ _ _ _ _ HK8.out HJ8.out hl40 HLD.out).mono ?_
          rintro e w9 ⟨rfl, b9⟩
          have dr9 := bl_step dr8 b9
          have HL9 := Lib.hid ((HL8.out.below b9).mono b9.size)
          have HM9 := Lib.hid ((HM8.out.below b9).mono b9.size)
          have HX9 := Lib.hid ((HX8.out.below b9).mono b9.size)
          have HY9 := Lib.hid ((HY8.out.below b9).mono b9.size)
          clear b9 dr8 HL8 HM8 HX8 HK8 HJ8 HY8
          rw [show decide (l = l) = true from by simp]
          go_wp2_with fail
          refine (same1_any _ _ _ _ _ _ (encB l) (encB m) _ HX9.out HY9.out (by omega)).mono ?_
          rintro e wA ⟨rfl, jA, rfl⟩
          have bA := bl_drewN' (Below.refl w9.heap.size w9) jA
          have drA := bl_step dr9 bA
          have HLA := Lib.hid ((HL9.out.below bA).mono bA.size)
          have HMA := Lib.hid ((HM9.out.below bA).mono bA.size)
          clear HL9 HM9 HX9 HY9 dr9
          generalize hWA : World.drewN _ jA = wA at bA drA HLA HMA ⊢
          clear hWA bA
          have hs : decide (encB l = encB m) = decide (l = m) := by
            apply Bool.eq_iff_iff.2
            simp only [decide_eq_true_eq]
            exact ⟨fun h => encB_inj HO1.out.1 HO2.out.1 h, fun h => by rw [h]⟩
          rw [hs]
          go_wp2_with fail
          refine (own_any _ _ _ _ _ HLA.out (by omega)).mono ?_
          rintro e wB ⟨⟨AB, cB, rfl, kB⟩, bB⟩
          have drB := bl_step drA bB
          have HMB := Lib.hid ((HMA.out.below bB).mono bB.size)
          have HKB := Lib.hid kB
          clear kB bB drA HLA HMA
          go_wp2_with fail
          refine (own_any _ _ _ _ _ HMB.out (by omega)).mono ?_
          rintro e wC ⟨⟨AC, cC, rfl, kC⟩, bC⟩
          have drC := bl_step drB bC
          have HKC := Lib.hid ((HKB.out.below bC).mono bC.size)
          have HJC := Lib.hid kC
          clear kC bC drB HMB HKB
          go_wp2_with fail
          refine (same_any _ _ _ _ _ _ _ _ _ HKC.out HJC.out (by omega) HLD.out).mono ?_
          rintro e wD ⟨rfl, bD⟩
          have drD := bl_step drC bD
          clear bD drC HKC HJC
          cases decide (l = m)
          all_goals
            go_wp2_with fail
            go_ret
            exact ⟨rfl, drD⟩
        · go_wp2_with fail
          refine (read_ok _ N _ _ _ HX5.out hN2 q1 q2 N (by omega) _ hD.out).mono ?_
          rintro e w6 ⟨⟨A6, c6, rfl, k6⟩, b6⟩
          have dr6 := bl_step dr5 b6
          have HL6 := Lib.hid ((HL5.out.below b6).mono b6.size)
          have HM6 := Lib.hid ((HM5.out.below b6).mono b6.size)
          have HX6 := Lib.hid ((HX5.out.below b6).mono b6.size)
          have HK6 := Lib.hid k6
          have hl40 : l.length ≤ 1000 := by have := HB.out.1; omega
          have hld : ∀ x ∈ l, x.2.length ≤ 1000 := fun x hx => by have := HB.out.2 x hx; omega
          have HLD := Lib.hid hld
          clear k6 b6 dr5 HL5 HM5 HX5 hld
          go_wp2_with fail
          refine (own_any _ _ _ _ _ HK6.out hl40).mono ?_
          rintro e w7 ⟨⟨A7, c7, rfl, k7⟩, b7⟩
          have dr7 := bl_step dr6 b7
          have HL7 := Lib.hid ((HL6.out.below b7).mono b7.size)
          have HM7 := Lib.hid ((HM6.out.below b7).mono b7.size)
          have HX7 := Lib.hid ((HX6.out.below b7).mono b7.size)
          have HK7 := Lib.hid k7
          clear k7 b7 dr6 HL6 HM6 HX6 HK6
          go_wp2_with fail
          refine (own_any _ _ _ _ _ HL7.out (by omega)).mono ?_
          rintro e w8 ⟨⟨A8, c8, rfl, k8⟩, b8⟩
          have dr8 := bl_step dr7 b8
          have HL8 := Lib.hid ((HL7.out.below b8).mono b8.size)
          have HM8 := Lib.hid ((HM7.out.below b8).mono b8.size)
          have HX8 := Lib.hid ((HX7.out.below b8).mono b8.size)
          have HK8 := Lib.hid ((HK7.out.below b8).mono b8.size)
          have HJ8 := Lib.hid k8
          clear k8 b8 dr7 HL7 HM7 HX7 HK7
          go_wp2_with fail
          refine (same_any _ _ _ _ _ _ _ _ _ HK8.out HJ8.out hl40 HLD.out).mono ?_
          rintro e w9 ⟨rfl, b9⟩
          have dr9 := bl_step dr8 b9
          have HL9 := Lib.hid ((HL8.out.below b9).mono b9.size)
          have HM9 := Lib.hid ((HM8.out.below b9).mono b9.size)
          have HX9 := Lib.hid ((HX8.out.below b9).mono b9.size)
          clear b9 dr8 HL8 HM8 HX8 HK8 HJ8
          rw [show decide (l = l) = true from by simp]
          go_wp2_with fail
          go_ret
          exact ⟨rfl, dr9⟩
      · go_wp2_with fail
        refine (bytes_any _ n' c' m w4 HM4.out hn' HB'.out.2).mono ?_
        rintro e w5 ⟨he, b5⟩
        have dr5 := bl_step dr4 b5
        clear b5 HL4 HM4 dr4
        rcases he with ⟨v5, rfl, _, _⟩ | ⟨er2, _, _, rfl⟩
        all_goals
          go_wp2_with fail
          go_ret
          exact ⟨rfl, dr5⟩
    · go_wp2_with fail
      go_ret
      exact ⟨rfl, dr3⟩
  · go_wp2_with fail
    go_ret
    exact ⟨rfl, dr2⟩
end Go.Proofs.Ytpmdlaomplmpiaa
