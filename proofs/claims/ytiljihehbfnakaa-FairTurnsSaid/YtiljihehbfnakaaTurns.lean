/- FairTurns: the walk. -/
import Derived.Test.YtiljihehbfnakaaLaws
namespace Go.Proofs.Ytiljihehbfnakaa
open Go.ChangeShapes Go.WideShapes Go.ChangeAt Go.RowKit
set_option linter.unusedVariables false

theorem wk_news {w : World} {B : Nat} {b off : Nat} {n : Nat} {L : List Wk} (h : WkAt w B (some ⟨b, off, none⟩) n L) : ∀ j u, (L.flatMap wkC)[j]? = some u → w.cell? ((⟨b, off, none⟩ : Addr).add j) = some u := by
  intro j u hu
  obtain ⟨h1, h2, h3⟩ := h
  have hj : j < L.length * 2 := by
    rcases Nat.lt_or_ge j (L.flatMap wkC).length with h | h
    · rwa [wkC_length] at h
    · rw [List.getElem?_eq_none h] at hu; simp at hu
  obtain ⟨b', off', he, hb, hc⟩ := h3 (by omega)
  simp only [Option.some.injEq, Addr.mk.injEq] at he
  obtain ⟨rfl, rfl, -⟩ := he
  have hi : j / 2 < L.length := by omega
  obtain ⟨e1, e2⟩ := hc (j / 2) (by omega)
  have q := wkC_get L (j / 2) hi
  have hg : L.getD (j / 2) (0, 0) = L[j / 2] := by rw [List.getD_eq_getElem?_getD, List.getElem?_eq_getElem hi]; rfl
  rw [hg] at e1 e2
  have hadd : (⟨b, off, none⟩ : Addr).add j = ⟨b, off + j, none⟩ := by
    rcases Nat.eq_zero_or_pos j with rfl | hp
    · rfl
    · simp [Addr.add]; omega
  rw [hadd]
  rcases Nat.mod_two_eq_zero_or_one j with hm | hm
  · have : j / 2 * 2 = j := by omega
    rw [this] at e1 q
    rw [e1, ← q.1, hu]
  · have : j / 2 * 2 + 1 = j := by omega
    rw [this] at q
    rw [show off + j / 2 * 2 + 1 = off + j from by omega] at e2
    rw [e2, ← q.2, hu]
theorem wk_one {L : List Wk} : ∀ u ∈ L.flatMap wkC, u.oneCell' = true := by
  intro u hu
  obtain ⟨x, _, hx⟩ := List.mem_flatMap.1 hu
  simp [wkC] at hx
  rcases hx with rfl | rfl <;> rfl

set_option maxHeartbeats 2000000 in
theorem turns_walk (A : Option Addr) (n c : Nat) (subs : List Int) (t : Int) (w : World) (h : IntAt w w.heap.size A n subs) (ht : (Lit.int .u8 t).wf = true) :
    Calls Try.prog 4 #[.slice A n c, .int .u8 t] w fun e w' => e = .returned (.bool true) ∧ Below w.heap.size w w' := by
  have ht' : 0 ≤ t ∧ t ≤ 255 := by simp [Lit.wf, IntKind.min, IntKind.max, IntKind.signed, IntKind.bits] at ht; omega
  obtain ⟨t, rfl⟩ : ∃ k : Nat, t = k := ⟨t.toNat, by omega⟩
  obtain ⟨i0, hi, hz0, hz1, hz2⟩ := info_parts Try.info41
  have HI := Lib.hid hi; have HZ0 := Lib.hid hz0; have HZ1 := Lib.hid hz1; have HZ2 := Lib.hid hz2
  clear hi hz0 hz1 hz2 ht
  have H0 := Lib.hid h
  clear h
  go_enter Try.func4, Try.ntmps4
  go_wp2_with fail
  refine (awake_true w).mono ?_
  rintro e w1 ⟨rfl, dr1⟩
  by_cases k0 : 80 < n
  · go_wp2_with fail
    go_ret
    exact ⟨rfl, dr1⟩
  by_cases k1 : 80 < t
  · go_wp2_with fail
    go_ret
    exact ⟨rfl, dr1⟩
  have G0 := Lib.hid ((H0.out.below dr1).mono dr1.size)
  clear H0
  go_wp2_with fail
  refine (workers_any _ n _ subs _ G0.out (by omega)).mono ?_
  rintro e w2 ⟨⟨B, m, d, rfl, _, _, k2⟩, b2⟩
  have dr2 := bl_step dr1 b2
  have hlen := wl_len (inP subs) 6
  have hnd := wl_nodup (inP subs) 6
  have hok := wl_ok (inP subs) 6 (by omega)
  generalize wl (inP subs) 6 = l at k2 hlen hnd hok
  have hlm := k2.1
  obtain ⟨b, off, rfl, _, _⟩ := k2.2.2 (by omega)
  have hm2 : 2 ≤ m := by omega
  have hm20 : m ≤ 20 := by omega
  have HK := Lib.hid k2; have HNd := Lib.hid hnd; have HOk := Lib.hid hok; have HLm := Lib.hid hlm
  clear G0 dr1 b2 k2 hnd hok hlm hlen
  go_wp2_with fail
  go_loopw [6, 31] (fun v i wr => ∃ (k p : Nat), i = .int .u8 k ∧ k ≤ t ∧ p = (turned l k).length ∧ p ≤ 20 * k ∧ wr.ownsRow w2.heap.size 41 2 v p ((turned l k).flatMap wkC) ∧ Below w2.heap.size w2 wr) (fun _ i _ => t - (intOf i).toNat)
  case atStart => exact ⟨0, 0, rfl, by omega, rfl, by omega, ⟨rfl, .inl ⟨rfl, rfl⟩⟩, Below.refl _ _⟩
  case round =>
    obtain ⟨k, p, rfl, hk, hp, hp2, own, dr⟩ := hrel
    have sz := dr.size
    by_cases hlt : k < t
    · have hl1 : (l.flatMap wkC).length = m * 2 := by rw [wkC_length, HLm.out]
      have nw := wk_news (HK.out.below dr)
      have HL1 := Lib.hid hl1; have HNw := Lib.hid nw; have HP := Lib.hid hp
      clear hl1 nw hp
      go_wp2_with (at_builtin; go_loud (refine wpList_append_own _ rfl _ _ 23 rfl w2.heap.size 41 i0 (.agg #[.int .i64 0, .int .i64 0]) 2 16 Try.underlying23 HI.out HZ0.out HZ1.out HZ2.out rfl (by decide) _ _ _ rfl own ⟨b, off, none⟩ m d (l.flatMap wkC) rfl HL1.out HNw.out wk_one ?c3 ?c4 ?c5 ?_))
      case c3 => unfold maxLen; omega
      case c4 => omega
      case c5 => omega
      intro v5 w5 own5 g5 _
      have dr5 : Below w2.heap.size w2 w5 := dr.grown g5 sz (fun j hj => (own.lt j hj).1)
      have own6 : w5.ownsRow w2.heap.size 41 2 v5 (p + m) ((turned l (k + 1)).flatMap wkC) := by rw [turned_succ', List.flatMap_append]; exact own5
      have hp6 : p + m = (turned l (k + 1)).length := by rw [turned_succ', List.length_append, ← HP.out, HLm.out]
      have HP6 := Lib.hid hp6
      clear own5 own g5 hp6
      go_wp2_with fail
      go_roundw
      case rel => exact ⟨k + 1, p + m, by go_num, by omega, HP6.out, by omega, own6, dr5⟩
      case measure => simp [intOf]; omega
    · have hk' : k = t := by omega
      subst hk'
      obtain ⟨A', c', rfl, q1, q2, q3⟩ := wk_own own (fun x hx => HOk.out x (by
        obtain ⟨l', h1, h2⟩ := List.mem_flatten.1 hx
        rw [(List.mem_replicate.1 h1).2] at h2; exact h2))
      have hu1 : unf (turned l k) l (m : Nat) = (0, false) := by have := turn_ok l k (by rw [HLm.out]; omega); rwa [HLm.out] at this
      have hu2 : unf (turned l k) l ((m : Int) - 1) = (0, decide (0 < k)) := by have := turn_no l k (by rw [HLm.out]; omega) HNd.out; rwa [HLm.out] at this
      have HU1 := Lib.hid hu1; have HU2 := Lib.hid hu2
      have K2 := Lib.hid ((HK.out.below dr).mono sz); have Q := Lib.hid q3
      have drA := bl_step dr2 dr
      clear q3 own hu1 hu2 hp dr dr2
      go_wp2_with fail
      refine (unfair_any _ _ p m _ _ (turned l k) l m _ Q.out K2.out (by omega) (by omega) (okI_small (by omega) (by omega))).mono ?_
      rw [HU1.out, unfR_mk]
      rintro e w3 ⟨rfl, b3⟩
      have drB := bl_step drA b3
      have Q3 := Lib.hid ((Q.out.below b3).mono b3.size); have K3 := Lib.hid ((K2.out.below b3).mono b3.size)
      clear drA b3 Q K2
      go_wp2_with fail
      refine (unfair_any _ _ p m _ _ (turned l k) l ((m : Int) - 1) _ Q3.out K3.out (by omega) (by omega) (okI_small (by omega) (by omega))).mono ?_
      rw [HU2.out, unfR_mk]
      rintro e w4 ⟨rfl, b4⟩
      have drC := bl_step drB b4
      clear drB b4 Q3 K3
      by_cases hk0 : 0 < k
      · rw [show decide (0 < k) = true from by simpa using hk0]
        go_wp2_with fail
        go_ret
        exact ⟨rfl, drC⟩
      · obtain rfl : k = 0 := by omega
        rw [show decide (0 < 0) = false from rfl]
        go_wp2_with fail
        go_ret
        exact ⟨rfl, drC⟩
end Go.Proofs.Ytiljihehbfnakaa
