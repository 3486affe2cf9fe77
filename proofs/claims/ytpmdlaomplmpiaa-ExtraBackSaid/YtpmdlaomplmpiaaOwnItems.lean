/- own(l): the document's items. -/
import Derived.Test.YtpmdlaomplmpiaaOwn
namespace Go.Proofs.Ytpmdlaomplmpiaa
open Go.ChangeShapes Go.WideShapes Go.ChangeAt Go.RowKit
set_option linter.unusedVariables false

theorem own_any (A : Option Addr) (n c : Nat) (l : List It) (w : World) (h : ItemsAt w w.heap.size A n l) (hm : n ≤ 1000) :
    Calls Try.prog 9 #[.slice A n c] w fun e w' => (∃ A' c', e = .returned (.slice A' n c') ∧ ItemsAt w' w'.heap.size A' n l) ∧ Below w.heap.size w w' := by
  obtain ⟨hl, hr, hc⟩ := h
  obtain ⟨i0, hi, hz0, hz1, hz2⟩ := info_parts Try.info42
  have HI := Lib.hid hi; have HZ0 := Lib.hid hz0; have HZ1 := Lib.hid hz1; have HZ2 := Lib.hid hz2
  clear hi hz0 hz1 hz2
  go_enter Try.func9, Try.ntmps9
  go_wp2_with fail
  go_loopw [3, 9] (fun v i wr => ∃ (k : Nat) (L : List Iv), i = .int .i64 k ∧ k ≤ n ∧ L.map (·.1) = l.take k ∧ wr.ownsRow w.heap.size 42 2 v k (L.flatMap ivC) ∧ (∀ p ∈ L, IvAt w w.heap.size p) ∧ Below w.heap.size w wr) (fun _ i _ => n - (intOf i).toNat)
  case atStart =>
    exact ⟨0, [], rfl, by omega, rfl, own_empty (Blk.new w 42 #[]) (Nat.le_refl _), fun p hp => absurd hp (by simp), (Below.refl _ w).alloc (Nat.le_refl _) _⟩
  case round =>
    rename_i wr
    obtain ⟨k, L, rfl, hk, hL, own, hp, dr⟩ := hrel
    by_cases hlt : k < n
    · obtain ⟨b, off, rfl, hb, hcell⟩ := hc (by omega)
      obtain ⟨a, m, c1, e1, e2, e3, e4, e5⟩ := hcell k hlt
      have f1 := (dr.cell (p := ⟨b, off + k * 2, none⟩) hb).trans e1
      have f2 := (dr.cell (p := ⟨b, off + k * 2 + 1, none⟩) hb).trans e2
      have hn1 := hr _ (getD_len (l := l) (k := k) (by omega))
      obtain ⟨x, hxk⟩ : ∃ x, x = l.getD k (0, []) := ⟨_, rfl⟩
      rw [← hxk] at f1 e5 hn1
      have HC := Lib.hid hc; have HL := Lib.hid hL; have HX := Lib.hid hxk; have HE := Lib.hid e5; have HP := Lib.hid hp
      clear hc hcell e1 e2 e5 hL hxk hp
      have sz := dr.size
      go_wp2_with (at_builtin; refine wpList_append_own _ rfl _ _ 32 rfl w.heap.size 42 i0 (.agg #[.int .u8 0, .slice none 0 0]) 2 32 Try.underlying32 HI.out HZ0.out HZ1.out HZ2.out rfl (by decide) _ _ _ rfl ((own.alloc _).alloc _) ⟨wr.heap.size + 1, 0, none⟩ 1 1 (ivC (x, .slice a m c1)) rfl rfl ?c1 ?c2 ?c3 ?c4 ?c5 ?_)
      case c1 =>
        intro j u hu
        rcases j with _ | _ | j
        · simp [ivC] at hu; subst hu; simp [Addr.add, go_sem]
        · simp [ivC] at hu; subst hu; simp [Addr.add, go_sem]
        · simp [ivC] at hu
      case c2 => intro u hu; simp [ivC] at hu; rcases hu with rfl | rfl <;> rfl
      case c3 => unfold maxLen; omega
      case c4 => omega
      case c5 => simp; omega
      intro v5 w5 own5 g5 _
      have dr5 : Below w.heap.size w w5 := ((dr.alloc sz _).alloc (by simp; omega) _).grown g5 (by simp; omega) (fun j hj => by have := (own.lt j hj).1; omega)
      go_wp2_with fail
      go_roundw
      case rel =>
        refine ⟨k + 1, L ++ [(x, .slice a m c1)], by go_num, by omega, ?_, by simpa using own5, ?_, dr5⟩
        · have hk' : k < l.length := by omega
          rw [List.map_append, HL.out, List.take_succ_eq_append_getElem hk']
          congr 1
          have := HX.out
          rw [List.getD_eq_getElem?_getD, List.getElem?_eq_getElem hk'] at this
          simp [this]
        · intro p hp
          rcases List.mem_append.1 hp with hp | hp
          · exact HP.out p hp
          · simp at hp; subst hp
            exact ⟨hn1, a, m, c1, rfl, e3, e4, HE.out⟩
      case measure => simp [intOf]; omega
    · have hk' : k = n := by omega
      subst hk'
      have hl' : L.map (·.1) = l := by rw [hL, List.take_of_length_le (by omega)]
      obtain ⟨A', c', rfl, q1, q2, q3⟩ := items_own own dr.size (fun p q => (hp p q).below dr)
      rw [hl'] at q3
      have Q := Lib.hid q3
      clear q3 own hp hL hl' hc
      go_wp2_with fail
      go_ret
      exact ⟨⟨_, _, rfl, Q.out⟩, dr⟩
end Go.Proofs.Ytpmdlaomplmpiaa
