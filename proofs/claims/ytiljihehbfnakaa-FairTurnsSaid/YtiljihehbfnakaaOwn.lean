/- Rows of one's own of workers; own(l). -/
import Derived.Test.YtiljihehbfnakaaRef
namespace Go.Proofs.Ytiljihehbfnakaa
open Go.ChangeShapes Go.WideShapes Go.ChangeAt Go.RowKit
set_option linter.unusedVariables false

theorem own_empty {w : World} {g base : Nat} {e : TypeId} {size : Nat} (h : Blk w g e #[]) (hb : base ≤ g) : w.ownsRow base e size (.slice (some ⟨g, 0, none⟩) 0 0) 0 [] :=
  ⟨by simp, .inr ⟨g, 0, #[], rfl, hb, h, by omega, by unfold maxLen; omega, by simp, by simp⟩⟩
theorem own_form {w : World} {base : Nat} {e : TypeId} {size n : Nat} {v : Value} {xs : List Value} (h : w.ownsRow base e size v n xs) : ∃ A c, v = .slice A n c := by
  rcases h.2 with ⟨rfl, rfl⟩ | ⟨g, cap, cur, rfl, _⟩
  · exact ⟨none, 0, rfl⟩
  · exact ⟨_, cap, rfl⟩
theorem own_mono {w : World} {base base' : Nat} {e : TypeId} {size n : Nat} {v : Value} {xs : List Value} (h : w.ownsRow base e size v n xs) (hb : base' ≤ base) : w.ownsRow base' e size v n xs := by
  obtain ⟨h1, h2⟩ := h
  refine ⟨h1, h2.imp id ?_⟩
  rintro ⟨g, cap, cur, q1, q2, q3⟩
  exact ⟨g, cap, cur, q1, by omega, q3⟩

def wkC (x : Wk) : List Value := [.int .i64 x.1, .int .i64 x.2]
theorem wkC_length : ∀ L : List Wk, (L.flatMap wkC).length = L.length * 2
  | [] => rfl
  | p :: r => by simp [List.flatMap_cons, wkC, wkC_length r]; omega
theorem wkC_get : ∀ (L : List Wk) (i : Nat) (hi : i < L.length), (L.flatMap wkC)[i * 2]? = some (.int .i64 (L[i]).1) ∧ (L.flatMap wkC)[i * 2 + 1]? = some (.int .i64 (L[i]).2)
  | [], i, hi => absurd hi (by simp)
  | p :: r, 0, _ => by simp [List.flatMap_cons, wkC]
  | p :: r, i + 1, hi => by
    have := wkC_get r i (by simpa using hi)
    simp only [List.flatMap_cons, wkC, List.cons_append, List.nil_append, List.getElem_cons_succ]
    rw [show (i + 1) * 2 = i * 2 + 1 + 1 from by omega, show i * 2 + 1 + 1 + 1 = i * 2 + 1 + 1 + 1 from rfl]
    exact this
theorem wk_own {w : World} {base : Nat} {e : TypeId} {v : Value} {n : Nat} {L : List Wk} (h : w.ownsRow base e 2 v n (L.flatMap wkC)) (ho : ∀ x ∈ L, okW x) : ∃ A c, v = .slice A n c ∧ n ≤ c ∧ c ≤ maxLen ∧ WkAt w w.heap.size A n L := by
  have hl : L.length = n := by have := h.1; rw [wkC_length] at this; omega
  rcases h.2 with ⟨rfl, rfl⟩ | ⟨g, cap, cur, rfl, h1, h2, h3, h4, h5, h6⟩
  · exact ⟨none, 0, rfl, by omega, by unfold maxLen; omega, hl, ho, fun hn => absurd hn (by omega)⟩
  · refine ⟨_, cap, rfl, h3, h4, hl, ho, fun _ => ⟨g, 0, rfl, (h.lt g rfl).2, fun i hi => ?_⟩⟩
    have c1 := h.cellAt (i * 2) (by omega)
    have c2 := h.cellAt (i * 2 + 1) (by omega)
    have q := wkC_get L i (by omega)
    have hg : L.getD i (0, 0) = L[i] := by
      rw [List.getD_eq_getElem?_getD, List.getElem?_eq_getElem (by omega)]; rfl
    rw [hg]
    exact ⟨by rw [Nat.zero_add, c1, q.1], by rw [Nat.zero_add, c2, q.2]⟩
theorem Try.info41 : (Try.prog.info? 41).map (fun i => (i.zero, i.size, i.bytes)) = some (some (.agg #[.int .i64 0, .int .i64 0]), 2, 16) := by kernel_rfl
theorem Try.info44 : (Try.prog.info? 44).map (fun i => (i.zero, i.size, i.bytes)) = some (some (.agg #[.int .i64 0, .int .i64 0]), 2, 16) := by kernel_rfl

theorem own_any (A : Option Addr) (n c : Nat) (l : List Wk) (w : World) (h : WkAt w w.heap.size A n l) (hm : n ≤ 100000) :
    Calls Try.prog 9 #[.slice A n c] w fun e w' => (∃ A' c', e = .returned (.slice A' n c') ∧ n ≤ c' ∧ c' ≤ maxLen ∧ WkAt w' w'.heap.size A' n l) ∧ Below w.heap.size w w' := by
  obtain ⟨hl, ho, hc⟩ := h
  obtain ⟨i0, hi, hz0, hz1, hz2⟩ := info_parts Try.info44
  have HI := Lib.hid hi; have HZ0 := Lib.hid hz0; have HZ1 := Lib.hid hz1; have HZ2 := Lib.hid hz2
  have HC := Lib.hid hc; have HO := Lib.hid ho
  clear hi hz0 hz1 hz2 hc ho
  go_enter Try.func9, Try.ntmps9
  go_wp2_with fail
  go_loopw [3, 9] (fun v i wr => ∃ (k : Nat), i = .int .i64 k ∧ k ≤ n ∧ wr.ownsRow w.heap.size 44 2 v k ((l.take k).flatMap wkC) ∧ Below w.heap.size w wr) (fun _ i _ => n - (intOf i).toNat)
  case atStart =>
    exact ⟨0, rfl, by omega, own_empty (Blk.new w 44 #[]) (Nat.le_refl _), (Below.refl _ w).alloc (Nat.le_refl _) _⟩
  case round =>
    rename_i wr
    obtain ⟨k, rfl, hk, own, dr⟩ := hrel
    by_cases hlt : k < n
    · obtain ⟨b, off, rfl, hb, hcell⟩ := HC.out (by omega)
      obtain ⟨e1, e2⟩ := hcell k hlt
      have f1 := (dr.cell (p := ⟨b, off + k * 2, none⟩) hb).trans e1
      have f2 := (dr.cell (p := ⟨b, off + k * 2 + 1, none⟩) hb).trans e2
      have htk := take_next (l := l) (k := k) (by omega)
      generalize l.getD k (0, 0) = x at f1 f2 htk
      obtain ⟨x1, x2⟩ := x
      simp only at f1 f2
      have HT := Lib.hid htk
      clear hcell e1 e2 htk
      have sz := dr.size
      go_wp2_with (at_builtin; go_loud (refine wpList_append_own _ rfl _ _ 28 rfl w.heap.size 44 i0 (.agg #[.int .i64 0, .int .i64 0]) 2 16 Try.underlying28 HI.out HZ0.out HZ1.out HZ2.out rfl (by decide) _ _ _ rfl ((own.alloc _).alloc _) ⟨wr.heap.size + 1, 0, none⟩ 1 1 (wkC (x1, x2)) rfl rfl ?c1 ?c2 ?c3 ?c4 ?c5 ?_))
      case c1 =>
        intro j u hu
        rcases j with _ | _ | j
        · simp [wkC] at hu; subst hu; simp [Addr.add, go_sem]
        · simp [wkC] at hu; subst hu; simp [Addr.add, go_sem]
        · simp [wkC] at hu
      case c2 => intro u hu; simp [wkC] at hu; rcases hu with rfl | rfl <;> rfl
      case c3 => unfold maxLen; omega
      case c4 => omega
      case c5 => simp; omega
      intro v5 w5 own5 g5 _
      have dr5 : Below w.heap.size w w5 := ((dr.alloc sz _).alloc (by simp; omega) _).grown g5 (by simp; omega) (fun j hj => by have := (own.lt j hj).1; omega)
      have own6 : w5.ownsRow w.heap.size 44 2 v5 (k + 1) ((l.take (k + 1)).flatMap wkC) := by rw [HT.out, List.flatMap_append]; simpa using own5
      go_wp2_with fail
      go_roundw
      case rel => exact ⟨k + 1, by go_num, by omega, own6, dr5⟩
      case measure => simp [intOf]; omega
    · have hk' : k = n := by omega
      subst hk'
      rw [List.take_of_length_le (by omega)] at own
      obtain ⟨A', c', rfl, q1, q2, q3⟩ := wk_own own HO.out
      have Q := Lib.hid q3; have Q1 := Lib.hid q1; have Q2 := Lib.hid q2
      clear q3 own q1 q2
      go_wp2_with fail
      go_ret
      exact ⟨⟨_, _, rfl, Q1.out, Q2.out, Q.out⟩, dr⟩
end Go.Proofs.Ytiljihehbfnakaa
