/- The arguments opened: slices of numbers, of workers. -/
import Derived.Test.YtiljihehbfnakaaWider
import Derived.ChangeSame
namespace Go.Proofs.Ytiljihehbfnakaa
open Go.ChangeShapes Go.WideShapes Go.ChangeAt Go.RowKit Go.Deep
set_option linter.unusedVariables false
section
variable {H : Type} {enc : TypeId × Value → H} {w : World} {base : Nat} {spare : Nat → Bool} {held : Bool}

theorem add_plain (b off j : Nat) : (⟨b, off, none⟩ : Addr).add j = ⟨b, off + j, none⟩ := by
  unfold Addr.add
  split
  · rename_i hz; rw [hz]; rfl
  · rfl

theorem open_ints {fuel : Nat} {a : Option Addr} {len cap : Nat} {x : DataW H × List MemPlace}
    (h : DataW.trod enc Try.prog w base spare held fuel 22 [.slice a len cap] = some x) : ∃ l, IntAt w w.heap.size a len l := by
  rcases open_slice Try.underlying22 h with ⟨hcs, _⟩ | ⟨a', len', cap', m', n, D, Pl, hcs, _, hl, hm, hmm, _, hi⟩
  · simp at hcs
    obtain ⟨rfl, rfl, _⟩ := hcs
    exact ⟨[], rfl, fun h0 => absurd h0 (by omega)⟩
  · simp at hcs
    obtain ⟨rfl, rfl, rfl⟩ := hcs
    have hle : len ≤ m' := by rw [hmm]; split <;> omega
    have key : ∀ i, i < len → ∃ y : Int, w.cell? (a'.add i) = some (.int .i64 y) := fun i hil => by
      obtain ⟨cs', hcell, htr⟩ := hi i (by omega)
      rw [show Try.prog.cellsOf 3 = 1 from by kernel_rfl, Nat.mul_one] at hcell
      have hL := flat_ok 6 3 [.i .i64] (by kernel_rfl) _ _ _ htr
      obtain ⟨c0, cs0, rfl, ⟨y, rfl, hy⟩, rfl⟩ := hL
      obtain ⟨_, _, hat⟩ := World.cells?_some hcell
      exact ⟨y, by simpa [Addr.add] using hat 0 (by omega)⟩
    obtain ⟨f, hf⟩ := choose_lt key
    refine ⟨(List.range len).map f, by simp, fun h0 => ?_⟩
    obtain ⟨b, off, spot⟩ := a'
    have hs : spot = none := by
      have := hf 0 h0
      simpa [Addr.add] using World.cell?_spot this
    subst hs
    refine ⟨b, off, rfl, ?_, fun i hil => ?_⟩
    · have := hf 0 h0
      rw [add_plain] at this
      exact cell_lt this
    · have := hf i hil
      rw [add_plain] at this
      rw [this, List.getD_eq_getElem?_getD, List.getElem?_map, List.getElem?_range hil]; rfl

theorem open_workers {fuel : Nat} {a : Option Addr} {len cap : Nat} {x : DataW H × List MemPlace}
    (h : DataW.trod enc Try.prog w base spare held fuel 23 [.slice a len cap] = some x) : ∃ l, WkAt w w.heap.size a len l ∧ len ≤ cap := by
  rcases open_slice Try.underlying23 h with ⟨hcs, _⟩ | ⟨a', len', cap', m', n, D, Pl, hcs, _, hl, hm, hmm, _, hi⟩
  · simp at hcs
    obtain ⟨rfl, rfl, _⟩ := hcs
    exact ⟨[], WkAt.empty, by omega⟩
  · simp at hcs
    obtain ⟨rfl, rfl, rfl⟩ := hcs
    have hle : len ≤ m' := by rw [hmm]; split <;> omega
    have key : ∀ i, i < len → ∃ y : Wk, okW y ∧ w.cell? (a'.add (i * 2)) = some (.int .i64 y.1) ∧ w.cell? (a'.add (i * 2 + 1)) = some (.int .i64 y.2) := fun i hil => by
      obtain ⟨cs', hcell, htr⟩ := hi i (by omega)
      rw [show Try.prog.cellsOf 41 = 2 from by kernel_rfl] at hcell
      have hL := flat_ok 6 41 [.i .i64, .i .i64] (by kernel_rfl) _ _ _ htr
      obtain ⟨c0, cs0, rfl, ⟨y1, rfl, hy1⟩, c1, cs1, rfl, ⟨y2, rfl, hy2⟩, rfl⟩ := hL
      obtain ⟨_, _, hat⟩ := World.cells?_some hcell
      refine ⟨(y1, y2), ⟨hy1, hy2⟩, by simpa [Addr.add] using hat 0 (by simp), ?_⟩
      have := hat 1 (by simp)
      rw [Go.Deep.add_add] at this
      simpa using this
    obtain ⟨f, hf⟩ := choose_lt key
    refine ⟨(List.range len).map f, ⟨by simp, ?_, fun h0 => ?_⟩, hl⟩
    · intro y hy
      obtain ⟨i, hi', rfl⟩ := List.mem_map.1 hy
      exact (hf i (by simpa using hi')).1
    · obtain ⟨b, off, spot⟩ := a'
      have hs : spot = none := by
        have := (hf 0 h0).2.1
        simpa [Addr.add] using World.cell?_spot this
      subst hs
      refine ⟨b, off, rfl, ?_, fun i hil => ?_⟩
      · have := (hf 0 h0).2.1
        rw [add_plain] at this
        exact cell_lt this
      · obtain ⟨_, h1, h2⟩ := hf i hil
        rw [add_plain] at h1 h2
        have hg : ((List.range len).map f).getD i (0, 0) = f i := by
          rw [List.getD_eq_getElem?_getD, List.getElem?_map, List.getElem?_range hil]; rfl
        rw [hg]
        exact ⟨h1, by rw [Nat.add_assoc]; exact h2⟩
end
end Go.Proofs.Ytiljihehbfnakaa
