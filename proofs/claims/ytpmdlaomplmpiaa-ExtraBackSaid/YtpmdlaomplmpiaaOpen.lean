/- The arguments opened: a slice of items as 'ItemsAt' has it. -/
import Derived.Test.YtpmdlaomplmpiaaMem
import Derived.ChangeSame
namespace Go.Proofs.Ytpmdlaomplmpiaa
open Go.ChangeShapes Go.WideShapes Go.ChangeAt Go.RowKit Go.Deep
set_option linter.unusedVariables false
section
variable {H : Type} {enc : TypeId × Value → H} {w : World} {base : Nat} {spare : Nat → Bool} {held : Bool}

theorem open_bytes {fuel : Nat} {cs : List Value} {x : DataW H × List MemPlace}
    (h : DataW.trod enc Try.prog w base spare held fuel 25 cs = some x) : ∃ a len cap xs, cs = [.slice a len cap] ∧ len ≤ cap ∧ cap ≤ maxLen ∧ BytesAt w w.heap.size a len xs := by
  rcases open_slice Try.underlying25 h with ⟨hcs, _⟩ | ⟨a', len', cap', m', n, D, Pl, hcs, _, hl, hm, hmm, _, hi⟩
  · exact ⟨none, 0, 0, [], hcs, by omega, by unfold maxLen; omega, rfl, fun x hx => by simp at hx, fun h0 => absurd h0 (by omega)⟩
  · have hle : len' ≤ m' := by rw [hmm]; split <;> omega
    have key : ∀ i, i < len' → ∃ y : Int, (0 ≤ y ∧ y ≤ 255) ∧ w.cell? (a'.add i) = some (.int .u8 y) := fun i hil => by
      obtain ⟨cs', hcell, htr⟩ := hi i (by omega)
      rw [show Try.prog.cellsOf 5 = 1 from by kernel_rfl, Nat.mul_one] at hcell
      have hL := flat_ok 6 5 [.i .u8] (by kernel_rfl) _ _ _ htr
      obtain ⟨c0, cs0, rfl, ⟨y, rfl, hy⟩, rfl⟩ := hL
      obtain ⟨_, _, hat⟩ := World.cells?_some hcell
      refine ⟨y, ?_, by simpa [Addr.add] using hat 0 (by omega)⟩
      simp [Lit.wf, IntKind.min, IntKind.max, IntKind.signed, IntKind.bits] at hy
      omega
    obtain ⟨f, hf⟩ := choose_lt key
    refine ⟨some a', len', cap', (List.range len').map f, hcs, hl, hm, by simp, ?_, fun h0 => ?_⟩
    · intro y hy
      obtain ⟨i, hi', rfl⟩ := List.mem_map.1 hy
      exact (hf i (by simpa using hi')).1
    · obtain ⟨b, off, spot⟩ := a'
      have hs : spot = none := by
        have := (hf 0 h0).2
        simpa [Addr.add] using World.cell?_spot this
      subst hs
      have hc : ∀ i, i < len' → w.cell? ⟨b, off + i, none⟩ = some (.int .u8 (f i)) := fun i hil => by
        rw [← (hf i hil).2]
        unfold Addr.add
        split
        · rename_i hz; rw [hz]; rfl
        · rfl
      refine ⟨b, off, rfl, ?_, fun i hil => ?_⟩
      · have := hc 0 h0
        exact cell_lt this
      · rw [hc i hil, List.getD_eq_getElem?_getD, List.getElem?_map, List.getElem?_range hil]; rfl

theorem open_items {fuel : Nat} {a : Option Addr} {len cap : Nat} {x : DataW H × List MemPlace}
    (h : DataW.trod enc Try.prog w base spare held fuel 22 [.slice a len cap] = some x) : ∃ l, ItemsAt w w.heap.size a len l := by
  rcases open_slice Try.underlying22 h with ⟨hcs, _⟩ | ⟨a', len', cap', m', n, D, Pl, hcs, _, hl, hm, hmm, _, hi⟩
  · simp at hcs
    obtain ⟨rfl, rfl, _⟩ := hcs
    exact ⟨[], rfl, fun x hx => by simp at hx, fun h0 => absurd h0 (by omega)⟩
  · simp at hcs
    obtain ⟨rfl, rfl, rfl⟩ := hcs
    have hle : len ≤ m' := by rw [hmm]; split <;> omega
    have key : ∀ i, i < len → ∃ y : It, (0 ≤ y.1 ∧ y.1 ≤ 255) ∧ w.cell? (a'.add (i * 2)) = some (.int .u8 y.1) ∧ ∃ b m c, w.cell? (a'.add (i * 2 + 1)) = some (.slice b m c) ∧ m ≤ c ∧ c ≤ maxLen ∧ BytesAt w w.heap.size b m y.2 := fun i hil => by
      obtain ⟨cs', hcell, htr⟩ := hi i (by omega)
      rw [show Try.prog.cellsOf 37 = 2 from by kernel_rfl] at hcell
      obtain ⟨y0, y1, n', _, hlen, h0, h1⟩ := trod_struct2 Try.underlying37 htr
      rw [show Try.prog.cellsOf 37 = 2 from by kernel_rfl] at hlen
      obtain ⟨c0, c1, rfl⟩ : ∃ c0 c1, cs' = [c0, c1] := by
        match cs', hlen with
        | [c0, c1], _ => exact ⟨c0, c1, rfl⟩
      have e0 := flat_ok 6 5 [.i .u8] (by kernel_rfl) _ _ _ h0
      have h1' : DataW.trod enc Try.prog w base spare held n' 25 [c1] = some y1 := h1
      obtain ⟨b, m, c, xs, he, q1, q2, q3⟩ := open_bytes h1'
      obtain ⟨d0, ds, hd, ⟨y, rfl, hy⟩, rfl⟩ := e0
      have hd0 : c0 = .int .u8 y := by simpa using (show [c0] = [Value.int .u8 y] from hd)
      have hd1 : c1 = .slice b m c := by simpa using he
      subst hd0 hd1
      obtain ⟨_, _, hat⟩ := World.cells?_some hcell
      refine ⟨(y, xs), ?_, by simpa [Addr.add] using hat 0 (by omega), b, m, c, ?_, q1, q2, q3⟩
      · simp [Lit.wf, IntKind.min, IntKind.max, IntKind.signed, IntKind.bits] at hy
        simp only; omega
      · have := hat 1 (by omega)
        rw [Go.Deep.add_add] at this
        simpa using this
    obtain ⟨f, hf⟩ := choose_lt key
    refine ⟨(List.range len).map f, by simp, ?_, fun h0 => ?_⟩
    · intro y hy
      obtain ⟨i, hi', rfl⟩ := List.mem_map.1 hy
      exact (hf i (by simpa using hi')).1
    · obtain ⟨b, off, spot⟩ := a'
      have hs : spot = none := by
        have := (hf 0 h0).2.1
        simpa [Addr.add] using World.cell?_spot this
      subst hs
      have ha : ∀ j, (⟨b, off, none⟩ : Addr).add j = ⟨b, off + j, none⟩ := fun j => by
        unfold Addr.add
        split
        · rename_i hz; rw [hz]; rfl
        · rfl
      refine ⟨b, off, rfl, ?_, fun i hil => ?_⟩
      · have := (hf 0 h0).2.1
        rw [ha] at this
        exact cell_lt this
      · obtain ⟨_, h1, b', m, c, h2, h3, h4, h5⟩ := hf i hil
        rw [ha] at h1 h2
        have hg : ((List.range len).map f).getD i (0, []) = f i := by
          rw [List.getD_eq_getElem?_getD, List.getElem?_map, List.getElem?_range hil]; rfl
        rw [hg]
        exact ⟨b', m, c, h1, by rw [Nat.add_assoc]; exact h2, h3, h4, h5⟩
end
end Go.Proofs.Ytpmdlaomplmpiaa
