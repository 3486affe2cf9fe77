/- Arguments of flat types (bools, integers, strings, structs of these, also nested; slices of them) opened to typed cells, whatever their number. -/
import Derived.Test.YtiljihehbfnakaaBase
import Derived.Deep.Slices
import Derived.Deep.Fields
namespace Go.Proofs.Ytiljihehbfnakaa
open Go.ChangeShapes Go.WideShapes Go.ChangeAt Go.RowKit Go.Deep

/-- the cells that a flat type has, a kind each -/
inductive Leaf where
  | b
  | i (k : IntKind)
  | s
def Leaf.ok : Leaf → Value → Prop
  | .b, v => ∃ x, v = .bool x
  | .i k, v => ∃ n, v = .int k n ∧ (Lit.int k n).wf = true
  | .s, v => ∃ x, v = .string x ∧ x.size ≤ maxLen
def Leaves : List Leaf → List Value → Prop
  | [], cs => cs = []
  | l :: ls, cs => ∃ c cs', cs = c :: cs' ∧ l.ok c ∧ Leaves ls cs'
theorem Leaves.length : ∀ {ls : List Leaf} {cs : List Value}, Leaves ls cs → cs.length = ls.length
  | [], cs, h => by cases h; rfl
  | l :: ls, cs, h => by obtain ⟨c, cs', rfl, _, h'⟩ := h; simp [Leaves.length h']
theorem Leaves.append : ∀ {ls ms : List Leaf} {cs ds : List Value}, Leaves ls cs → Leaves ms ds → Leaves (ls ++ ms) (cs ++ ds)
  | [], _, _, _, h, h' => by cases h; exact h'
  | l :: ls, _, _, _, h, h' => by obtain ⟨c, cs', rfl, ho, hr⟩ := h; exact ⟨c, _, rfl, ho, Leaves.append hr h'⟩

def flatF (P : Program) (fl : TypeId → Option (List Leaf)) : List Field → Nat → Option (List Leaf)
  | [], _ => some []
  | f :: r, off => if f.offset = off then
      match fl f.type with
      | some ls => if ls.length = P.cellsOf f.type then
          match flatF P fl r (off + P.cellsOf f.type) with
          | some rs => some (ls ++ rs)
          | none => none
        else none
      | none => none
    else none
def flat (P : Program) : Nat → TypeId → Option (List Leaf)
  | 0, _ => none
  | n + 1, t =>
    match P.underlying t with
    | some .bool => some [.b]
    | some (.int k) => some [.i k]
    | some .string => some [.s]
    | some (.struct fs) =>
      match flatF P (flat P n) fs.toList 0 with
      | some ls => if ls.length = P.cellsOf t then some ls else none
      | none => none
    | _ => none

section
variable {H : Type} {enc : TypeId × Value → H} {P : Program} {w : World} {base : Nat} {spare : Nat → Bool} {held : Bool}
theorem flatF_ok (fl : TypeId → Option (List Leaf)) (n : Nat) (hfl : ∀ t ls, fl t = some ls → ∀ cs x, DataW.trod enc P w base spare held n t cs = some x → Leaves ls cs) (cs : List Value) :
    ∀ (fs : List Field) (off : Nat) (ls : List Leaf), flatF P fl fs off = some ls → (∀ f ∈ fs, ∃ x, DataW.trod enc P w base spare held n f.type ((cs.drop f.offset).take (P.cellsOf f.type)) = some x) →
      Leaves ls ((cs.drop off).take ls.length)
  | [], off, ls, h, _ => by simp only [flatF, Option.some.injEq] at h; subst h; simp [Leaves]
  | f :: r, off, ls, h, hx => by
    unfold flatF at h
    split at h
    · rename_i hoff
      split at h
      · rename_i l1 h1
        split at h
        · rename_i hl
          split at h
          · rename_i rs hrs
            simp only [Option.some.injEq] at h
            subst h
            obtain ⟨x, hx0⟩ := hx f (by simp)
            have a1 := hfl _ _ h1 _ _ hx0
            rw [hoff, ← hl] at a1
            have a2 := flatF_ok fl n hfl cs r (off + P.cellsOf f.type) rs hrs (fun g hg => hx g (by simp [hg]))
            have e : (cs.drop off).take (l1 ++ rs).length = (cs.drop off).take l1.length ++ (cs.drop (off + P.cellsOf f.type)).take rs.length := by
              rw [List.length_append, List.take_add, List.drop_drop, hl]
            rw [e]
            exact Leaves.append a1 a2
          · cases h
        · cases h
      · cases h
    · cases h

theorem flat_ok : ∀ (m : Nat) (t : TypeId) (ls : List Leaf), flat P m t = some ls → ∀ (n : Nat) (cs : List Value) (x : DataW H × List MemPlace), DataW.trod enc P w base spare held n t cs = some x → Leaves ls cs
  | 0, _, _, h => by cases h
  | m + 1, t, ls, h => by
    intro n cs x hx
    unfold flat at h
    split at h
    · rename_i hu
      cases h
      obtain ⟨b, rfl, _⟩ := DataW.trod_bool hu hx
      exact ⟨_, _, rfl, ⟨b, rfl⟩, rfl⟩
    · rename_i hu
      cases h
      obtain ⟨k, rfl, _, hw⟩ := DataW.trod_int hu hx
      exact ⟨_, _, rfl, ⟨k, rfl, hw⟩, rfl⟩
    · rename_i hu
      cases h
      obtain ⟨s, rfl, _, hw⟩ := DataW.trod_string hu hx
      exact ⟨_, _, rfl, ⟨s, rfl, hw⟩, rfl⟩
    · rename_i fs hu
      split at h
      · rename_i l1 h1
        split at h
        · rename_i hl
          cases h
          obtain ⟨xs, n', rfl, _, hlen, hxl, hf⟩ := DataW.trod_struct hu hx
          have r := flatF_ok (enc := enc) (w := w) (base := base) (spare := spare) (held := held) (flat P m) n' (fun t' ls' h' cs' x' hx' => flat_ok m t' ls' h' n' cs' x' hx') cs fs.toList 0 ls h1 (fun f hf' => by
            obtain ⟨i, hi, hif⟩ := List.getElem_of_mem hf'
            have hi' : i < fs.size := by simpa using hi
            have := hf i f (by rw [Array.getElem?_eq_getElem hi']; exact congrArg some hif)
            rw [this]
            exact ⟨_, List.getElem?_eq_getElem (by omega)⟩)
          rw [List.drop_zero, List.take_of_length_le (by omega)] at r
          exact r
        · cases h
      · cases h
    · cases h

/-- a slice of flat elements: the cells that a walk asks for -/
def RowsOf (w : World) (a : Option Addr) (len : Nat) (ls : List Leaf) : Prop :=
  0 < len → ∃ b off, a = some ⟨b, off, none⟩ ∧ ∀ i, i < len → ∃ cs, Leaves ls cs ∧ ∀ j, j < ls.length → w.cell? ⟨b, off + (i * ls.length + j), none⟩ = cs[j]?

theorem open_rows {t e : TypeId} {m fuel : Nat} {a : Option Addr} {len cap : Nat} {ls : List Leaf} {x : DataW H × List MemPlace} (ht : P.underlying t = some (.slice e)) (hfl : flat P m e = some ls) (hc : P.cellsOf e = ls.length) (hpos : 0 < ls.length)
    (h : DataW.trod enc P w base spare held fuel t [.slice a len cap] = some x) : len ≤ maxLen ∧ RowsOf w a len ls := by
  rcases open_slice ht h with ⟨hcs, _⟩ | ⟨a', len', cap', m', n, D, Pl, hcs, _, hl, hm, hmm, _, hi⟩
  · simp at hcs
    obtain ⟨_, rfl, _⟩ := hcs
    exact ⟨by unfold maxLen; omega, fun h0 => absurd h0 (by omega)⟩
  · simp at hcs
    obtain ⟨rfl, rfl, rfl⟩ := hcs
    refine ⟨Nat.le_trans hl hm, fun h0 => ?_⟩
    have hle : len ≤ m' := by rw [hmm]; split <;> omega
    have key : ∀ i, i < len → ∃ cs, Leaves ls cs ∧ ∀ j, j < ls.length → w.cell? (a'.add (i * ls.length + j)) = cs[j]? := fun i hil => by
      obtain ⟨cs', hcell, htr⟩ := hi i (by omega)
      have hL := flat_ok m e ls hfl _ _ _ htr
      obtain ⟨_, _, hat⟩ := World.cells?_some hcell
      refine ⟨cs', hL, fun j hj => ?_⟩
      rw [← hat j (by omega), ← hc, Go.Deep.add_add]
    obtain ⟨b, off, spot⟩ := a'
    obtain ⟨cs0, hL0, hc0⟩ := key 0 h0
    have hs : spot = none := by
      have h1 := hc0 0 hpos
      have h2 : 0 < cs0.length := by rw [hL0.length]; exact hpos
      rw [List.getElem?_eq_getElem h2] at h1
      simpa [Addr.add] using World.cell?_spot h1
    subst hs
    refine ⟨b, off, rfl, fun i hil => ?_⟩
    obtain ⟨cs, hL, hcj⟩ := key i hil
    refine ⟨cs, hL, fun j hj => ?_⟩
    rw [← hcj j hj]
    unfold Addr.add
    split
    · rename_i hz; rw [hz]; rfl
    · rfl
end
end Go.Proofs.Ytiljihehbfnakaa
