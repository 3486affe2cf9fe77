/- Rows of bytes and rows of items, as a walk asks for them; items and bytes in plain Lean. -/
import Derived.Test.YtpmdlaomplmpiaaFlat
import Derived.Lib.SmallJoins
namespace Go.Proofs.Ytpmdlaomplmpiaa
open Go.ChangeShapes Go.WideShapes Go.ChangeAt Go.RowKit
set_option linter.unusedVariables false

/-- n bytes from an address on -/
def BytesAt (w : World) (B : Nat) (A : Option Addr) (n : Nat) (xs : List Int) : Prop :=
  xs.length = n ∧ (∀ x ∈ xs, 0 ≤ x ∧ x ≤ 255) ∧ (0 < n → ∃ b off, A = some ⟨b, off, none⟩ ∧ b < B ∧ ∀ i, i < n → w.cell? ⟨b, off + i, none⟩ = some (.int .u8 (xs.getD i 0)))
theorem BytesAt.keep {w w' : World} {B B' : Nat} {A : Option Addr} {n : Nat} {xs : List Int} (h : BytesAt w B A n xs) (hc : ∀ b o, b < B → w'.cell? ⟨b, o, none⟩ = w.cell? ⟨b, o, none⟩) (hB : B ≤ B') : BytesAt w' B' A n xs := by
  obtain ⟨h1, h2, h3⟩ := h
  refine ⟨h1, h2, fun hn => ?_⟩
  obtain ⟨b, off, rfl, hb, hcell⟩ := h3 hn
  exact ⟨b, off, rfl, by omega, fun i hi => (hc _ _ hb).trans (hcell i hi)⟩
/-- an item: its name, its data -/
abbrev It := Int × List Int
def ItemsAt (w : World) (B : Nat) (A : Option Addr) (n : Nat) (l : List It) : Prop :=
  l.length = n ∧ (∀ x ∈ l, 0 ≤ x.1 ∧ x.1 ≤ 255) ∧ (0 < n → ∃ b off, A = some ⟨b, off, none⟩ ∧ b < B ∧ ∀ i, i < n → ∃ a m c, w.cell? ⟨b, off + i * 2, none⟩ = some (.int .u8 (l.getD i (0, [])).1) ∧ w.cell? ⟨b, off + i * 2 + 1, none⟩ = some (.slice a m c) ∧ m ≤ c ∧ c ≤ maxLen ∧ BytesAt w B a m (l.getD i (0, [])).2)
theorem ItemsAt.keep {w w' : World} {B B' : Nat} {A : Option Addr} {n : Nat} {l : List It} (h : ItemsAt w B A n l) (hc : ∀ b o, b < B → w'.cell? ⟨b, o, none⟩ = w.cell? ⟨b, o, none⟩) (hB : B ≤ B') : ItemsAt w' B' A n l := by
  obtain ⟨h1, h2, h3⟩ := h
  refine ⟨h1, h2, fun hn => ?_⟩
  obtain ⟨b, off, rfl, hb, hcell⟩ := h3 hn
  refine ⟨b, off, rfl, by omega, fun i hi => ?_⟩
  obtain ⟨a, m, c, e1, e2, e3, e4, e5⟩ := hcell i hi
  exact ⟨a, m, c, (hc _ _ hb).trans e1, (hc _ _ hb).trans e2, e3, e4, e5.keep hc hB⟩
theorem below_cells {B : Nat} {w w' : World} (h : Below B w w') : ∀ b o, b < B → w'.cell? ⟨b, o, none⟩ = w.cell? ⟨b, o, none⟩ := fun b o hb => h.cell (p := ⟨b, o, none⟩) hb
theorem BytesAt.below {w w' : World} {B : Nat} {A : Option Addr} {n : Nat} {xs : List Int} (h : BytesAt w B A n xs) (hb : Below B w w') : BytesAt w' B A n xs := h.keep (below_cells hb) (Nat.le_refl _)
theorem ItemsAt.below {w w' : World} {B : Nat} {A : Option Addr} {n : Nat} {l : List It} (h : ItemsAt w B A n l) (hb : Below B w w') : ItemsAt w' B A n l := h.keep (below_cells hb) (Nat.le_refl _)
theorem bytes_own {w : World} {base : Nat} {v : Value} {n : Nat} {xs : List Int} (h : w.ownsRow base 5 1 v n (xs.map (Value.int .u8))) (hx : ∀ x ∈ xs, 0 ≤ x ∧ x ≤ 255) : ∃ A c, v = .slice A n c ∧ BytesAt w w.heap.size A n xs := by
  have hl : xs.length = n := by have := h.1; simpa using this
  rcases Nat.eq_zero_or_pos n with h0 | h0
  · rcases h.2 with ⟨rfl, _⟩ | ⟨g, cap, cur, rfl, _⟩
    · exact ⟨none, 0, by rw [h0], hl, hx, fun hn => absurd hn (by omega)⟩
    · exact ⟨_, cap, rfl, hl, hx, fun hn => absurd hn (by omega)⟩
  · obtain ⟨g, cap, rfl⟩ := Joins.ownsRow_form h h0
    refine ⟨_, cap, rfl, hl, hx, fun _ => ⟨g, 0, rfl, (h.lt g rfl).2, fun i hi => ?_⟩⟩
    rw [Nat.zero_add, h.cellAt i (by omega), List.getElem?_map, List.getD_eq_getElem?_getD, List.getElem?_eq_getElem (by omega)]
    rfl

/-! ### in plain Lean -/
def rightB (x : It) : Bool := decide (1 ≤ x.1) && decide (x.1 ≤ 14) && decide (1 ≤ x.2.length) && decide (x.2.length ≤ 16)
def sizeOf_ : List It → Nat
  | [] => 0
  | x :: r => 1 + x.2.length + sizeOf_ r
/-- the bytes of items, one behind the other -/
def flatB : List It → List Int
  | [] => []
  | x :: r => (16 * x.1 + (x.2.length - 1)) :: x.2 ++ flatB r
theorem flatB_length : ∀ l : List It, (flatB l).length = sizeOf_ l
  | [] => rfl
  | x :: r => by simp [flatB, sizeOf_, flatB_length r]; omega
def padN (n : Nat) : Nat := (4 - n % 4) % 4
def encB (l : List It) : List Int := flatB l ++ List.replicate (padN (flatB l).length) 0
/-- the items that bytes are: by steps; none: bytes that are none -/
def decB : Nat → List Int → Option (List It)
  | 0, _ => some []
  | _ + 1, [] => some []
  | n + 1, b :: r =>
    if b = 0 then decB n r
    else if b < 16 then none
    else if 240 ≤ b then some []
    else if (b % 16).toNat + 1 > r.length then none
    else (decB n (r.drop ((b % 16).toNat + 1))).map ((b / 16, r.take ((b % 16).toNat + 1)) :: ·)
theorem decB_pad : ∀ (n m : Nat), decB n (List.replicate m 0) = some []
  | 0, _ => rfl
  | _ + 1, 0 => rfl
  | n + 1, m + 1 => by rw [List.replicate_succ, decB, if_pos rfl]; exact decB_pad n m
theorem decB_enc : ∀ (l : List It) (n m : Nat), (∀ x ∈ l, rightB x = true) → sizeOf_ l ≤ n → decB n (flatB l ++ List.replicate m 0) = some l
  | [], n, m, _, _ => by simpa [flatB] using decB_pad n m
  | x :: r, n, m, hr, hn => by
    have hx := hr x (by simp)
    simp only [rightB, Bool.and_eq_true, decide_eq_true_eq] at hx
    obtain ⟨⟨⟨h1, h2⟩, h3⟩, h4⟩ := hx
    simp only [sizeOf_] at hn
    obtain ⟨n', rfl⟩ : ∃ n', n = n' + 1 := ⟨n - 1, by omega⟩
    obtain ⟨nm, dt⟩ := x
    simp only at h1 h2 h3 h4 hn
    show decB (n' + 1) ((16 * nm + ((dt.length : Int) - 1)) :: ((dt ++ flatB r) ++ List.replicate m 0)) = _
    rw [List.append_assoc, decB]
    have e1 : ((16 * nm + ((dt.length : Int) - 1)) % 16).toNat + 1 = dt.length := by omega
    have e2 : (16 * nm + ((dt.length : Int) - 1)) / 16 = nm := by omega
    simp only [e1, e2]
    rw [if_neg (by omega), if_neg (by omega), if_neg (by omega), if_neg (by simp), List.drop_left, List.take_left, decB_enc r n' m (fun y hy => hr y (by simp [hy])) (by omega)]
    rfl
theorem encB_mod (l : List It) : (encB l).length % 4 = 0 := by simp [encB, padN]; omega
theorem encB_le (l : List It) (h : sizeOf_ l ≤ 200) : (encB l).length ≤ 200 := by simp [encB, padN, flatB_length]; omega
theorem encB_inj {l m : List It} (hl : ∀ x ∈ l, rightB x = true) (hm : ∀ x ∈ m, rightB x = true) (h : encB l = encB m) : l = m := by
  have a := decB_enc l (sizeOf_ l + sizeOf_ m) (padN (flatB l).length) hl (by omega)
  have b := decB_enc m (sizeOf_ l + sizeOf_ m) (padN (flatB m).length) hm (by omega)
  have h' : flatB l ++ List.replicate (padN (flatB l).length) 0 = flatB m ++ List.replicate (padN (flatB m).length) 0 := h
  rw [h', b] at a
  exact (Option.some.inj a).symm
end Go.Proofs.Ytpmdlaomplmpiaa
