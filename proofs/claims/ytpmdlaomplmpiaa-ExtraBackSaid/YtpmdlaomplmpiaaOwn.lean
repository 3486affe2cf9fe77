/- Rows of one's own: of bytes, of items; slices.Clone; the law's own(l). -/
import Derived.Test.YtpmdlaomplmpiaaSame
import Derived.Lib.SmallJoins
namespace Go.Proofs.Ytpmdlaomplmpiaa
open Go.ChangeShapes Go.WideShapes Go.ChangeAt Go.RowKit
set_option linter.unusedVariables false

theorem own_empty {w : World} {g base : Nat} {e : TypeId} {size : Nat} (h : Blk w g e #[]) (hb : base ≤ g) : w.ownsRow base e size (.slice (some ⟨g, 0, none⟩) 0 0) 0 [] :=
  ⟨by simp, .inr ⟨g, 0, #[], rfl, hb, h, by omega, by unfold maxLen; omega, by simp, by simp⟩⟩

/-- an item with the value that its data is -/
abbrev Iv := It × Value
def ivC (p : Iv) : List Value := [.int .u8 p.1.1, p.2]
theorem ivC_length : ∀ L : List Iv, (L.flatMap ivC).length = L.length * 2
  | [] => rfl
  | p :: r => by simp [List.flatMap_cons, ivC, ivC_length r]; omega
theorem ivC_get : ∀ (L : List Iv) (i : Nat) (hi : i < L.length), (L.flatMap ivC)[i * 2]? = some (.int .u8 (L[i]).1.1) ∧ (L.flatMap ivC)[i * 2 + 1]? = some (L[i]).2
  | [], i, hi => absurd hi (by simp)
  | p :: r, 0, _ => by simp [List.flatMap_cons, ivC]
  | p :: r, i + 1, hi => by
    have := ivC_get r i (by simpa using hi)
    simp only [List.flatMap_cons, ivC, List.cons_append, List.nil_append, List.getElem_cons_succ]
    rw [show (i + 1) * 2 = i * 2 + 1 + 1 from by omega, show i * 2 + 1 + 1 + 1 = i * 2 + 1 + 1 + 1 from rfl]
    exact this
/-- the data of an item, as memory holds it -/
def IvAt (w : World) (B : Nat) (p : Iv) : Prop := (0 ≤ p.1.1 ∧ p.1.1 ≤ 255) ∧ ∃ a m c, p.2 = .slice a m c ∧ m ≤ c ∧ c ≤ maxLen ∧ BytesAt w B a m p.1.2
theorem IvAt.below {w w' : World} {B : Nat} {p : Iv} (h : IvAt w B p) (hb : Below B w w') : IvAt w' B p := by
  obtain ⟨h1, a, m, c, h2, h3, h4, h5⟩ := h
  exact ⟨h1, a, m, c, h2, h3, h4, h5.below hb⟩
theorem items_own {w : World} {base : Nat} {e : TypeId} {v : Value} {n : Nat} {L : List Iv} (h : w.ownsRow base e 2 v n (L.flatMap ivC)) {B : Nat} (hB : B ≤ w.heap.size) (hx : ∀ p ∈ L, IvAt w B p) :
    ∃ A c, v = .slice A n c ∧ n ≤ c ∧ c ≤ maxLen ∧ ItemsAt w w.heap.size A n (L.map (·.1)) := by
  have hl : L.length = n := by have := h.1; rw [ivC_length] at this; omega
  have hr : ∀ x ∈ L.map (·.1), 0 ≤ x.1 ∧ x.1 ≤ 255 := by
    intro x hx'
    obtain ⟨p, hp, rfl⟩ := List.mem_map.1 hx'
    exact (hx p hp).1
  rcases h.2 with ⟨rfl, rfl⟩ | ⟨g, cap, cur, rfl, h1, h2, h3, h4, h5, h6⟩
  · exact ⟨none, 0, rfl, by omega, by unfold maxLen; omega, by simpa using hl, hr, fun hn => absurd hn (by omega)⟩
  · refine ⟨_, cap, rfl, h3, h4, by simpa using hl, hr, fun _ => ⟨g, 0, rfl, (h.lt g rfl).2, fun i hi => ?_⟩⟩
    have hi' : i < L.length := by omega
    have c1 := h.cellAt (i * 2) (by omega)
    have c2 := h.cellAt (i * 2 + 1) (by omega)
    have q := ivC_get L i hi'
    obtain ⟨_, a, m, c, k1, k2, k3, k4⟩ := hx L[i] (List.getElem_mem _)
    have hg : (L.map (·.1)).getD i (0, []) = (L[i]).1 := by
      rw [List.getD_eq_getElem?_getD, List.getElem?_map, List.getElem?_eq_getElem hi']; rfl
    refine ⟨a, m, c, ?_, ?_, k2, k3, ?_⟩
    · rw [Nat.zero_add, c1, q.1, hg]
    · rw [Nat.zero_add, c2, q.2, k1]
    · rw [hg]; exact k4.mono hB

theorem Try.info5 : (Try.prog.info? 5).map (fun i => (i.zero, i.size, i.bytes)) = some (some (.int .u8 0), 1, 1) := by kernel_rfl
theorem Try.info37 : (Try.prog.info? 37).map (fun i => (i.zero, i.size, i.bytes)) = some (some (.agg #[.int .u8 0, .slice none 0 0]), 2, 32) := by kernel_rfl
theorem Try.info42 : (Try.prog.info? 42).map (fun i => (i.zero, i.size, i.bytes)) = some (some (.agg #[.int .u8 0, .slice none 0 0]), 2, 32) := by kernel_rfl

theorem bytes_news {w : World} {B : Nat} {b off : Nat} {n : Nat} {xs : List Int} (h : BytesAt w B (some ⟨b, off, none⟩) n xs) : ∀ j u, (xs.map (Value.int .u8))[j]? = some u → w.cell? ((⟨b, off, none⟩ : Addr).add j) = some u := by
  intro j u hu
  obtain ⟨h1, h2, h3⟩ := h
  rw [List.getElem?_map] at hu
  have hj : j < xs.length := by
    rcases Nat.lt_or_ge j xs.length with h | h
    · exact h
    · rw [List.getElem?_eq_none h] at hu; simp at hu
  obtain ⟨b', off', he, hb, hc⟩ := h3 (by omega)
  simp only [Option.some.injEq, Addr.mk.injEq] at he
  obtain ⟨rfl, rfl, -⟩ := he
  rw [List.getElem?_eq_getElem hj] at hu
  have := hc j (by omega)
  rw [List.getD_eq_getElem?_getD, List.getElem?_eq_getElem hj] at this
  have he : (⟨b, off, none⟩ : Addr).add j = ⟨b, off + j, none⟩ := by
    rcases Nat.eq_zero_or_pos j with rfl | hp
    · rfl
    · simp [Addr.add]; omega
  rw [he, this]; simpa using hu
theorem bytes_one {xs : List Int} : ∀ u ∈ xs.map (Value.int .u8), u.oneCell' = true := by
  intro u hu; obtain ⟨x, _, rfl⟩ := List.mem_map.1 hu; rfl

theorem clone_any (b off n c : Nat) (xs : List Int) (w : World) (h : BytesAt w w.heap.size (some ⟨b, off, none⟩) n xs) (hn : 0 < n) (hm : n ≤ 1000) :
    Calls Try.prog 13 #[.slice (some ⟨b, off, none⟩) n c] w fun e w' => ∃ v, e = .returned v ∧ w'.ownsRow w.heap.size 5 1 v n (xs.map (Value.int .u8)) ∧ Below w.heap.size w w' := by
  obtain ⟨i0, hi, hz0, hz1, hz2⟩ := info_parts Try.info5
  have HI := Lib.hid hi; have HZ0 := Lib.hid hz0; have HZ1 := Lib.hid hz1; have HZ2 := Lib.hid hz2
  clear hi hz0 hz1 hz2
  have hb : b < w.heap.size := by
    obtain ⟨h1, h2, h3⟩ := h
    obtain ⟨b', off', he, hb, hc⟩ := h3 (by omega)
    simp only [Option.some.injEq, Addr.mk.injEq] at he
    omega
  have own := own_empty (Blk.new w 5 #[]) (base := w.heap.size) (e := 5) (size := 1) (Nat.le_refl _)
  have nw := bytes_news (h.below ((Below.refl _ w).alloc (Nat.le_refl _) (.cells #[] 5)))
  have he : ∀ W : World, (binOp .eql 25 (.slice (some ⟨b, off, none⟩) n c) (.slice none 0 0)).run Try.prog W = .ok (.bool false) W := fun _ => rfl
  go_enter Try.func13, Try.ntmps13
  go_wp2_with (at_builtin; refine wpList_append_own _ rfl _ _ 25 rfl w.heap.size 5 i0 (.int .u8 0) 1 1 Try.underlying25 HI.out HZ0.out HZ1.out HZ2.out rfl (by decide) _ _ _ rfl own ⟨b, off, none⟩ n c (xs.map (Value.int .u8)) rfl (by simp [h.1]) nw bytes_one ?c3 ?c4 ?c5 ?_)
  case c3 => unfold maxLen; omega
  case c4 => omega
  case c5 => simp
  intro v5 w5 own5 g5 _
  go_wp2_with fail
  go_ret
  refine ⟨_, rfl, ?_, ?_⟩
  · simpa using own5
  · exact ((Below.refl _ w).alloc (Nat.le_refl _) (.cells #[] 5)).grown g5 (by simp) (fun j hj => by have := (own.lt j hj).1; omega)
end Go.Proofs.Ytpmdlaomplmpiaa
