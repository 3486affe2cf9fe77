/- Plain laws on windows: by turns, wider, fewer, parts. -/
import Derived.Test.YtiljihehbfnakaaTells
namespace Go.Proofs.Ytiljihehbfnakaa
open Go.ChangeShapes Go.WideShapes Go.ChangeAt Go.RowKit
set_option linter.unusedVariables false

def turned (l : List Wk) (t : Nat) : List Wk := (List.replicate t l).flatten
theorem turned_zero (l : List Wk) : turned l 0 = [] := rfl
theorem turned_succ (l : List Wk) (t : Nat) : turned l (t + 1) = l ++ turned l t := by simp [turned, List.replicate_succ]
theorem turned_succ' (l : List Wk) (t : Nat) : turned l (t + 1) = turned l t ++ l := by simp [turned, List.replicate_succ']
theorem turned_len (l : List Wk) : ∀ t, (turned l t).length = t * l.length
  | 0 => by simp [turned]
  | t + 1 => by rw [turned_succ, List.length_append, turned_len l t, Nat.succ_mul, Nat.add_comm]
theorem turned_get (l : List Wk) : ∀ (t d p : Nat), d < t → p < l.length → (turned l t)[l.length * d + p]? = l[p]?
  | 0, _, _, h, _ => absurd h (by omega)
  | t + 1, 0, p, _, hp => by rw [turned_succ, Nat.mul_zero, Nat.zero_add, List.getElem?_append_left hp]
  | t + 1, d + 1, p, h, hp => by
    rw [turned_succ, List.getElem?_append_right (by rw [Nat.mul_succ]; omega), show l.length * (d + 1) + p - l.length = l.length * d + p from by rw [Nat.mul_succ]; omega]
    exact turned_get l t d p (by omega) hp
theorem mem_win {ps : List Wk} {j s q : Nat} {x : Wk} (h : ps[j + q]? = some x) (hq : q < s) : x ∈ win ps j s := by
  unfold win
  refine List.mem_of_getElem? (i := q) ?_
  rw [List.getElem?_take_of_lt hq, List.getElem?_drop]; exact h
theorem turn_ok (l : List Wk) (t : Nat) (hl : 1 ≤ l.length) : unf (turned l t) l (l.length : Nat) = (0, false) := by
  refine unf_none rfl hl fun j hj => ?_
  rw [turned_len] at hj
  rw [lacks_false]
  intro x hx
  obtain ⟨p, hp, rfl⟩ := List.getElem_of_mem hx
  have e := Nat.div_add_mod j l.length
  have hr := Nat.mod_lt j hl
  generalize j / l.length = d at e
  generalize j % l.length = r at e hr
  have key : ∀ d', l.length * d' + p < t * l.length → d' < t := fun d' h => by
    rw [Nat.mul_comm t] at h
    exact Nat.lt_of_mul_lt_mul_left (Nat.lt_of_le_of_lt (Nat.le_add_right _ _) h)
  by_cases hpr : r ≤ p
  · refine mem_win (q := p - r) ?_ (by omega)
    rw [show j + (p - r) = l.length * d + p from by omega, turned_get l t d p (key d (by omega)) hp, List.getElem?_eq_getElem hp]
  · refine mem_win (q := p + l.length - r) ?_ (by omega)
    rw [show j + (p + l.length - r) = l.length * (d + 1) + p from by rw [Nat.mul_succ]; omega, turned_get l t (d + 1) p (key (d + 1) (by rw [Nat.mul_succ]; omega)) hp, List.getElem?_eq_getElem hp]
theorem turn_no (l : List Wk) (t : Nat) (hl : 2 ≤ l.length) (hn : l.Nodup) : unf (turned l t) l ((l.length : Int) - 1) = (0, decide (0 < t)) := by
  cases t with
  | zero =>
    exact unf_none (s := l.length - 1) (by omega) (by omega) (fun j hj => absurd hj (by simp [turned]; omega))
  | succ t =>
    refine unf_some (s := l.length - 1) (by omega) (by omega) (by rw [turned_len, Nat.succ_mul]; omega) ?_ (fun j hj => absurd hj (by omega))
    rw [lacks_true]
    refine ⟨l[l.length - 1]'(by omega), List.getElem_mem _, fun hm => ?_⟩
    have e : win (turned l (t + 1)) 0 (l.length - 1) = l.take (l.length - 1) := by
      unfold win
      rw [turned_succ, List.drop_zero, List.take_append_of_le_length (by omega)]
    rw [e] at hm
    obtain ⟨i, hi, he⟩ := List.getElem_of_mem hm
    have hi' : i < l.length - 1 := by simpa using hi
    rw [List.getElem_take] at he
    exact List.pairwise_iff_getElem.1 hn i (l.length - 1) (by omega) (by omega) hi' he
theorem wl_mem (p : Nat → Bool) : ∀ k, ∀ x ∈ wl p k, x.1 ≤ 1 ∨ x.2 < (k : Int)
  | 0 => by
    intro x hx
    simp [wl] at hx
    rcases hx with rfl | rfl <;> simp
  | k + 1 => by
    intro x hx
    simp only [wl, List.mem_append] at hx
    rcases hx with hx | hx
    · rcases wl_mem p k x hx with h | h
      · exact .inl h
      · right; omega
    · split at hx
      · simp [three] at hx
        rcases hx with rfl | rfl | rfl <;> (right; simp; omega)
      · simp at hx
theorem wl_nodup (p : Nat → Bool) : ∀ k, (wl p k).Nodup
  | 0 => by simp [wl]
  | k + 1 => by
    simp only [wl]
    split
    · rw [List.nodup_append]
      refine ⟨wl_nodup p k, by simp [three], fun x hx y hy e => ?_⟩
      subst e
      have := wl_mem p k x hx
      simp [three] at hy
      rcases hy with rfl | rfl | rfl <;> simp at this
    · simpa using wl_nodup p k

theorem win_self {ps : List Wk} {a s : Nat} : win (win ps a s) 0 s = win ps a s := by
  unfold win; rw [List.drop_zero, List.take_take, Nat.min_self]
theorem alone_law {ps need : List Wk} {a s : Nat} (hs : 1 ≤ s) (ha : a + s ≤ ps.length) (h : lacks need (win ps a s) = true) : unf (win ps a s) need (s : Nat) = (0, true) :=
  unf_some rfl hs (by simp [win]; omega) (by rw [win_self]; exact h) (fun j hj => absurd hj (by omega))
theorem ahead_law {ps need : List Wk} {a s : Nat} (hs : 1 ≤ s) (ha : a + s ≤ ps.length) (h : ∀ j, j < a → lacks need (win ps j s) = false) : unf (ps.take (a + s - 1)) need (s : Nat) = (0, false) := by
  refine unf_none rfl hs fun j hj => ?_
  have hj' : j + s ≤ a + s - 1 := by simp at hj; omega
  have e : win (ps.take (a + s - 1)) j s = win ps j s := by
    unfold win; rw [List.drop_take, List.take_take, Nat.min_eq_left (by omega)]
  rw [e]; exact h j (by omega)
theorem wide_law {ps need : List Wk} {s m : Nat} (hs : 1 ≤ s) (h : ∀ j, j + s ≤ ps.length → lacks need (win ps j s) = false) : unf ps need ((s : Int) + (m : Int)) = (0, false) := by
  refine unf_none (s := s + m) (by omega) (by omega) fun j hj => ?_
  have := h j (by omega)
  rw [lacks_false] at this ⊢
  intro x hx
  have h1 := this x hx
  unfold win at h1 ⊢
  rw [List.take_add]
  exact List.mem_append_left _ h1
theorem few_law {ps need : List Wk} {s k : Nat} (hs : 1 ≤ s) (h : ∀ j, j + s ≤ ps.length → lacks need (win ps j s) = false) : unf ps (need.take k) (s : Nat) = (0, false) := by
  refine unf_none rfl hs fun j hj => ?_
  have := h j hj
  rw [lacks_false] at this ⊢
  exact fun x hx => this x (List.mem_of_mem_take hx)
theorem part_law {ps need : List Wk} {s f m : Nat} (hs : 1 ≤ s) (hf : f + m ≤ ps.length) (h : ∀ j, j + s ≤ ps.length → lacks need (win ps j s) = false) : unf ((ps.drop f).take m) need (s : Nat) = (0, false) := by
  refine unf_none rfl hs fun j hj => ?_
  have hj' : j + s ≤ m := by simp at hj; omega
  have e : win ((ps.drop f).take m) j s = win ps (f + j) s := by
    unfold win; rw [List.drop_take, List.take_take, Nat.min_eq_left (by omega), List.drop_drop]
  rw [e]; exact h (f + j) (by omega)

/-! ### slices -/
theorem slice_to (t : TypeId) (ht : t = 28 ∨ t = 23) (A : Option Addr) (n c h : Nat) (hc : h ≤ c) (W : World) : (Instr.slice t (.slice A n c) none (some (.int .i64 h)) none).run Try.prog W = .ok (.slice A h c) W := by
  have h1 : (0 : Int) ≤ (h : Int) ∧ (h : Int) ≤ (c : Int) := by omega
  have e : (if c = 0 then A else Option.map (fun x : Addr => x.add (0 * 2)) A) = A := by
    split
    · rfl
    · cases A
      · rfl
      · simp [Addr.add]
  rcases ht with rfl | rfl
  · simp [Instr.slice, go_sem, h1]
    first | done | exact e | (cases A <;> simp [Addr.add]) 
  · simp [Instr.slice, go_sem, h1]
    first | done | exact e | (cases A <;> simp [Addr.add])
theorem slice_mid (t : TypeId) (ht : t = 28 ∨ t = 23) (A : Option Addr) (n c f h : Nat) (hf : f ≤ h) (hc : h ≤ c) (W : World) : (Instr.slice t (.slice A n c) (some (.int .i64 f)) (some (.int .i64 h)) none).run Try.prog W = .ok (.slice (if c = f then A else A.map fun x => x.add (f * 2)) (h - f) (c - f)) W := by
  have h1 : (0 : Int) ≤ (h : Int) ∧ (h : Int) ≤ (c : Int) := by omega
  rcases ht with rfl | rfl
  · simp [Instr.slice, go_sem, h1, hf, hc]
  · simp [Instr.slice, go_sem, h1, hf, hc]
theorem WkAt.mid {w : World} {B n c : Nat} {A : Option Addr} {l : List Wk} (h : WkAt w B A n l) (f g : Nat) (hf : f ≤ g) (hg : g ≤ n) (hn : n ≤ c) : WkAt w B (if c = f then A else A.map fun x => x.add (f * 2)) (g - f) ((l.drop f).take (g - f)) := by
  rcases Nat.lt_or_ge f g with h0 | h0
  · obtain ⟨b, off, rfl, _⟩ := h.2.2 (by omega)
    rw [if_neg (by omega)]
    have e : (some (⟨b, off, none⟩ : Addr)).map (fun x => x.add (f * 2)) = some ⟨b, off + f * 2, none⟩ := by
      rw [Option.map_some]
      unfold Addr.add
      split
      · rename_i hz; rw [hz]; rfl
      · rfl
    rw [e]
    exact h.part f (g - f) (by omega)
  · rw [show g - f = 0 from by omega, List.take_zero]; exact WkAt.empty
theorem WkAt.to {w : World} {B n : Nat} {A : Option Addr} {l : List Wk} (h : WkAt w B A n l) (g : Nat) (hg : g ≤ n) : WkAt w B A g (l.take g) := by
  have := h.mid (c := n + g + 1) 0 g (by omega) hg (by omega)
  rw [if_neg (by omega), Nat.sub_zero, List.drop_zero] at this
  have e : A.map (fun x => x.add (0 * 2)) = A := by
    cases A
    · rfl
    · simp [Addr.add]
  rw [e] at this; exact this
end Go.Proofs.Ytiljihehbfnakaa
