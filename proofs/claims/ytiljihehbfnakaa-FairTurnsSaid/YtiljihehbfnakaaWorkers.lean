/- slices.Contains, the two Workers. -/
import Derived.Test.YtiljihehbfnakaaOwn
namespace Go.Proofs.Ytiljihehbfnakaa
open Go.ChangeShapes Go.WideShapes Go.ChangeAt Go.RowKit
set_option linter.unusedVariables false

/-- numbers in memory -/
def IntAt (w : World) (B : Nat) (A : Option Addr) (n : Nat) (l : List Int) : Prop :=
  l.length = n ∧ (0 < n → ∃ b off, A = some ⟨b, off, none⟩ ∧ b < B ∧ ∀ i, i < n → w.cell? ⟨b, off + i, none⟩ = some (.int .i64 (l.getD i 0)))
theorem IntAt.keep {w w' : World} {B B' : Nat} {A : Option Addr} {n : Nat} {l : List Int} (h : IntAt w B A n l) (hc : ∀ b o, b < B → w'.cell? ⟨b, o, none⟩ = w.cell? ⟨b, o, none⟩) (hB : B ≤ B') : IntAt w' B' A n l := by
  obtain ⟨h1, h3⟩ := h
  refine ⟨h1, fun h0 => ?_⟩
  obtain ⟨b, off, e, hb, hi⟩ := h3 h0
  exact ⟨b, off, e, by omega, fun i hin => (hc _ _ hb).trans (hi i hin)⟩
theorem IntAt.below {w w' : World} {B : Nat} {A : Option Addr} {n : Nat} {l : List Int} (h : IntAt w B A n l) (hb : Below B w w') : IntAt w' B A n l := h.keep (fun b o h => hb.cell (p := ⟨b, o, none⟩) h) (Nat.le_refl _)
theorem IntAt.mono {w : World} {B B' : Nat} {A : Option Addr} {n : Nat} {l : List Int} (h : IntAt w B A n l) (hB : B ≤ B') : IntAt w B' A n l := h.keep (fun _ _ _ => rfl) hB
theorem own_lit {w : World} {g base n size : Nat} {e : TypeId} {cs : Array Value} (h : Blk w g e cs) (hb : base ≤ g) (hn : cs.size = n * size) (hm : n ≤ maxLen) : w.ownsRow base e size (.slice (some ⟨g, 0, none⟩) n n) n cs.toList :=
  ⟨by simpa using hn, .inr ⟨g, n, cs, rfl, hb, h, by omega, hm, hn, by rw [← hn, List.take_of_length_le (by simp)]⟩⟩

theorem index_any (A : Option Addr) (n c : Nat) (l : List Int) (x : Int) (w : World) (h : IntAt w w.heap.size A n l) (hm : n ≤ 100000) :
    Calls Try.prog 19 #[.slice A n c, .int .i64 x] w fun e w' => (∃ r, e = .returned (.int .i64 r) ∧ decide (0 ≤ r) = decide (x ∈ l)) ∧ w' = w := by
  obtain ⟨hl, hc⟩ := h
  go_enter Try.func19, Try.ntmps19
  go_wp2_with fail
  go_loopw [8] (fun i wr => ∃ k : Nat, i = .int .i64 k ∧ k ≤ n ∧ (∀ j, j < k → l.getD j 0 ≠ x) ∧ wr = w) (fun i _ => n - (intOf i).toNat)
  case atStart => exact ⟨0, rfl, by omega, fun j hj => absurd hj (by omega), rfl⟩
  case round =>
    obtain ⟨k, rfl, hk, hs, rfl⟩ := hrel
    by_cases hlt : k < n
    · obtain ⟨b, off, rfl, hb, hcell⟩ := hc (by omega)
      have e1 := hcell k hlt
      have hmem : l.getD k 0 ∈ l := by rw [List.getD_eq_getElem?_getD, List.getElem?_eq_getElem (by omega)]; exact List.getElem_mem _
      generalize hy : l.getD k 0 = y at e1 hmem
      have HS := Lib.hid hs; have HM := Lib.hid hmem; have HY := Lib.hid hy
      clear hs hcell hc hmem hy
      by_cases hxy : x = y
      · subst hxy
        go_wp2_with fail
        go_ret
        exact ⟨⟨k, rfl, by rw [show decide (x ∈ l) = true from by simpa using HM.out]; simp⟩, rfl⟩
      · go_wp2_with fail
        go_roundw
        case rel =>
          refine ⟨k + 1, by go_num, by omega, fun j hj => ?_, (by first | rfl | trivial)⟩
          rcases Nat.lt_or_ge j k with hj' | hj'
          · exact HS.out j hj'
          · have : j = k := by omega
            subst this
            rw [HY.out]
            exact fun e => hxy e.symm
        case measure => simp [intOf]; omega
    · have hk' : k = n := by omega
      subst hk'
      have hL : decide (x ∈ l) = false := by
        simp only [decide_eq_false_iff_not]
        intro hx
        obtain ⟨j, hj, e⟩ := List.getElem_of_mem hx
        refine hs j (by omega) ?_
        rw [List.getD_eq_getElem?_getD, List.getElem?_eq_getElem hj]; exact e
      have HL := Lib.hid hL; clear hL hs
      go_wp2_with fail
      go_ret
      exact ⟨⟨-1, rfl, by rw [HL.out]; rfl⟩, rfl⟩
theorem contains_any (A : Option Addr) (n c : Nat) (l : List Int) (x : Int) (w : World) (h : IntAt w w.heap.size A n l) (hm : n ≤ 100000) :
    Calls Try.prog 18 #[.slice A n c, .int .i64 x] w fun e w' => e = .returned (.bool (decide (x ∈ l))) ∧ w' = w := by
  go_enter Try.func18, Try.ntmps18
  go_wp2_with fail
  refine (index_any _ _ _ l x _ h hm).mono ?_
  rintro e w1 ⟨⟨r, rfl, hr⟩, rfl⟩
  have HR := Lib.hid hr; clear hr
  go_wp2_with fail
  go_ret
  exact ⟨by rw [← HR.out]; rfl, rfl⟩

/-- the workers of the subscribers that there are -/
def three (s : Nat) : List Wk := [(2, (s : Int)), (3, (s : Int)), (4, (s : Int))]
def wl (p : Nat → Bool) : Nat → List Wk
  | 0 => [(0, 0), (1, 0)]
  | k + 1 => wl p k ++ if p k then three k else []
theorem wl_len (p : Nat → Bool) : ∀ k, (wl p k).length ≤ 2 + 3 * k ∧ 2 ≤ (wl p k).length
  | 0 => by simp [wl]
  | k + 1 => by
    have := wl_len p k
    simp only [wl, List.length_append]
    split <;> simp [three] <;> omega
theorem wl_ok (p : Nat → Bool) : ∀ k, k ≤ 1000 → ∀ x ∈ wl p k, okW x
  | 0, _ => by
    intro x hx
    simp [wl] at hx
    rcases hx with rfl | rfl <;> exact ⟨okI_small (by simp) (by simp), okI_small (by simp) (by simp)⟩
  | k + 1, h => by
    intro x hx
    simp only [wl, List.mem_append] at hx
    rcases hx with hx | hx
    · exact wl_ok p k (by omega) x hx
    · split at hx
      · simp [three] at hx
        rcases hx with rfl | rfl | rfl <;> exact ⟨okI_small (by simp) (by simp), okI_small (by simp <;> omega) (by simp <;> omega)⟩
      · simp at hx
def inP (subs : List Int) (s : Nat) : Bool := decide ((s : Int) ∈ subs)

set_option maxHeartbeats 1000000 in
theorem workers_any (A : Option Addr) (n c : Nat) (l : List Int) (w : World) (h : IntAt w w.heap.size A n l) (hm : n ≤ 100000) :
    Calls Try.prog 14 #[.slice A n c] w fun e w' => (∃ A' m c', e = .returned (.slice A' m c') ∧ m ≤ c' ∧ c' ≤ maxLen ∧ WkAt w' w'.heap.size A' m (wl (inP l) 6)) ∧ Below w.heap.size w w' := by
  obtain ⟨i0, hi, hz0, hz1, hz2⟩ := info_parts Try.info41
  have HI := Lib.hid hi; have HZ0 := Lib.hid hz0; have HZ1 := Lib.hid hz1; have HZ2 := Lib.hid hz2
  have HL := Lib.hid h
  clear hi hz0 hz1 hz2 h
  go_enter Try.func14, Try.ntmps14
  go_wp2_with fail
  go_loopw [3, 9] (fun v i wr => ∃ (k : Nat), i = .int .i64 k ∧ k ≤ 6 ∧ wr.ownsRow w.heap.size 41 2 v (wl (inP l) k).length ((wl (inP l) k).flatMap wkC) ∧ Below w.heap.size w wr) (fun _ i _ => 6 - (intOf i).toNat)
  case atStart =>
    exact ⟨0, rfl, by omega, own_lit (n := 2) (Blk.new w 41 #[.int .i64 0, .int .i64 0, .int .i64 1, .int .i64 0]) (Nat.le_refl _) rfl (by unfold maxLen; omega), (Below.refl _ w).alloc (Nat.le_refl _) _⟩
  case round =>
    rename_i wr
    obtain ⟨k, rfl, hk, own, dr⟩ := hrel
    have sz := dr.size
    by_cases hlt : k < 6
    · go_wp2_with fail
      refine (contains_any _ _ _ l k _ ((HL.out.below dr).mono sz) hm).mono ?_
      rintro e w1 ⟨rfl, rfl⟩
      have hstep : wl (inP l) (k + 1) = wl (inP l) k ++ if inP l k then three k else [] := rfl
      cases hb : decide ((k : Int) ∈ l)
      · have hs2 : wl (inP l) (k + 1) = wl (inP l) k := by rw [hstep, show inP l k = false from hb]; simp
        have HS := Lib.hid hs2; clear hs2 hstep hb
        go_wp2_with fail
        go_roundw
        case rel => exact ⟨k + 1, by go_num, by omega, by rw [HS.out]; exact own, dr⟩
        case measure => simp [intOf]; omega
      · have hs2 : wl (inP l) (k + 1) = wl (inP l) k ++ three k := by rw [hstep, show inP l k = true from hb]; simp
        have HS := Lib.hid hs2; clear hs2 hstep hb
        have hwl := (wl_len (inP l) k).1
        go_wp2_with fail
        go_loopw [3, 5] (fun v i wr => ∃ (q : Nat), i = .int .i64 (2 + q) ∧ q ≤ 3 ∧ wr.ownsRow w.heap.size 41 2 v (wl (inP l) k ++ (three k).take q).length ((wl (inP l) k ++ (three k).take q).flatMap wkC) ∧ Below w.heap.size w wr) (fun _ i _ => 5 - (intOf i).toNat)
        case atStart => exact ⟨0, rfl, by omega, by simpa using own, dr⟩
        case round =>
          clear own dr sz
          obtain ⟨q, rfl, hq, own, dr⟩ := hrel
          have sz := dr.size
          by_cases hlq : q < 3
          · have htk : (three k).take (q + 1) = (three k).take q ++ [((2 + q : Int), (k : Int))] := by
              rcases q with _ | _ | _ | q <;> first | rfl | omega
            have hlen : (wl (inP l) k ++ (three k).take q).length ≤ 50 := by simp; omega
            have HT := Lib.hid htk; clear htk
            have hq4 : (2 + (q : Int)) ≤ 4 := by omega
            generalize hP : wl (inP l) k ++ (three k).take q = P at own hlen
            have HP := Lib.hid hP; clear hP
            go_wp2_with (at_builtin; go_loud (refine wpList_append_own _ rfl _ _ 23 rfl w.heap.size 41 i0 (.agg #[.int .i64 0, .int .i64 0]) 2 16 Try.underlying23 HI.out HZ0.out HZ1.out HZ2.out rfl (by decide) _ _ _ rfl (own.alloc _) ⟨wr.heap.size, 0, none⟩ 1 1 (wkC ((2 + q : Int), (k : Int))) rfl rfl ?c1 ?c2 ?c3 ?c4 ?c5 ?_))
            case c1 =>
              intro j u hu
              rcases j with _ | _ | j
              · simp [wkC] at hu; subst hu; simp [Addr.add, go_sem]
              · simp [wkC] at hu; subst hu; simp [Addr.add, go_sem]
              · simp [wkC] at hu
            case c2 => intro u hu; simp [wkC] at hu; rcases hu with rfl | rfl <;> rfl
            case c3 => unfold maxLen; omega
            case c4 => omega
            case c5 => simp; omega
            intro v5 w5 own5 g5 _
            have dr5 : Below w.heap.size w w5 := (dr.alloc sz _).grown g5 (by simp; omega) (fun j hj => by have := (own.lt j hj).1; omega)
            have own6 : w5.ownsRow w.heap.size 41 2 v5 (P ++ [((2 + q : Int), (k : Int))]).length ((P ++ [((2 + q : Int), (k : Int))]).flatMap wkC) := by rw [List.flatMap_append]; simpa using own5
            go_wp2_with fail
            go_roundw
            case rel => exact ⟨q + 1, by go_num, by omega, by rw [HT.out, ← List.append_assoc, HP.out]; exact own6, dr5⟩
            case measure => simp [intOf]; omega
          · have hq' : q = 3 := by omega
            subst hq'
            rw [show (three k).take 3 = three k from rfl, ← HS.out] at own
            go_wp2_with fail
            go_roundw
            case rel => exact ⟨k + 1, by go_num, by omega, own, dr⟩
            case measure => simp [intOf]; omega
    · have hk' : k = 6 := by omega
      subst hk'
      obtain ⟨A', c', rfl, q1, q2, q3⟩ := wk_own own (wl_ok _ _ (by omega))
      have Q := Lib.hid q3; have Q1 := Lib.hid q1; have Q2 := Lib.hid q2
      clear q3 own q1 q2
      go_wp2_with fail
      go_ret
      exact ⟨⟨_, _, _, rfl, Q1.out, Q2.out, Q.out⟩, dr⟩
end Go.Proofs.Ytiljihehbfnakaa
