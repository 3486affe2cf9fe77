/- extra.Read. -/
import Derived.Test.YtpmdlaomplmpiaaBytes
namespace Go.Proofs.Ytpmdlaomplmpiaa
open Go.ChangeShapes Go.WideShapes Go.ChangeAt Go.RowKit
set_option linter.unusedVariables false

theorem own_own_ne {w : World} {base base' : Nat} {e e' : TypeId} {size size' n n' : Nat} {v v' : Value} {xs xs' : List Value} (h : w.ownsRow base e size v n xs) (h' : w.ownsRow base' e' size' v' n' xs') (hne : e ≠ e') : v.ownBlock = none ∨ v.ownBlock ≠ v'.ownBlock := by
  rcases h.2 with ⟨rfl, _⟩ | ⟨g, cap, cur, rfl, _, hh, _⟩
  · exact .inl rfl
  · right
    intro he
    exact own_blk_ne h' (show Blk w g e cur from hh) (Ne.symm hne) (by simpa [Value.ownBlock] using he)
theorem own_mono {w : World} {base base' : Nat} {e : TypeId} {size n : Nat} {v : Value} {xs : List Value} (h : w.ownsRow base e size v n xs) (hb : base' ≤ base) : w.ownsRow base' e size v n xs := by
  obtain ⟨h1, h2⟩ := h
  refine ⟨h1, h2.imp id ?_⟩
  rintro ⟨g, cap, cur, q1, q2, q3⟩
  exact ⟨g, cap, cur, q1, by omega, q3⟩
/-- an item whose data is a row of one's own -/
def IvOwn (w : World) (B : Nat) (p : Iv) : Prop := (0 ≤ p.1.1 ∧ p.1.1 ≤ 255) ∧ (∀ x ∈ p.1.2, 0 ≤ x ∧ x ≤ 255) ∧ w.ownsRow B 5 1 p.2 p.1.2.length (p.1.2.map (Value.int .u8))
theorem IvOwn.at_ {w : World} {B : Nat} {p : Iv} (h : IvOwn w B p) : IvAt w w.heap.size p := by
  obtain ⟨h1, h2, h3⟩ := h
  refine ⟨h1, ?_⟩
  obtain ⟨A, c, e, hb⟩ := bytes_own h3 h2
  rcases h3.2 with ⟨e', _⟩ | ⟨g, cap, cur, e', _, _, q1, q2, _⟩
  · rw [e'] at e; simp only [Value.slice.injEq] at e
    obtain ⟨rfl, e2, rfl⟩ := e
    rw [← e2] at hb
    exact ⟨none, 0, 0, e', by omega, by unfold maxLen; omega, hb⟩
  · rw [e'] at e; simp only [Value.slice.injEq] at e
    obtain ⟨rfl, e2, rfl⟩ := e
    exact ⟨_, _, _, e', q1, q2, hb⟩

theorem bytesSub {w : World} {B b off n : Nat} {bs : List Int} (h : BytesAt w B (some ⟨b, off, none⟩) n bs) (k m : Nat) (hm : k + m ≤ n) : BytesAt w B (some ⟨b, off + k, none⟩) m ((bs.drop k).take m) := by
  obtain ⟨h1, h2, h3⟩ := h
  refine ⟨by simp; omega, fun x hx => h2 x (List.mem_of_mem_drop (List.mem_of_mem_take hx)), fun hm0 => ?_⟩
  obtain ⟨b', off', he, hb, hc⟩ := h3 (by omega)
  simp only [Option.some.injEq, Addr.mk.injEq] at he
  obtain ⟨rfl, rfl, -⟩ := he
  refine ⟨b, off + k, rfl, hb, fun i hi => ?_⟩
  have := hc (k + i) (by omega)
  rw [← Nat.add_assoc] at this
  rw [this, List.getD_eq_getElem?_getD, List.getD_eq_getElem?_getD, List.getElem?_take_of_lt hi, List.getElem?_drop]

/-- one step of decB -/
theorem decB_step {f : Nat} {bs : List Int} {k : Nat} (hk : k < bs.length) : decB (f + 1) (bs.drop k) =
    (if bs.getD k 0 = 0 then decB f (bs.drop (k + 1)) else if bs.getD k 0 < 16 then none else if 240 ≤ bs.getD k 0 then some []
     else if ((bs.getD k 0) % 16).toNat + 1 > bs.length - (k + 1) then none
     else (decB f (bs.drop (k + 1 + (((bs.getD k 0) % 16).toNat + 1)))).map (((bs.getD k 0) / 16, (bs.drop (k + 1)).take (((bs.getD k 0) % 16).toNat + 1)) :: ·)) := by
  rw [List.drop_eq_getElem_cons hk, decB, List.getD_eq_getElem?_getD, List.getElem?_eq_getElem hk]
  simp only [Option.getD_some, List.length_drop, List.drop_drop]

set_option maxHeartbeats 2000000 in
theorem read_ok (A : Option Addr) (n c : Nat) (bs : List Int) (w : World) (h : BytesAt w w.heap.size A n bs) (hm : n ≤ 200) (hnc : n ≤ c) (hcm : c ≤ maxLen) (N : Nat) (hN : n ≤ N) (L0 : List It) (hL0 : decB N bs = some L0) :
    Calls Try.prog 7 #[.slice A n c] w fun e w' => (∃ A' c', e = .returned (.tuple #[.slice A' L0.length c', .int .i64 0]) ∧ ItemsAt w' w'.heap.size A' L0.length L0) ∧ Below w.heap.size w w' := by
  obtain ⟨i0, hi, hz0, hz1, hz2⟩ := info_parts Try.info37
  have HI := Lib.hid hi; have HZ0 := Lib.hid hz0; have HZ1 := Lib.hid hz1; have HZ2 := Lib.hid hz2
  clear hi hz0 hz1 hz2
  have HB := Lib.hid h; have H0 := Lib.hid hL0
  clear h hL0
  go_enter Try.func7, Try.ntmps7
  go_wp2_with fail
  go_step3
  go_wp2_with fail
  go_step3
  go_wp2_with fail
  go_loopw [4, 5] (fun v i wr => ∃ (k : Nat) (L : List Iv) (f : Nat) (R : List It), i = .int .i64 k ∧ k ≤ n ∧ n - k ≤ f ∧ decB f (bs.drop k) = some R ∧ L.map (·.1) ++ R = L0 ∧ L.length ≤ k ∧ wr.ownsRow w.heap.size 37 2 v L.length (L.flatMap ivC) ∧ (∀ p ∈ L, IvOwn wr w.heap.size p) ∧ Below w.heap.size w wr) (fun _ i _ => n - (intOf i).toNat)
  case atStart => exact ⟨0, [], N, L0, rfl, by omega, by omega, H0.out, rfl, by simp, ⟨rfl, .inl ⟨rfl, rfl⟩⟩, fun p hp => absurd hp (by simp), Below.refl _ w⟩
  case round =>
    obtain ⟨k, L, f, R, rfl, hk, hf, hdec, hLR, hLk, own, hp, dr⟩ := hrel
    have sz := dr.size
    by_cases hlt : k < n
    · obtain ⟨hl, hr, h3⟩ := HB.out
      obtain ⟨b, off, rfl, hb, hcell⟩ := h3 (by omega)
      have f1 := (dr.cell (p := ⟨b, off + k, none⟩) hb).trans (hcell k hlt)
      obtain ⟨f', rfl⟩ : ∃ f', f = f' + 1 := ⟨f - 1, by omega⟩
      rw [decB_step (by omega)] at hdec
      have hx : 0 ≤ bs.getD k 0 ∧ bs.getD k 0 ≤ 255 := hr _ (by rw [List.getD_eq_getElem?_getD, List.getElem?_eq_getElem (by omega)]; exact List.getElem_mem _)
      generalize bs.getD k 0 = x at f1 hdec hx
      clear hcell h3
      have HR := Lib.hid hr; clear hr
      have hL : n = bs.length := hl.symm
      have HL := Lib.hid hL
      clear hl hL
      by_cases x0 : x = 0
      · subst x0
        rw [if_pos rfl] at hdec
        have HD := Lib.hid hdec; have HP := Lib.hid hp; have HV := Lib.hid hLR
        clear hdec hp hLR
        go_wp2_with fail
        go_roundw
        case rel => exact ⟨k + 1, L, f', R, by go_num, by omega, by omega, HD.out, HV.out, by omega, own, HP.out, dr⟩
        case measure => simp [intOf]; omega
      · rw [if_neg x0] at hdec
        by_cases x1 : x < 16
        · rw [if_pos x1] at hdec; cases hdec
        · rw [if_neg x1] at hdec
          by_cases x2 : 240 ≤ x
          · rw [if_pos x2] at hdec
            have hR : R = [] := by injection hdec with h; exact h.symm
            subst hR
            have hl2 : L.map (·.1) = L0 := by simpa using hLR
            obtain ⟨A', c', rfl, q1, q2, q3⟩ := items_own own (Nat.le_refl _) (fun p q => (hp p q).at_)
            rw [hl2] at q3
            have hlen : L0.length = L.length := by rw [← hl2]; simp
            have Q := Lib.hid q3; have HN := Lib.hid hlen
            clear q3 own hp hl2 hlen hdec hLR
            go_wp2_with fail
            refine bodyPost_ret (v := .tuple #[.slice A' L.length c', .int .i64 0]) (by simp [results, Try.results7, go_sem]) rfl ⟨⟨A', c', by rw [HN.out], by rw [HN.out]; exact Q.out⟩, dr⟩
          · rw [if_neg x2] at hdec
            obtain ⟨m, hmx⟩ : ∃ m : Nat, (x % 16).toNat + 1 = m := ⟨_, rfl⟩
            rw [hmx] at hdec
            by_cases hsz : m > bs.length - (k + 1)
            · rw [if_pos hsz] at hdec; cases hdec
            · rw [if_neg hsz] at hdec
              obtain ⟨R', hd', hRR⟩ : ∃ R', decB f' (bs.drop (k + 1 + m)) = some R' ∧ R = (x / 16, (bs.drop (k + 1)).take m) :: R' := by
                cases hq : decB f' (bs.drop (k + 1 + m)) with
                | none => rw [hq] at hdec; cases hdec
                | some R' => rw [hq] at hdec; simp at hdec; exact ⟨R', rfl, hdec.symm⟩
              subst hRR
              have hmn : k + 1 + m ≤ n := by have := HL.out; omega
              have hx16 : Int.tmod x 16 = (m : Int) - 1 := by rw [Int.tmod_eq_emod_of_nonneg (by omega)]; omega
              have hy16 : Int.tdiv x 16 = x / 16 := Int.tdiv_eq_ediv_of_nonneg (by omega)
              have sub := bytesSub (HB.out.below dr) (k + 1) m hmn
              have HD := Lib.hid hd'; have HP := Lib.hid hp; have HV := Lib.hid hLR; have HM := Lib.hid hmx; have HS := Lib.hid sub
              clear hdec hp hLR hd' hmx hsz sub
              have hm1 : 1 ≤ m := by have := HM.out; omega
              have hm2 : m ≤ 16 := by have := HM.out; omega
              have hck : ¬ c = k + 1 := by omega
              go_wp2_with fail
              refine (clone_any b (off + (k + 1)) m (c - (k + 1)) ((bs.drop (k + 1)).take m) wr (HS.out.mono sz) (by omega) (by omega)).mono ?_
              rintro e w1 ⟨v1', rfl, o1, b1⟩
              obtain ⟨A9, c9, rfl⟩ := own_form o1
              have own1 : w1.ownsRow w.heap.size 37 2 _ L.length (L.flatMap ivC) := own.kept (row := none) ⟨b1.os, b1.tape, b1.output, b1.size, fun i hi _ => b1.block i hi⟩ (Classical.em _)
              have hp1 : ∀ p ∈ L, IvOwn w1 w.heap.size p := fun p q => by
                obtain ⟨h1, h2, h3⟩ := HP.out p q
                exact ⟨h1, h2, h3.kept (row := none) ⟨b1.os, b1.tape, b1.output, b1.size, fun i hi _ => b1.block i hi⟩ (Classical.em _)⟩
              have dr1 := bl_step dr b1
              have o1' := own_mono o1 sz
              have sz1 := dr1.size
              have HP1 := Lib.hid hp1
              clear own hp1 HP o1 b1 dr f1
              have hc1 : ∀ j u, (ivC ((x / 16, (bs.drop (k + 1)).take m), (.slice A9 m c9 : Value)))[j]? = some u → (w1.alloc (.cells #[.int .u8 (x / 16), .slice A9 m c9] 37)).cell? ((⟨w1.heap.size, 0, none⟩ : Addr).add j) = some u := by
                intro j u hu
                rcases j with _ | _ | j
                · simp [ivC] at hu; subst hu; simp [Addr.add, go_sem]
                · simp [ivC] at hu; subst hu; simp [Addr.add, go_sem]
                · simp [ivC] at hu
              have hc2 : ∀ u ∈ (ivC ((x / 16, (bs.drop (k + 1)).take m), (.slice A9 m c9 : Value))), u.oneCell' = true := by
                intro u hu; simp [ivC] at hu; rcases hu with rfl | rfl
                · rfl
                · rfl
              have C1 := Lib.hid hc1; have C2 := Lib.hid hc2
              clear hc1 hc2
              go_wp2_with (at_builtin; refine wpList_append_own _ rfl _ _ 22 rfl w.heap.size 37 i0 (.agg #[.int .u8 0, .slice none 0 0]) 2 32 Try.underlying22 HI.out HZ0.out HZ1.out HZ2.out rfl (by decide) _ _ _ rfl (own1.alloc _) ⟨w1.heap.size, 0, none⟩ 1 1 (ivC ((x / 16, (bs.drop (k + 1)).take m), (.slice A9 m c9 : Value))) rfl rfl C1.out C2.out ?c3 ?c4 ?c5 ?_)
              case c3 => unfold maxLen; omega
              case c4 => omega
              case c5 => simp; omega
              intro v5 w5 own5 g5 _
              have dr5 : Below w.heap.size w w5 := (dr1.alloc sz1 _).grown g5 (by simp; omega) (fun j hj => by have := (own1.lt j hj).1; omega)
              have ho : ∀ p : Iv, IvOwn w1 w.heap.size p → IvOwn w5 w.heap.size p := fun p hp => by
                obtain ⟨h1, h2, h3⟩ := hp
                exact ⟨h1, h2, (h3.alloc _).kept g5 (own_own_ne h3 own1 (by decide))⟩
              have hnew : IvOwn w1 w.heap.size ((x / 16, (bs.drop (k + 1)).take m), (.slice A9 m c9 : Value)) := by
                have hb := bytesSub HB.out (k + 1) m hmn
                exact ⟨⟨by show 0 ≤ x / 16; omega, by show x / 16 ≤ 255; omega⟩, hb.2.1, by show w1.ownsRow _ _ _ _ ((bs.drop (k + 1)).take m).length _; rw [hb.1]; exact o1'⟩
              have own6 : w5.ownsRow w.heap.size 37 2 v5 (L ++ [((x / 16, (bs.drop (k + 1)).take m), (.slice A9 m c9 : Value))]).length ((L ++ [((x / 16, (bs.drop (k + 1)).take m), (.slice A9 m c9 : Value))]).flatMap ivC) := by simpa using own5
              have hp6 : ∀ p ∈ L ++ [((x / 16, (bs.drop (k + 1)).take m), (.slice A9 m c9 : Value))], IvOwn w5 w.heap.size p := by
                intro p hp
                rcases List.mem_append.1 hp with hp | hp
                · exact ho p (HP1.out p hp)
                · simp at hp; subst hp; exact ho _ hnew
              have HP6 := Lib.hid hp6; have H6 := Lib.hid own6
              clear own5 g5 own1 hp6 ho hnew own6
              go_wp2_with fail
              go_roundw
              case rel => exact ⟨k + 1 + m, _, f', R', by go_num, by omega, by omega, HD.out, by rw [List.map_append]; simpa using HV.out, by simp; omega, H6.out, HP6.out, dr5⟩
              case measure => simp [intOf]; omega
    · have hk' : k = n := by omega
      subst hk'
      have hR : R = [] := by
        have hl := HB.out.1
        rw [List.drop_of_length_le (by omega)] at hdec
        cases f <;> simp [decB] at hdec <;> exact hdec
      subst hR
      have hl2 : L.map (·.1) = L0 := by simpa using hLR
      obtain ⟨A', c', rfl, q1, q2, q3⟩ := items_own own (Nat.le_refl _) (fun p q => (hp p q).at_)
      rw [hl2] at q3
      have hlen : L0.length = L.length := by rw [← hl2]; simp
      have Q := Lib.hid q3; have HN := Lib.hid hlen
      clear q3 own hp hl2 hlen hdec hLR
      go_wp2_with fail
      simp only [Exit.noGoto]
      refine bodyPost_ret (v := .tuple #[.slice A' L.length c', .int .i64 0]) (by simp [results, Try.results7, go_sem]) rfl ⟨⟨A', c', by rw [HN.out], by rw [HN.out]; exact Q.out⟩, dr⟩
end Go.Proofs.Ytpmdlaomplmpiaa
