/- extra.Bytes. -/
import Derived.Test.YtpmdlaomplmpiaaOwnItems
namespace Go.Proofs.Ytpmdlaomplmpiaa
open Go.ChangeShapes Go.WideShapes Go.ChangeAt Go.RowKit
set_option linter.unusedVariables false

theorem own_form {w : World} {base : Nat} {e : TypeId} {size n : Nat} {v : Value} {xs : List Value} (h : w.ownsRow base e size v n xs) : ∃ A c, v = .slice A n c := by
  rcases h.2 with ⟨rfl, rfl⟩ | ⟨g, cap, cur, rfl, _⟩
  · exact ⟨none, 0, rfl⟩
  · exact ⟨_, cap, rfl⟩
theorem sizeOf_append : ∀ l m : List It, sizeOf_ (l ++ m) = sizeOf_ l + sizeOf_ m
  | [], m => by simp [sizeOf_]
  | x :: r, m => by simp [sizeOf_, sizeOf_append r m]; omega
theorem flatB_append : ∀ l m : List It, flatB (l ++ m) = flatB l ++ flatB m
  | [], m => by simp [flatB]
  | x :: r, m => by simp [flatB, flatB_append r m]
theorem take_next {l : List It} {k : Nat} (hk : k < l.length) : l.take (k + 1) = l.take k ++ [l.getD k (0, [])] := by
  rw [List.take_succ_eq_append_getElem hk, List.getD_eq_getElem?_getD, List.getElem?_eq_getElem hk]; rfl
theorem sizeOf_take {l : List It} {k : Nat} (hk : k < l.length) : sizeOf_ (l.take (k + 1)) = sizeOf_ (l.take k) + (1 + (l.getD k (0, [])).2.length) := by
  rw [take_next hk, sizeOf_append]; simp [sizeOf_]
def okB (l : List It) : Prop := (∀ x ∈ l, rightB x = true) ∧ sizeOf_ l ≤ 200

set_option maxHeartbeats 2000000 in
theorem bytes_any (A : Option Addr) (n c : Nat) (l : List It) (w : World) (h : ItemsAt w w.heap.size A n l) (hm : n ≤ 40) (hd : ∀ x ∈ l, x.2.length ≤ 400) :
    Calls Try.prog 6 #[.slice A n c] w fun e w' => ((∃ v, e = .returned (.tuple #[v, .int .i64 0]) ∧ okB l ∧ w'.ownsRow w.heap.size 5 1 v (encB l).length ((encB l).map (Value.int .u8))) ∨ (∃ er, er ≠ 0 ∧ ¬ okB l ∧ e = .returned (.tuple #[.slice none 0 0, .int .i64 er]))) ∧ Below w.heap.size w w' := by
  obtain ⟨hl, hr, hc⟩ := h
  obtain ⟨i0, hi, hz0, hz1, hz2⟩ := info_parts Try.info5
  have HI := Lib.hid hi; have HZ0 := Lib.hid hz0; have HZ1 := Lib.hid hz1; have HZ2 := Lib.hid hz2
  clear hi hz0 hz1 hz2
  have HR := Lib.hid hr; have HC := Lib.hid hc; have HD := Lib.hid hd
  clear hr hc hd
  go_enter Try.func6, Try.ntmps6
  go_wp2_with fail
  go_loopw [4, 12] (fun z i wr => ∃ (k s : Nat), i = .int .i64 k ∧ k ≤ n ∧ z = .int .i64 s ∧ s = sizeOf_ (l.take k) ∧ s ≤ k * 401 ∧ (∀ x ∈ l.take k, rightB x = true) ∧ Below w.heap.size w wr) (fun _ i _ => n - (intOf i).toNat)
  case atStart => exact ⟨0, 0, rfl, by omega, rfl, rfl, by omega, fun p hp => absurd hp (by simp), Below.refl _ w⟩
  case round =>
    rename_i wr
    obtain ⟨k, s, rfl, hk, rfl, hs, hsk, hall, dr⟩ := hrel
    by_cases hlt : k < n
    · obtain ⟨b, off, rfl, hb, hcell⟩ := HC.out (by omega)
      obtain ⟨a, m, c1, e1, e2, e3, e4, e5⟩ := hcell k hlt
      have f1 := (dr.cell (p := ⟨b, off + k * 2, none⟩) hb).trans e1
      have f2 := (dr.cell (p := ⟨b, off + k * 2 + 1, none⟩) hb).trans e2
      have hmem := getD_len (l := l) (k := k) (by omega)
      have hd := HD.out _ hmem
      have hst := sizeOf_take (l := l) (k := k) (by omega)
      have htk := take_next (l := l) (k := k) (by omega)
      have hlen : (l.getD k (0, [])).2.length = m := e5.1
      rw [hlen] at hst hd
      obtain ⟨x, hxk⟩ : ∃ x, x = l.getD k (0, []) := ⟨_, rfl⟩
      rw [← hxk] at f1 hmem htk hlen
      have hrx : rightB x = rightN x.1 m := by rw [← hlen]; rfl
      have HX := Lib.hid hrx; have HM := Lib.hid hmem; have HS := Lib.hid hs; have HT := Lib.hid hst; have HK := Lib.hid htk; have HA := Lib.hid hall
      clear hcell e1 e2 e5 hxk hrx hmem hs hst htk hall hlen
      have sz := dr.size
      go_wp2_with fail
      refine (right_any _ _ _ _ _).mono ?_
      rintro e w' ⟨rfl, rfl⟩
      cases hq : rightN x.1 m
      · have hno : ¬ okB l := fun ho => by have := ho.1 x HM.out; rw [HX.out, hq] at this; exact absurd this (by simp)
        have HN := Lib.hid hno; clear hno hq
        go_wp2_with fail
        refine bodyPost_ret (v := .tuple #[.slice none 0 0, .int .i64 1]) (by simp [results, Try.results6, go_sem]) rfl ⟨.inr ⟨1, by decide, HN.out, rfl⟩, ?_⟩
        exact (dr.alloc sz _).alloc (by simp; omega) _
      · have HQ := Lib.hid hq; clear hq
        go_wp2_with fail
        go_roundw
        case rel =>
          refine ⟨k + 1, s + (1 + m), by go_num, by omega, by go_num, by rw [HT.out, ← HS.out], by omega, ?_, (dr.alloc sz _).alloc (by simp; omega) _⟩
          intro y hy
          rw [HK.out] at hy
          rcases List.mem_append.1 hy with hy | hy
          · exact HA.out y hy
          · simp at hy; subst hy; rw [HX.out, HQ.out]
        case measure => simp [intOf]; omega
    · have hk' : k = n := by omega
      subst hk'
      have htl : l.take k = l := List.take_of_length_le (by omega)
      rw [htl] at hs hall
      have HS := Lib.hid hs; have HA := Lib.hid hall
      clear hs hall htl
      by_cases h200 : 200 < s
      · have hno : ¬ okB l := fun ho => by have := ho.2; have := HS.out; omega
        have HN := Lib.hid hno; clear hno
        go_wp2_with fail
        refine bodyPost_ret (v := .tuple #[.slice none 0 0, .int .i64 4]) (by simp [results, Try.results6, go_sem]) rfl ⟨.inr ⟨4, by decide, HN.out, rfl⟩, dr⟩
      · have hok : okB l := ⟨HA.out, by have := HS.out; omega⟩
        have HO := Lib.hid hok; clear hok
        go_wp2_with fail
        go_loopw [7, 30] (fun v i wr => ∃ (q : Nat), i = .int .i64 q ∧ q ≤ k ∧ wr.ownsRow w.heap.size 5 1 v (flatB (l.take q)).length ((flatB (l.take q)).map (Value.int .u8)) ∧ Below w.heap.size w wr) (fun _ i _ => k - (intOf i).toNat)
        case atStart => exact ⟨0, rfl, by omega, ⟨rfl, .inl ⟨rfl, rfl⟩⟩, dr⟩
        case round =>
          obtain ⟨q, rfl, hq, own, dr⟩ := hrel
          have sz := dr.size
          by_cases hlt : q < k
          · obtain ⟨b, off, rfl, hb, hcell⟩ := HC.out (by omega)
            obtain ⟨a, m, c1, e1, e2, e3, e4, e5⟩ := hcell q hlt
            have f1 := (dr.cell (p := ⟨b, off + q * 2, none⟩) hb).trans e1
            have f2 := (dr.cell (p := ⟨b, off + q * 2 + 1, none⟩) hb).trans e2
            have hmem := getD_len (l := l) (k := q) (by omega)
            have htk := take_next (l := l) (k := q) (by omega)
            have hlen : (l.getD q (0, [])).2.length = m := e5.1
            obtain ⟨x, hxk⟩ : ∃ x, x = l.getD q (0, []) := ⟨_, rfl⟩
            rw [← hxk] at f1 hmem htk hlen e5
            have hrx := HO.out.1 x hmem
            simp only [rightB, Bool.and_eq_true, decide_eq_true_eq, hlen] at hrx
            obtain ⟨⟨⟨g1, g2⟩, g3⟩, g4⟩ := hrx
            obtain ⟨b1, off1, rfl, hb1, _⟩ := e5.2.2 (by omega)
            have hfl : flatB (l.take (q + 1)) = (flatB (l.take q) ++ [16 * x.1 + ((m : Int) - 1)]) ++ x.2 := by rw [htk, flatB_append, ← hlen]; simp [flatB]
            have hfn : (flatB (l.take q)).length ≤ 200 := by
              have h1 := HO.out.2
              have h2 : l = l.take q ++ l.drop q := (List.take_append_drop q l).symm
              rw [h2, sizeOf_append] at h1
              rw [flatB_length]; omega
            generalize hP : flatB (l.take q) = P at own hfn hfl
            have HF := Lib.hid hfl; have HE := Lib.hid e5; have HL := Lib.hid hlen
            clear hfl e5 hlen hcell e1 e2 hxk hmem htk hP
            have hw1 : IntKind.u8.wrap (16 * x.1) = 16 * x.1 := by rw [IntKind.wrap_u8]; omega
            have hw2 : IntKind.u8.wrap ((m : Int) - 1) = (m : Int) - 1 := by rw [IntKind.wrap_u8]; omega
            have hw3 : IntKind.u8.wrap (16 * x.1 + ((m : Int) - 1)) = 16 * x.1 + ((m : Int) - 1) := by rw [IntKind.wrap_u8]; omega
            have bx := ((Blk.new wr 37 #[.int .u8 x.1, .slice (some ⟨b1, off1, none⟩) m c1]).alloc (.cells #[.int .u8 (16 * x.1 + ((m : Int) - 1))] 5))
            go_wp2_with (at_builtin; refine wpList_append_own _ rfl _ _ 25 rfl w.heap.size 5 i0 (.int .u8 0) 1 1 Try.underlying25 HI.out HZ0.out HZ1.out HZ2.out rfl (by decide) _ _ _ rfl ((own.alloc _).alloc _) ⟨wr.heap.size + 1, 0, none⟩ 1 1 [.int .u8 (16 * x.1 + ((m : Int) - 1))] rfl rfl ?c1 ?c2 ?c3 ?c4 ?c5 ?_)
            case c1 =>
              intro j u hu
              have hj : j = 0 := by
                rcases j with _ | j
                · rfl
                · simp at hu
              subst hj
              simp at hu
              subst hu
              simp [Addr.add, go_sem]
            case c2 => intro u hu; simp at hu; subst hu; rfl
            case c3 => unfold maxLen; omega
            case c4 => omega
            case c5 => simp; omega
            intro v5 w5 own5 g5 _
            have bx5 := bx.grown g5 (own_blk_ne ((own.alloc (.cells #[.int .u8 x.1, .slice (some ⟨b1, off1, none⟩) m c1] 37)).alloc (.cells #[.int .u8 (16 * x.1 + ((m : Int) - 1))] 5)) bx (by decide))
            have dr5 : Below w.heap.size w w5 := ((dr.alloc sz _).alloc (by simp; omega) _).grown g5 (by simp; omega) (fun j hj => by have := (own.lt j hj).1; omega)
            have c5 := bx5.cell
            have sz5 := dr5.size
            have nw := bytes_news (HE.out.below dr5)
            have own6 : w5.ownsRow w.heap.size 5 1 v5 (P ++ [16 * x.1 + ((m : Int) - 1)]).length ((P ++ [16 * x.1 + ((m : Int) - 1)]).map (Value.int .u8)) := by simpa using own5
            clear own own5 g5 bx dr f1 f2
            go_wp2_with (at_builtin; refine wpList_append_own _ rfl _ _ 25 rfl w.heap.size 5 i0 (.int .u8 0) 1 1 Try.underlying25 HI.out HZ0.out HZ1.out HZ2.out rfl (by decide) _ _ _ rfl own6 ⟨b1, off1, none⟩ m c1 (x.2.map (Value.int .u8)) rfl (by simp [HL.out]) nw bytes_one ?c3 ?c4 ?c5 ?_)
            case c3 => simp; unfold maxLen; omega
            case c4 => simp; omega
            case c5 => omega
            intro v7 w7 own7 g7 _
            have dr7 : Below w.heap.size w w7 := dr5.grown g7 sz5 (fun j hj => (own6.lt j hj).1)
            have own8 : w7.ownsRow w.heap.size 5 1 v7 (flatB (l.take (q + 1))).length ((flatB (l.take (q + 1))).map (Value.int .u8)) := by rw [HF.out, List.length_append (bs := x.2), HL.out, List.map_append (l₂ := x.2)]; simpa using own7
            clear own6 own7 g7
            go_wp2_with fail
            go_roundw
            case rel => exact ⟨q + 1, by go_num, by omega, own8, dr7⟩
            case measure => simp [intOf]; omega
          · have hq' : q = k := by omega
            subst hq'
            have htl : l.take q = l := List.take_of_length_le (by omega)
            rw [htl] at own
            clear htl
            have hfn : (flatB l).length ≤ 200 := by rw [flatB_length]; exact HO.out.2
            have he : encB l = flatB l ++ List.replicate (padN (flatB l).length) 0 := rfl
            generalize hP : flatB l = P at own hfn he
            have HE := Lib.hid he; clear he hP
            go_wp2_with fail
            go_loopw [7] (fun v wr => ∃ (j : Nat), j ≤ padN P.length ∧ wr.ownsRow w.heap.size 5 1 v (P.length + j) ((P ++ List.replicate j 0).map (Value.int .u8)) ∧ Below w.heap.size w wr) (fun v _ => match v with | .slice _ n _ => (4 - n % 4) % 4 | _ => 0)
            case atStart => exact ⟨0, by omega, by simpa using own, dr⟩
            case round =>
              obtain ⟨j, hj, own, dr⟩ := hrel
              have sz := dr.size
              obtain ⟨A', c', rfl⟩ := own_form own
              have hlen : (P ++ List.replicate j (0 : Int)).length = P.length + j := by simp
              have HL := Lib.hid hlen
              clear hlen
              by_cases hp : (P.length + j) % 4 = 0
              · have hjp : j = padN P.length := by unfold padN at *; omega
                have hb : ((P.length + j : Nat) : Int) % 4 = 0 := by omega
                have own9 : wr.ownsRow w.heap.size 5 1 (.slice A' (P.length + j) c') (encB l).length ((encB l).map (Value.int .u8)) := by rw [HE.out, ← hjp, HL.out]; exact own
                have H9 := Lib.hid own9
                clear own own9
                go_wp2_with fail
                refine bodyPost_ret (v := .tuple #[.slice A' (P.length + j) c', .int .i64 0]) (by simp [results, Try.results6, go_sem]) rfl ⟨.inl ⟨_, rfl, HO.out, H9.out⟩, dr⟩
              · have hb : ¬ ((P.length + j : Nat) : Int) % 4 = 0 := by omega
                go_wp2_with (at_builtin; go_loud (refine wpList_append_own _ rfl _ _ 25 rfl w.heap.size 5 i0 (.int .u8 0) 1 1 Try.underlying25 HI.out HZ0.out HZ1.out HZ2.out rfl (by decide) _ _ _ rfl (own.alloc _) ⟨wr.heap.size, 0, none⟩ 1 1 [.int .u8 0] rfl rfl ?c1 ?c2 ?c3 ?c4 ?c5 ?_))
                case c1 =>
                  intro j u hu
                  have hj : j = 0 := by
                    rcases j with _ | j
                    · rfl
                    · simp at hu
                  subst hj
                  simp at hu
                  subst hu
                  simp [Addr.add, go_sem]
                case c2 => intro u hu; simp at hu; subst hu; rfl
                case c3 => unfold maxLen; unfold padN at hj; omega
                case c4 => unfold padN at hj; omega
                case c5 => simp; omega
                intro v5 w5 own5 g5 _
                have dr5 : Below w.heap.size w w5 := (dr.alloc sz _).grown g5 (by simp; omega) (fun j hj => by have := (own.lt j hj).1; omega)
                have own8 : w5.ownsRow w.heap.size 5 1 v5 (P.length + (j + 1)) ((P ++ List.replicate (j + 1) 0).map (Value.int .u8)) := by
                  rw [List.replicate_succ', ← List.append_assoc, List.map_append, ← Nat.add_assoc]; simpa using own5
                obtain ⟨A5, c5, rfl⟩ := own_form own8
                clear own own5 g5
                go_wp2_with fail
                go_roundw
                case rel => exact ⟨j + 1, by unfold padN at *; omega, own8, dr5⟩
                case measure => simp only []; omega
end Go.Proofs.Ytpmdlaomplmpiaa
