/- awake: the calls whose answers the document fixes. -/
import Derived.Test.YtiljihehbfnakaaRWorkers
namespace Go.Proofs.Ytiljihehbfnakaa
open Go.ChangeShapes Go.WideShapes Go.ChangeAt Go.RowKit
set_option linter.unusedVariables false

theorem wk_blk {w : World} {g : Nat} {L : List Wk} {t : TypeId} {cs : Array Value} (h : Blk w g t cs) (hc : cs = (L.flatMap wkC).toArray) (hx : ∀ x ∈ L, okW x) : WkAt w w.heap.size (some ⟨g, 0, none⟩) L.length L := by
  subst hc
  refine ⟨rfl, hx, fun _ => ⟨g, 0, rfl, h.lt, fun i hi => ?_⟩⟩
  have q := wkC_get L i hi
  rw [Nat.zero_add, h.cell, h.cell, List.getElem?_toArray, List.getElem?_toArray, q.1, q.2, List.getD_eq_getElem?_getD, List.getElem?_eq_getElem hi]
  exact ⟨rfl, rfl⟩
abbrev L5 : List Wk := [(0, 0), (1, 0), (0, 0), (0, 0), (1, 0)]
abbrev L2 : List Wk := [(0, 0), (1, 0)]
theorem ok5 : ∀ x ∈ L5, okW x := by
  intro x hx
  simp at hx
  rcases hx with rfl | rfl | rfl | rfl | rfl <;> exact ⟨okI_small (by simp) (by simp), okI_small (by simp) (by simp)⟩
theorem ok2 : ∀ x ∈ L2, okW x := by
  intro x hx
  simp at hx
  rcases hx with rfl | rfl <;> exact ⟨okI_small (by simp) (by simp), okI_small (by simp) (by simp)⟩
theorem un2 : unf L5 L2 2 = (2, true) := by decide
theorem un3 : unf L5 L2 3 = (0, false) := by decide
theorem wl39 : wl (inP [3, 9, 3]) 6 = [(0, 0), (1, 0), (2, 3), (3, 3), (4, 3)] := by decide
abbrev A5 : Array Value := #[.int .i64 0, .int .i64 0, .int .i64 1, .int .i64 0, .int .i64 0, .int .i64 0, .int .i64 0, .int .i64 0, .int .i64 1, .int .i64 0]
abbrev A2 : Array Value := #[.int .i64 0, .int .i64 0, .int .i64 1, .int .i64 0]

set_option maxHeartbeats 2000000 in
theorem awake_true (w : World) : Calls Try.prog 6 #[] w fun e w' => e = .returned (.bool true) ∧ Below w.heap.size w w' := by
  go_enter Try.func6, Try.ntmps6
  go_wp2_with fail
  have B1 : Blk _ w.heap.size 41 #[.int .i64 0, .int .i64 0] := (((Blk.new w 41 #[.int .i64 0, .int .i64 0]).alloc (.cells #[.int .i64 1, .int .i64 0] 41)).alloc (.cells A5 41)).alloc (.cells A2 41)
  have B2 : Blk _ (w.heap.size + 1) 41 #[.int .i64 1, .int .i64 0] := ((Blk.newAt (w.alloc (.cells #[.int .i64 0, .int .i64 0] 41)) 41 #[.int .i64 1, .int .i64 0] (w.heap.size + 1) (by simp)).alloc (.cells A5 41)).alloc (.cells A2 41)
  have B3 : Blk _ (w.heap.size + 1 + 1) 41 A5 := (Blk.newAt ((w.alloc (.cells #[.int .i64 0, .int .i64 0] 41)).alloc (.cells #[.int .i64 1, .int .i64 0] 41)) 41 A5 (w.heap.size + 1 + 1) (by simp)).alloc (.cells A2 41)
  have B4 : Blk _ (w.heap.size + 1 + 1 + 1) 41 A2 := Blk.newAt (((w.alloc (.cells #[.int .i64 0, .int .i64 0] 41)).alloc (.cells #[.int .i64 1, .int .i64 0] 41)).alloc (.cells A5 41)) 41 A2 (w.heap.size + 1 + 1 + 1) (by simp)
  have dr0 : Below w.heap.size w ((((w.alloc (.cells #[.int .i64 0, .int .i64 0] 41)).alloc (.cells #[.int .i64 1, .int .i64 0] 41)).alloc (.cells A5 41)).alloc (.cells A2 41)) := ((((Below.refl _ w).alloc (Nat.le_refl _) _).alloc (by simp) _).alloc (by simp; omega) _).alloc (by simp; omega) _
  refine calls_name (fun W => Blk W w.heap.size 41 #[.int .i64 0, .int .i64 0] ∧ Blk W (w.heap.size + 1) 41 #[.int .i64 1, .int .i64 0] ∧ Blk W (w.heap.size + 1 + 1) 41 A5 ∧ Blk W (w.heap.size + 1 + 1 + 1) 41 A2 ∧ Below w.heap.size w W) ⟨B1, B2, B3, B4, dr0⟩ ?_
  clear B1 B2 B3 B4 dr0
  rintro W ⟨B1, B2, B3, B4, dr0⟩
  refine (unfair_any _ _ 5 2 5 2 L5 L2 2 W (wk_blk B3 rfl ok5) (wk_blk B4 rfl ok2) (by decide) (by decide) (okI_small (by decide) (by decide))).mono ?_
  rw [show unfR (unf L5 L2 2) = .returned (.tuple #[.int .i64 2, .bool true]) from by rw [un2]; rfl]
  rintro e w1 ⟨rfl, b1⟩
  have dr1 := bl_step dr0 b1
  have C1 := B1.kept b1
  have C2 := B2.kept b1
  clear B1 B2 B3 B4 dr0 b1
  have f1 := C1.cell 0; have f2 := C1.cell 1; have f3 := C2.cell 0; have f4 := C2.cell 1
  have l1 := C1.lt; have l2 := C2.lt
  simp at f1 f2 f3 f4
  go_wp2_with fail
  have B1 := (C1.alloc (.cells A5 41)).alloc (.cells A2 41)
  have B2 := (C2.alloc (.cells A5 41)).alloc (.cells A2 41)
  have B3 : Blk _ w1.heap.size 41 A5 := (Blk.new w1 41 A5).alloc (.cells A2 41)
  have B4 : Blk _ (w1.heap.size + 1) 41 A2 := Blk.newAt (w1.alloc (.cells A5 41)) 41 A2 (w1.heap.size + 1) (by simp)
  have sz1 := dr1.size
  have dr2 : Below w.heap.size w ((w1.alloc (.cells A5 41)).alloc (.cells A2 41)) := (dr1.alloc sz1 _).alloc (by simp; omega) _
  clear C1 C2 f1 f2 f3 f4 l1 l2
  refine (unfair_any _ _ 5 2 5 2 L5 L2 3 _ (wk_blk B3 rfl ok5) (wk_blk B4 rfl ok2) (by decide) (by decide) (okI_small (by decide) (by decide))).mono ?_
  rw [show unfR (unf L5 L2 3) = .returned (.tuple #[.int .i64 0, .bool false]) from by rw [un3]; rfl]
  rintro e w2 ⟨rfl, b2⟩
  have dr3 := bl_step dr2 b2
  have C1 := B1.kept b2
  have C2 := B2.kept b2
  clear B1 B2 B3 B4 dr1 b2 dr2 sz1
  go_wp2_with fail
  refine (drains_any 10 2 3 _).mono ?_
  rw [show drainsI 10 2 3 = (370, 0) from by decide]
  rintro e w3 ⟨rfl, j3, rfl⟩
  go_wp2_with fail
  refine (ends_any 10 _).mono ?_
  rw [show endsI 10 = (50, 0) from by decide]
  rintro e w3 ⟨rfl, j4, rfl⟩
  go_wp2_with fail
  refine (ends_any 0 _).mono ?_
  rw [show endsI 0 = (0, 1) from by decide]
  rintro e w3 ⟨rfl, j5, rfl⟩
  go_wp2_with fail
  have dr4 : Below w.heap.size w ((w2.drewN (j3 + j4 + j5)).alloc (.cells #[.int .i64 3, .int .i64 9, .int .i64 3] 3)) := (bl_drewN' dr3 _).alloc dr3.size _
  have C2' : Blk ((w2.drewN (j3 + j4 + j5)).alloc (.cells #[.int .i64 3, .int .i64 9, .int .i64 3] 3)) (w.heap.size + 1) 41 #[.int .i64 1, .int .i64 0] := (C2.drewN _).alloc _
  have B3 := Blk.new (w2.drewN (j3 + j4 + j5)) 3 #[.int .i64 3, .int .i64 9, .int .i64 3]
  have I3 : IntAt ((w2.drewN (j3 + j4 + j5)).alloc (.cells #[.int .i64 3, .int .i64 9, .int .i64 3] 3)) ((w2.drewN (j3 + j4 + j5)).alloc (.cells #[.int .i64 3, .int .i64 9, .int .i64 3] 3)).heap.size (some ⟨w2.heap.size, 0, none⟩) 3 [3, 9, 3] := by
    refine ⟨rfl, fun _ => ⟨w2.heap.size, 0, rfl, B3.lt, fun i hi => ?_⟩⟩
    rw [Nat.zero_add]
    refine (B3.cell i).trans ?_
    rcases i with _ | _ | _ | i
    · rfl
    · rfl
    · rfl
    · omega
  refine (workers_any _ 3 3 [3, 9, 3] _ I3 (by decide)).mono ?_
  rw [wl39]
  rintro e w3 ⟨⟨A', m, c', rfl, _, _, hl, _, k3⟩, b3⟩
  have hm : m = 5 := hl.symm
  subst hm
  have dr5 := bl_step dr4 b3
  obtain ⟨b, off, rfl, hb, hcell⟩ := k3 (by decide)
  obtain ⟨g1, g2⟩ := hcell 1 (by decide)
  obtain ⟨g3, g4⟩ := hcell 4 (by decide)
  have C3 := C2'.kept b3
  have f3 := C3.cell 0; have f4 := C3.cell 1
  simp at f3 f4 g1 g2 g3 g4
  clear dr4 C2' B3 I3 hl k3 b3 hcell C1 C2 dr3 C3
  go_wp2_with fail
  go_region
  go_wp2_with fail
  go_ret
  exact ⟨rfl, by first | exact dr5 | exact bl_drewN' dr5 _⟩
end Go.Proofs.Ytiljihehbfnakaa
