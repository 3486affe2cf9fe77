/- awake: the calls whose answers the document fixes. -/
import Derived.Test.YtkephenedkljoaaWalks
namespace Go.Proofs.Ytkephenedkljoaa
open Go.ChangeShapes Go.WideShapes Go.ChangeAt Go.RowKit
set_option linter.unusedVariables false

set_option maxHeartbeats 1000000 in
theorem awake_true (w : World) : Calls Try.prog 6 #[] w fun e w' => e = .returned (.bool true) ∧ Below w.heap.size w w' := by
  have t1 : tld 1000 false 0 0 7 true = 1000 := by decide +kernel
  have s1 : shf 1000 false 0 0 7 true = 993 := by decide +kernel
  have t2 : tld 1000 true 1000 993 9 false = 1002 := by decide +kernel
  have s2 : shf 1000 true 1000 993 9 false = 993 := by decide +kernel
  have t3 : tld 1000 true 1002 993 1 true = 4002 := by decide +kernel
  have s3 : shf 1000 true 1002 993 1 true = 4001 := by decide +kernel
  have u1 : IntKind.u16.wrap (65535 + 1) = 0 := by decide +kernel
  have u2 : IntKind.u16.wrap (0 + 1) = 1 := by decide +kernel
  have u3 : IntKind.u16.wrap (1 + 1) = 2 := by decide +kernel
  go_enter Try.func6, Try.ntmps6
  go_wp2_with fail
  refine (start_any _ _ _ _).mono ?_
  rintro e w1 ⟨rfl, b1⟩
  have k1 := b1.size
  go_wp2_with fail
  refine (step_any _ _ _ _ _ _ _ _ _ _ _ _ _).mono ?_
  rintro e w2 ⟨rfl, b2⟩
  have B2 : Blk w2 w1.heap.size 25 _ := (Blk.new w1 25 _).kept b2
  have c2 := B2.cell
  have f2 := B2.frozen
  have z2 : w1.heap.size < w2.heap.size := B2.lt
  have d2 : Below w.heap.size w w2 := (b1.alloc k1 _).trans (b2.mono (by simp; omega))
  clear b1 b2
  simp only [t1, s1, u1]
  go_wp2_with fail
  refine calls_name (fun W => Blk W w1.heap.size 25 #[.int .u32 5, .int .u16 0, .int .u32 1000, .bool true, .int .u32 1000, .int .u32 993] ∧ Blk W w2.heap.size 27 #[.bool true, .int .u8 96, .int .u16 65535, .int .u32 1000, .int .u32 5] ∧ Below w.heap.size w W) ⟨?_, ?_, ?_⟩ ?_
  · exact ((((((B2.set_ 0 _).set_ 1 _).set_ 2 _).set_ 3 _).set_ 4 _).set_ 5 _).alloc _
  · exact Blk.newAt _ _ _ _ (by simp)
  · repeat (first | (with_reducible exact d2) | ((with_reducible refine Below.alloc ?_ ?hh _); case hh => (first | omega | (simp; omega))) | ((with_reducible refine Below.setCell ?_ ?hh _); case hh => (first | omega | (simp; omega))))
  rintro W2 ⟨B2a, B2b, d2a⟩
  clear c2 f2 B2
  have l2 := B2b.lt
  refine (step_any _ _ _ _ _ _ _ _ _ _ _ _ _).mono ?_
  rintro e w3 ⟨rfl, b3⟩
  have d3 := d2a.trans (b3.mono d2a.size)
  have B3a := B2a.kept b3; have B3b := B2b.kept b3
  have c3 := B3a.cell; have f3 := B3a.frozen; have c3b := B3b.cell; have f3b := B3b.frozen
  have z3 : w2.heap.size < w3.heap.size := B3b.lt
  have z3' : w1.heap.size < w3.heap.size := Nat.lt_trans z2 z3
  simp only [t2, s2, u2]
  clear b3 B2a B2b d2a
  go_wp2_with fail
  refine calls_name (fun W => Blk W w1.heap.size 25 #[.int .u32 5, .int .u16 1, .int .u32 1000, .bool true, .int .u32 1002, .int .u32 993] ∧ Blk W w2.heap.size 27 #[.bool true, .int .u8 96, .int .u16 65535, .int .u32 1000, .int .u32 5] ∧ Blk W w3.heap.size 27 #[.bool false, .int .u8 0, .int .u16 0, .int .u32 1002, .int .u32 5] ∧ Below w.heap.size w W) ⟨?_, ?_, ?_, ?_⟩ ?_
  · exact ((((((B3a.set_ 0 _).set_ 1 _).set_ 2 _).set_ 3 _).set_ 4 _).set_ 5 _).alloc _
  · exact Blk.alloc (Blk.far (Blk.far (Blk.far (Blk.far (Blk.far (Blk.far B3b (by simp; omega) _) (by simp; omega) _) (by simp; omega) _) (by simp; omega) _) (by simp; omega) _) (by simp; omega) _) _
  · exact Blk.newAt _ _ _ _ (by simp)
  · repeat (first | (with_reducible exact d3) | ((with_reducible refine Below.alloc ?_ ?hh _); case hh => (first | omega | (simp; omega))) | ((with_reducible refine Below.setCell ?_ ?hh _); case hh => (first | omega | (simp; omega))))
  clear B3a B3b c3 f3 c3b f3b
  rintro W3 ⟨B3a, B3b, B3c, d3a⟩
  refine (step_any _ _ _ _ _ _ _ _ _ _ _ _ _).mono ?_
  rintro e w4 ⟨rfl, b4⟩
  have d4 := d3a.trans (b4.mono d3a.size)
  have B4a := B3a.kept b4; have B4b := B3b.kept b4; have B4c := B3c.kept b4
  have c4 := B4a.cell; have f4 := B4a.frozen; have c4b := B4b.cell; have f4b := B4b.frozen; have c4c := B4c.cell; have f4c := B4c.frozen
  have z4 : w3.heap.size < w4.heap.size := B4c.lt
  have z4' : w2.heap.size < w4.heap.size := Nat.lt_trans z3 z4
  have z4'' : w1.heap.size < w4.heap.size := Nat.lt_trans z2 z4'
  have ne1 : ¬ (w1.heap.size = w2.heap.size) := by omega
  have ne2 : ¬ (w1.heap.size = w3.heap.size) := by omega
  have ne3 : ¬ (w2.heap.size = w3.heap.size) := by omega
  simp only [t3, s3, u3]
  clear b4 d3a B3a B3b B3c
  go_wp2_with fail
  go_ret
  refine ⟨rfl, ?_⟩
  repeat (first | (with_reducible exact d4) | ((with_reducible refine Below.alloc ?_ ?hh _); case hh => (first | omega | (simp; omega))) | ((with_reducible refine Below.setCell ?_ ?hh _); case hh => (first | omega | (simp; omega))))
end Go.Proofs.Ytkephenedkljoaa
