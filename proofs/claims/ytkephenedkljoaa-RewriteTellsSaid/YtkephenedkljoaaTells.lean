/- RewriteTells: the walk. -/
import Derived.Test.YtkephenedkljoaaAwake
import Derived.Test.YtkephenedkljoaaRef
namespace Go.Proofs.Ytkephenedkljoaa
open Go.ChangeShapes Go.WideShapes Go.ChangeAt Go.RowKit
set_option linter.unusedVariables false

/-- the reference's Step, all four ways -/
theorem ref_any (src seq stamp last shift : Int) (any : Bool) (m : Bool) (t q st sr : Int) (first : Bool) (w : World) (h0 : 0 ≤ stamp) (h1 : stamp ≤ 4294967295) (h2 : 0 ≤ last) (h3 : last ≤ 4294967295) (h4 : 0 ≤ shift) (h5 : shift ≤ 4294967295) (h6 : 0 ≤ st) (h7 : st ≤ 4294967295) :
    Calls Try.prog 8 #[stV src seq stamp any last shift, hdV m t q st sr, .bool first] w fun e w' =>
      e = .returned (.tuple #[stV src (IntKind.u16.wrap (seq + 1)) stamp true (tld stamp any last shift st first) (shf stamp any last shift st first), hdV m t seq (tld stamp any last shift st first) src]) ∧ Below w.heap.size w w' := by
  have e1 : (st + (stamp - st) % 4294967296) % 4294967296 = stamp := by omega
  have e2 : (st + (last + 3000 - st) % 4294967296) % 4294967296 = (last + 3000) % 4294967296 := by omega
  cases any <;> cases first
  · have hs : shf stamp false last shift st false = (stamp - st) % 4294967296 := by simp [shf]
    have ht : tld stamp false last shift st false = stamp := by rw [tld, hs, e1]
    rw [hs, ht]
    exact ref_ff src seq stamp last shift m t q st sr w h0 h1 h2 h3 h4 h5 h6 h7
  · have hs : shf stamp false last shift st true = (stamp - st) % 4294967296 := by simp [shf]
    have ht : tld stamp false last shift st true = stamp := by rw [tld, hs, e1]
    rw [hs, ht]
    exact ref_ft src seq stamp last shift m t q st sr w h0 h1 h2 h3 h4 h5 h6 h7
  · have hs : shf stamp true last shift st false = shift := by simp [shf]
    have ht : tld stamp true last shift st false = (st + shift) % 4294967296 := by rw [tld, hs]
    rw [hs, ht]
    exact ref_tf src seq stamp last shift m t q st sr w h0 h1 h2 h3 h4 h5 h6 h7
  · have hs : shf stamp true last shift st true = (last + 3000 - st) % 4294967296 := by simp [shf]
    have ht : tld stamp true last shift st true = (last + 3000) % 4294967296 := by rw [tld, hs, e2]
    rw [hs, ht]
    exact ref_tt src seq stamp last shift m t q st sr w h0 h1 h2 h3 h4 h5 h6 h7

set_option maxHeartbeats 1000000 in
theorem tells_walk (src seq stamp last shift : Int) (any : Bool) (m : Bool) (t q st sr : Int) (first : Bool) (a b c : Int) (w : World) (h0 : 0 ≤ stamp) (h1 : stamp ≤ 4294967295) (h2 : 0 ≤ last) (h3 : last ≤ 4294967295) (h4 : 0 ≤ shift) (h5 : shift ≤ 4294967295) (h6 : 0 ≤ st) (h7 : st ≤ 4294967295) :
    Calls Try.prog 3 #[stV src seq stamp any last shift, .agg #[.bool m, .int .u8 t, .int .u16 q, .int .u32 st, .int .u32 sr, .bool first], .int .u32 a, .int .u16 b, .int .u32 c] w fun e w' => e = .returned (.bool true) ∧ Below w.heap.size w w' := by
  have R := ref_any src seq stamp last shift any m t q st sr first
  have S := step_any src seq stamp last shift any m t q st sr first
  generalize tld stamp any last shift st first = T at R S
  generalize shf stamp any last shift st first = U at R S
  generalize IntKind.u16.wrap (seq + 1) = V at R S
  have RH := Lib.hid R; have SH := Lib.hid S
  clear R S
  go_enter Try.func3, Try.ntmps3
  go_wp2_with fail
  refine (awake_true _).mono ?_
  rintro e w1 ⟨rfl, b1⟩
  have B1 : Blk w1 w.heap.size 25 _ := ((Blk.new w 25 _).alloc _).kept b1
  have C1 : Blk w1 (w.heap.size + 1) 29 _ := (Blk.newAt _ 29 _ (w.heap.size + 1) (by simp)).kept b1
  have d1 : Below w.heap.size w w1 := (((Below.refl _ _).alloc (Nat.le_refl _) _).alloc (by simp) _).trans (b1.mono (by simp; omega))
  have c1 := B1.cell; have f1 := C1.cell
  clear b1
  go_wp2_with fail
  refine (SH.out _).mono ?_
  rintro e w2 ⟨rfl, b2⟩
  have d2 := d1.trans (b2.mono d1.size)
  have B2 := B1.kept b2; have C2 := C1.kept b2
  have c2 := B2.cell; have f2 := C2.cell
  have z2 := C2.lt
  have z2' := B2.lt
  clear c1 f1 B1 C1 b2 d1
  go_wp2_with fail
  refine calls_name (fun W => Blk W w2.heap.size 25 #[.int .u32 src, .int .u16 V, .int .u32 stamp, .bool true, .int .u32 T, .int .u32 U] ∧ Blk W (w2.heap.size + 1) 27 #[.bool m, .int .u8 t, .int .u16 seq, .int .u32 T, .int .u32 src] ∧ Below w.heap.size w W) ⟨?_, ?_, ?_⟩ ?_
  · exact (Blk.new _ _ _).alloc _
  · exact Blk.newAt _ _ _ _ (by simp)
  · repeat (first | (with_reducible exact d2) | ((with_reducible refine Below.alloc ?_ ?hh _); case hh => (first | omega | (simp; omega))))
  rintro W2 ⟨D2, E2, d2a⟩
  refine (RH.out _ h0 h1 h2 h3 h4 h5 h6 h7).mono ?_
  rintro e w3 ⟨rfl, b3⟩
  have d3 := d2a.trans (b3.mono d2a.size)
  have D3 := D2.kept b3; have E3 := E2.kept b3
  have c3 := D3.cell; have f3 := E3.cell
  have z3 := E3.lt
  have z3' := D3.lt
  clear c2 f2 B2 C2 b3 d2 d2a D2 E2
  go_wp2_with fail
  refine (start_any _ _ _ _).mono ?_
  rintro e w4 ⟨rfl, b4⟩
  have d4 : Below w.heap.size w w4 := by
    refine Below.trans ?_ (b4.mono (by have := d3.size; simp; omega))
    have := d3.size
    repeat (first | (with_reducible exact d3) | ((with_reducible refine Below.alloc ?_ ?hh _); case hh => (first | omega | (simp; omega))))
  clear b4
  go_wp2_with fail
  go_ret
  exact ⟨rfl, d4⟩
end Go.Proofs.Ytkephenedkljoaa
