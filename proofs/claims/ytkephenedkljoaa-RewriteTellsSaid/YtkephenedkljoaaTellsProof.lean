/- RewriteTells: whatever the state, the packet and the three numbers, the law returns true, and each argument reads as it did. No condition. -/
import Derived.Test.YtkephenedkljoaaTells
import Derived.Test.YtkephenedkljoaaFlat
import Derived.ProofKit
import Derived.OpenShut
import Derived.Below
import Derived.Carry
namespace Go.Proofs.Ytkephenedkljoaa.rewriteTells
open Go.ChangeShapes Go.WideShapes Go.ChangeAt Go.RowKit Go.Proofs.Ytkephenedkljoaa
set_option linter.unusedVariables false

theorem own : ownKnob Try.prog.godebug = none := by kernel_rfl
theorem laidOut : laidOutB Try.prog = true := by kernel_rfl

theorem u32_wf {n : Int} (h : (Lit.int .u32 n).wf = true) : 0 ≤ n ∧ n ≤ 4294967295 := by
  simp [Lit.wf, IntKind.min, IntKind.max, IntKind.signed, IntKind.bits] at h
  omega
theorem u16_wf {n : Int} (h : (Lit.int .u16 n).wf = true) : 0 ≤ n ∧ n ≤ 65535 := by
  simp [Lit.wf, IntKind.min, IntKind.max, IntKind.signed, IntKind.bits] at h
  omega

/-- The walk, at numbers that fit their kinds. -/
theorem tells_whole (src seq stamp : Int) (any : Bool) (last shift : Int) (m : Bool) (t q st sr : Int) (first : Bool) (a b c : Int) (w : World) (w1 : (Lit.int .u32 src).wf = true) (w2 : (Lit.int .u16 seq).wf = true) (w3 : (Lit.int .u32 stamp).wf = true) (w4 : (Lit.int .u32 last).wf = true) (w5 : (Lit.int .u32 shift).wf = true)
    (x1 : (Lit.int .u8 t).wf = true) (x2 : (Lit.int .u16 q).wf = true) (x3 : (Lit.int .u32 st).wf = true) (x4 : (Lit.int .u32 sr).wf = true) (y1 : (Lit.int .u32 a).wf = true) (y2 : (Lit.int .u16 b).wf = true) (y3 : (Lit.int .u32 c).wf = true) :
    Calls Try.prog 3 #[stV src seq stamp any last shift, .agg #[.bool m, .int .u8 t, .int .u16 q, .int .u32 st, .int .u32 sr, .bool first], .int .u32 a, .int .u16 b, .int .u32 c] w fun e w' => e = .returned (.bool true) ∧ Below w.heap.size w w' := by
  have h3 := u32_wf w3; have h4 := u32_wf w4; have h5 := u32_wf w5; have h6 := u32_wf x3
  exact tells_walk src seq stamp last shift any m t q st sr first a b c w h3.1 h3.2 h4.1 h4.2 h5.1 h5.2 h6.1 h6.2

set_option maxRecDepth 100000 in
theorem lifted (os : Os) (started : os.Started) (H : Type) (enc : TypeId × Value → H) :
    ReturnsInHanded {} Try.checked os 3 .any (Rows.rewriteTellsSpec.pre6 enc Try.prog Try.f3 Rows.rewriteTellsRow.domain false) (Rows.rewriteTellsSpec.post enc Try.prog Try.f3 false true false false) := by
  refine returnsInHanded_of_change (C := Try.checked) own started (by kernel_rfl) Try.func3
    (ChangeSpec.witness6 (enc := enc) (C := Try.checked) false ⟨#[], #[.agg #[.int .u32 0, .int .u16 0, .int .u32 0, .bool false, .int .u32 0, .int .u32 0], .agg #[.bool false, .int .u8 0, .int .u16 0, .int .u32 0, .int .u32 0, .bool false], .int .u32 0, .int .u16 0, .int .u32 0], []⟩ 8 (by kernel_rfl) (by kernel_rfl) (by kernel_rfl) (by kernel_rfl)) ?_
  intro W base args ds gs before hval0 hW hcnd _
  have hval : ∀ (j : Nat) t v, Try.f3.params[j]? = some t → args[j]? = some v → Value.okWide Try.prog W .any base t v := hval0
  have hW' := hW
  obtain ⟨p, q, hA0, hV, rfl, hfz, hnd⟩ := hW
  have hA : DataW.TrodAll enc Try.prog W 0 (fun _ => true) true Try.f3.params.toList args.toList ds p := hA0
  rw [Try.params3] at hA hval
  obtain ⟨v0, vs0, d0, ds0, p0, q0, hargs, rfl, rfl, h0, r0⟩ := trodAll_cons hA
  obtain ⟨v1, vs1, d1, ds1, p1, q1, rfl, rfl, rfl, h1, r1⟩ := trodAll_cons r0
  obtain ⟨v2, vs2, d2, ds2, p2, q2, rfl, rfl, rfl, h2, r2⟩ := trodAll_cons r1
  obtain ⟨v3, vs3, d3, ds3, p3, q3, rfl, rfl, rfl, h3, r3⟩ := trodAll_cons r2
  obtain ⟨v4, vs4, d4, ds4, p4, q4, rfl, rfl, rfl, h4, r4⟩ := trodAll_cons r3
  obtain ⟨rfl, rfl, rfl⟩ := trodAll_nil r4
  obtain rfl : args = #[v0, v1, v2, v3, v4] := by cases args; simp_all
  obtain ⟨rfl, rfl⟩ := trodVars_none hV
  have k0 := h0
  have lt0 : ∀ x ∈ p0, x.block < W.heap.size := by obtain ⟨m, hm⟩ := k0; exact DataW.trod_lt m _ _ _ hm
  have k1 := h1
  have lt1 : ∀ x ∈ p1, x.block < W.heap.size := by obtain ⟨m, hm⟩ := k1; exact DataW.trod_lt m _ _ _ hm
  have k2 := h2
  have lt2 : ∀ x ∈ p2, x.block < W.heap.size := by obtain ⟨m, hm⟩ := k2; exact DataW.trod_lt m _ _ _ hm
  have k3 := h3
  have lt3 : ∀ x ∈ p3, x.block < W.heap.size := by obtain ⟨m, hm⟩ := k3; exact DataW.trod_lt m _ _ _ hm
  have k4 := h4
  have lt4 : ∀ x ∈ p4, x.block < W.heap.size := by obtain ⟨m, hm⟩ := k4; exact DataW.trod_lt m _ _ _ hm
  obtain ⟨cs0, rfl, sz0⟩ := okWide_struct Try.underlying25 (hval 0 25 v0 rfl rfl)
  obtain ⟨l0⟩ := cs0
  obtain ⟨fu0, hf0⟩ := h0
  have F0 := flat_ok 6 25 [.i .u32, .i .u16, .i .u32, .b, .i .u32, .i .u32] (by kernel_rfl) _ _ _ hf0
  simp only [Value.cells] at F0
  obtain ⟨_, _, rfl, ⟨a0_0, rfl, w0_0⟩, ⟨_, _, rfl, ⟨a0_1, rfl, w0_1⟩, ⟨_, _, rfl, ⟨a0_2, rfl, w0_2⟩, ⟨_, _, rfl, ⟨a0_3, rfl⟩, ⟨_, _, rfl, ⟨a0_4, rfl, w0_4⟩, ⟨_, _, rfl, ⟨a0_5, rfl, w0_5⟩, rfl⟩⟩⟩⟩⟩⟩ := F0
  obtain ⟨cs1, rfl, sz1⟩ := okWide_struct Try.underlying29 (hval 1 29 v1 rfl rfl)
  obtain ⟨l1⟩ := cs1
  obtain ⟨fu1, hf1⟩ := h1
  have F1 := flat_ok 6 29 [.b, .i .u8, .i .u16, .i .u32, .i .u32, .b] (by kernel_rfl) _ _ _ hf1
  simp only [Value.cells] at F1
  obtain ⟨_, _, rfl, ⟨a1_0, rfl⟩, ⟨_, _, rfl, ⟨a1_1, rfl, w1_1⟩, ⟨_, _, rfl, ⟨a1_2, rfl, w1_2⟩, ⟨_, _, rfl, ⟨a1_3, rfl, w1_3⟩, ⟨_, _, rfl, ⟨a1_4, rfl, w1_4⟩, ⟨_, _, rfl, ⟨a1_5, rfl⟩, rfl⟩⟩⟩⟩⟩⟩ := F1
  obtain ⟨a2, rfl, rfl, rfl, w2⟩ := open_int Try.underlying22 (hval 2 22 v2 rfl rfl) h2
  obtain ⟨a3, rfl, rfl, rfl, w3⟩ := open_int Try.underlying23 (hval 3 23 v3 rfl rfl) h3
  obtain ⟨a4, rfl, rfl, rfl, w4⟩ := open_int Try.underlying22 (hval 4 22 v4 rfl rfl) h4
  clear hA0 hval0
  refine (tells_whole a0_0 a0_1 a0_2 a0_3 a0_4 a0_5 a1_0 a1_1 a1_2 a1_3 a1_4 a1_5 a2 a3 a4 W w0_0 w0_1 w0_2 w0_4 w0_5 w1_1 w1_2 w1_3 w1_4 w2 w3 w4).mono fun e W' ⟨he, bel⟩ => ?_
  subst he
  exact ⟨_, rfl, _, _, _, [], _, [], hW', trodAll_mk1 (shut_bool Try.underlying4 _), (trodAll_cons_mk (Below.trod laidOut (by kernel_rfl) (of_decide_eq_true (by kernel_rfl)) k0 bel lt0) (trodAll_cons_mk (Below.trod laidOut (by kernel_rfl) (of_decide_eq_true (by kernel_rfl)) k1 bel lt1) (trodAll_cons_mk (Below.trod laidOut (by kernel_rfl) (of_decide_eq_true (by kernel_rfl)) k2 bel lt2) (trodAll_cons_mk (Below.trod laidOut (by kernel_rfl) (of_decide_eq_true (by kernel_rfl)) k3 bel lt3) (trodAll_cons_mk (Below.trod laidOut (by kernel_rfl) (of_decide_eq_true (by kernel_rfl)) k4 bel lt4) trodAll_mk0))))), rfl, bel.frame _, fun h => by cases h⟩

theorem over : Rows.rewriteTellsRow.holds Try.pinned (OpenSpec.ofChange Rows.rewriteTellsSpec) :=
  OpenClaim.holds_of_wide 3 Try.f3 rfl rfl rfl rfl rfl rfl rfl ⟨rfl, rfl, rfl, rfl, rfl⟩ rfl rfl rfl rfl rfl (by kernel_rfl) Try.func3 (by kernel_rfl)
    (of_decide_eq_true (by kernel_rfl)) (by unfold Func.isWrapper; first | (rw [if_pos (by decide +kernel)]; kernel_rfl) | (rw [if_neg (by decide +kernel)]; exact ⟨rfl, rfl⟩))
    (fun os started H enc _ => lifted os started H enc)

/-- the statement -/
theorem proved : Rows.RewriteTellsSaid := over
#print axioms proved
end Go.Proofs.Ytkephenedkljoaa.rewriteTells
