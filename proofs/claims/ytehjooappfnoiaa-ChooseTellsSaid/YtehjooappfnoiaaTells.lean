/- ChooseTells: the walk, way by way. -/
import Derived.Test.YtehjooappfnoiaaAwake
namespace Go.Proofs.Ytehjooappfnoiaa
open Go.ChangeShapes Go.WideShapes Go.ChangeAt Go.RowKit
set_option linter.unusedVariables false

set_option maxHeartbeats 1000000 in
theorem tells_in_no (c t l tg : Int) (k : Bool) (w : World) (l0 : 0 ≤ l) (l1 : l ≤ 255) (t0 : 0 ≤ tg) (t1 : tg < 3) (hm : ¬ (-1 ≤ c ∧ c < 3 ∧ 0 ≤ t ∧ t < 3)) :
    Calls Try.prog 3 #[stV c t, .int .u8 l, .bool k, .int .i64 tg] w fun e w' => e = .returned (.bool true) ∧ Below w.heap.size w w' := by
  have HM := Lib.hid hm; clear hm
  have ta := take_any c t l k; have tr := ref_any c t l k
  generalize tkC c t l k = C at ta tr
  generalize tkF c t l k = F at ta tr
  generalize tkX c t l k = X at ta tr
  have TA := Lib.hid ta; have TR := Lib.hid tr; clear ta tr
  have d := Below.refl w.heap.size w
  go_enter Try.func3, Try.ntmps3
  go_wp2_with fail
  refine (awake_true _).mono ?_
  rintro e w1 ⟨rfl, b⟩
  have Bs := Blk.born b; have cs := Bs.cell; have zs := Bs.lt; have fs := Bs.frozen
  replace d := bl_after d b
  clear b
  go_wp2_with fail
  have k0 := d.size
  have ne1 : ¬ (w.heap.size = w1.heap.size) := by omega
  refine (start_in _ _ t0 t1).mono ?_
  rintro e w2 ⟨rfl, b⟩
  replace Bs := Bs.after b; replace cs := Bs.cell; replace zs := Bs.lt; replace fs := Bs.frozen
  have Bwant := Blk.born b; have cwant := Bwant.cell; have zwant := Bwant.lt; have fwant := Bwant.frozen
  replace d := bl_after d b
  clear b
  go_wp2_with fail
  refine (may_no _ _ _ HM.out).mono ?_
  rintro e w3 ⟨rfl, b⟩
  replace Bs := Bs.after b; replace cs := Bs.cell; replace zs := Bs.lt; replace fs := Bs.frozen
  replace Bwant := Bwant.after b; replace cwant := Bwant.cell; replace zwant := Bwant.lt; replace fwant := Bwant.frozen
  have Ba := Blk.born b; have ca := Ba.cell; have za := Ba.lt; have fa := Ba.frozen
  replace d := bl_after d b
  clear b
  go_wp2_with fail
  go_ret
  exact ⟨rfl, d⟩

set_option maxHeartbeats 1000000 in
theorem tells_in_big (c t l tg : Int) (k : Bool) (w : World) (l0 : 0 ≤ l) (l1 : l ≤ 255) (t0 : 0 ≤ tg) (t1 : tg < 3) (hm : -1 ≤ c ∧ c < 3 ∧ 0 ≤ t ∧ t < 3) (hl : 3 ≤ l) :
    Calls Try.prog 3 #[stV c t, .int .u8 l, .bool k, .int .i64 tg] w fun e w' => e = .returned (.bool true) ∧ Below w.heap.size w w' := by
  have HM := Lib.hid hm; clear hm
  have ta := take_any c t l k; have tr := ref_any c t l k
  generalize tkC c t l k = C at ta tr
  generalize tkF c t l k = F at ta tr
  generalize tkX c t l k = X at ta tr
  have TA := Lib.hid ta; have TR := Lib.hid tr; clear ta tr
  have d := Below.refl w.heap.size w
  go_enter Try.func3, Try.ntmps3
  go_wp2_with fail
  refine (awake_true _).mono ?_
  rintro e w1 ⟨rfl, b⟩
  have Bs := Blk.born b; have cs := Bs.cell; have zs := Bs.lt; have fs := Bs.frozen
  replace d := bl_after d b
  clear b
  go_wp2_with fail
  have k0 := d.size
  have ne1 : ¬ (w.heap.size = w1.heap.size) := by omega
  refine (start_in _ _ t0 t1).mono ?_
  rintro e w2 ⟨rfl, b⟩
  replace Bs := Bs.after b; replace cs := Bs.cell; replace zs := Bs.lt; replace fs := Bs.frozen
  have Bwant := Blk.born b; have cwant := Bwant.cell; have zwant := Bwant.lt; have fwant := Bwant.frozen
  replace d := bl_after d b
  clear b
  go_wp2_with fail
  refine (may_yes _ _ _ HM.out.1 HM.out.2.1 HM.out.2.2.1 HM.out.2.2.2).mono ?_
  rintro e w3 ⟨rfl, b⟩
  replace Bs := Bs.after b; replace cs := Bs.cell; replace zs := Bs.lt; replace fs := Bs.frozen
  replace Bwant := Bwant.after b; replace cwant := Bwant.cell; replace zwant := Bwant.lt; replace fwant := Bwant.frozen
  have Ba := Blk.born b; have ca := Ba.cell; have za := Ba.lt; have fa := Ba.frozen
  replace d := bl_after d b
  clear b
  go_wp2_with fail
  go_ret
  exact ⟨rfl, d⟩

set_option maxHeartbeats 1000000 in
theorem tells_out_no (c t l tg : Int) (k : Bool) (w : World) (l0 : 0 ≤ l) (l1 : l ≤ 255) (ht : tg < 0 ∨ 3 ≤ tg) (hm : ¬ (-1 ≤ c ∧ c < 3 ∧ 0 ≤ t ∧ t < 3)) :
    Calls Try.prog 3 #[stV c t, .int .u8 l, .bool k, .int .i64 tg] w fun e w' => e = .returned (.bool true) ∧ Below w.heap.size w w' := by
  have g0 : ((decide (0 ≤ tg)) = false) ∨ (0 ≤ tg ∧ decide (tg < 3) = false) := by simp; omega
  have HM := Lib.hid hm; clear hm
  have ta := take_any c t l k; have tr := ref_any c t l k
  generalize tkC c t l k = C at ta tr
  generalize tkF c t l k = F at ta tr
  generalize tkX c t l k = X at ta tr
  have TA := Lib.hid ta; have TR := Lib.hid tr; clear ta tr
  have d := Below.refl w.heap.size w
  have HT := Lib.hid ht; clear ht
  rcases g0 with g0 | ⟨g1, g0⟩
  all_goals
    go_enter Try.func3, Try.ntmps3
    go_wp2_with fail
    refine (awake_true _).mono ?_
    rintro e w1 ⟨rfl, b⟩
    have Bs := Blk.born b; have cs := Bs.cell; have zs := Bs.lt; have fs := Bs.frozen
    replace d := bl_after d b
    clear b
    go_wp2_with fail
    have k0 := d.size
    have ne1 : ¬ (w.heap.size = w1.heap.size) := by omega
    refine (start_out _ _ HT.out).mono ?_
    rintro e w2 ⟨rfl, b⟩
    replace Bs := Bs.after b; replace cs := Bs.cell; replace zs := Bs.lt; replace fs := Bs.frozen
    have Bwant := Blk.born b; have cwant := Bwant.cell; have zwant := Bwant.lt; have fwant := Bwant.frozen
    replace d := bl_after d b
    clear b
    go_wp2_with fail
    refine (may_no _ _ _ HM.out).mono ?_
    rintro e w3 ⟨rfl, b⟩
    replace Bs := Bs.after b; replace cs := Bs.cell; replace zs := Bs.lt; replace fs := Bs.frozen
    replace Bwant := Bwant.after b; replace cwant := Bwant.cell; replace zwant := Bwant.lt; replace fwant := Bwant.frozen
    have Ba := Blk.born b; have ca := Ba.cell; have za := Ba.lt; have fa := Ba.frozen
    replace d := bl_after d b
    clear b
    go_wp2_with fail
    go_ret
    exact ⟨rfl, d⟩

set_option maxHeartbeats 1000000 in
theorem tells_out_big (c t l tg : Int) (k : Bool) (w : World) (l0 : 0 ≤ l) (l1 : l ≤ 255) (ht : tg < 0 ∨ 3 ≤ tg) (hm : -1 ≤ c ∧ c < 3 ∧ 0 ≤ t ∧ t < 3) (hl : 3 ≤ l) :
    Calls Try.prog 3 #[stV c t, .int .u8 l, .bool k, .int .i64 tg] w fun e w' => e = .returned (.bool true) ∧ Below w.heap.size w w' := by
  have g0 : ((decide (0 ≤ tg)) = false) ∨ (0 ≤ tg ∧ decide (tg < 3) = false) := by simp; omega
  have HM := Lib.hid hm; clear hm
  have ta := take_any c t l k; have tr := ref_any c t l k
  generalize tkC c t l k = C at ta tr
  generalize tkF c t l k = F at ta tr
  generalize tkX c t l k = X at ta tr
  have TA := Lib.hid ta; have TR := Lib.hid tr; clear ta tr
  have d := Below.refl w.heap.size w
  have HT := Lib.hid ht; clear ht
  rcases g0 with g0 | ⟨g1, g0⟩
  all_goals
    go_enter Try.func3, Try.ntmps3
    go_wp2_with fail
    refine (awake_true _).mono ?_
    rintro e w1 ⟨rfl, b⟩
    have Bs := Blk.born b; have cs := Bs.cell; have zs := Bs.lt; have fs := Bs.frozen
    replace d := bl_after d b
    clear b
    go_wp2_with fail
    have k0 := d.size
    have ne1 : ¬ (w.heap.size = w1.heap.size) := by omega
    refine (start_out _ _ HT.out).mono ?_
    rintro e w2 ⟨rfl, b⟩
    replace Bs := Bs.after b; replace cs := Bs.cell; replace zs := Bs.lt; replace fs := Bs.frozen
    have Bwant := Blk.born b; have cwant := Bwant.cell; have zwant := Bwant.lt; have fwant := Bwant.frozen
    replace d := bl_after d b
    clear b
    go_wp2_with fail
    refine (may_yes _ _ _ HM.out.1 HM.out.2.1 HM.out.2.2.1 HM.out.2.2.2).mono ?_
    rintro e w3 ⟨rfl, b⟩
    replace Bs := Bs.after b; replace cs := Bs.cell; replace zs := Bs.lt; replace fs := Bs.frozen
    replace Bwant := Bwant.after b; replace cwant := Bwant.cell; replace zwant := Bwant.lt; replace fwant := Bwant.frozen
    have Ba := Blk.born b; have ca := Ba.cell; have za := Ba.lt; have fa := Ba.frozen
    replace d := bl_after d b
    clear b
    go_wp2_with fail
    go_ret
    exact ⟨rfl, d⟩

set_option maxHeartbeats 1000000 in
theorem tells_in_full (c t l tg : Int) (k : Bool) (w : World) (l0 : 0 ≤ l) (l1 : l ≤ 255) (t0 : 0 ≤ tg) (t1 : tg < 3) (hm : -1 ≤ c ∧ c < 3 ∧ 0 ≤ t ∧ t < 3) (hl : l < 3) :
    Calls Try.prog 3 #[stV c t, .int .u8 l, .bool k, .int .i64 tg] w fun e w' => e = .returned (.bool true) ∧ Below w.heap.size w w' := by
  have HM := Lib.hid hm; clear hm
  have ta := take_any c t l k; have tr := ref_any c t l k
  generalize tkC c t l k = C at ta tr
  generalize tkF c t l k = F at ta tr
  generalize tkX c t l k = X at ta tr
  have TA := Lib.hid ta; have TR := Lib.hid tr; clear ta tr
  have d := Below.refl w.heap.size w
  go_enter Try.func3, Try.ntmps3
  go_wp2_with fail
  refine (awake_true _).mono ?_
  rintro e w1 ⟨rfl, b⟩
  have Bs := Blk.born b; have cs := Bs.cell; have zs := Bs.lt; have fs := Bs.frozen
  replace d := bl_after d b
  clear b
  go_wp2_with fail
  have k0 := d.size
  have ne1 : ¬ (w.heap.size = w1.heap.size) := by omega
  refine (start_in _ _ t0 t1).mono ?_
  rintro e w2 ⟨rfl, b⟩
  replace Bs := Bs.after b; replace cs := Bs.cell; replace zs := Bs.lt; replace fs := Bs.frozen
  have Bwant := Blk.born b; have cwant := Bwant.cell; have zwant := Bwant.lt; have fwant := Bwant.frozen
  replace d := bl_after d b
  clear b
  go_wp2_with fail
  refine (may_yes _ _ _ HM.out.1 HM.out.2.1 HM.out.2.2.1 HM.out.2.2.2).mono ?_
  rintro e w3 ⟨rfl, b⟩
  replace Bs := Bs.after b; replace cs := Bs.cell; replace zs := Bs.lt; replace fs := Bs.frozen
  replace Bwant := Bwant.after b; replace cwant := Bwant.cell; replace zwant := Bwant.lt; replace fwant := Bwant.frozen
  have Ba := Blk.born b; have ca := Ba.cell; have za := Ba.lt; have fa := Ba.frozen
  replace d := bl_after d b
  clear b
  go_wp2_with fail
  refine (want_in _ _ _ _ t0 t1).mono ?_
  rintro e w4 ⟨rfl, b⟩
  replace Bs := Bs.kept b; replace cs := Bs.cell; replace zs := Bs.lt; replace fs := Bs.frozen
  replace Bwant := Bwant.kept b; replace cwant := Bwant.cell; replace zwant := Bwant.lt; replace fwant := Bwant.frozen
  replace Ba := Ba.kept b; replace ca := Ba.cell; replace za := Ba.lt; replace fa := Ba.frozen
  replace d := bl_step d b
  clear b
  go_wp2_with fail
  have k1 := d.size
  refine calls_name (fun W => Blk W w.heap.size 23 #[.int .i64 c, .int .i64 t] ∧ Below w.heap.size w W) ⟨?_, ?_⟩ ?_
  · first | exact (Bs.far (by simp; omega) _).alloc _ | exact (Bs.alloc _).far (by simp; omega) _
  · have k2 := zwant; repeat (first | (with_reducible exact d) | ((with_reducible refine Below.alloc ?_ ?hh _); case hh => (first | omega | (simp; omega) | simp)) | ((with_reducible refine Below.setCell ?_ ?hh _); case hh => (first | omega | (simp; omega) | simp)))
  clear Bs cs zs fs Bwant cwant zwant fwant Ba ca za fa d k1 ne1
  rintro W ⟨Bs, d⟩
  have cs := Bs.cell; have zs := Bs.lt; have fs := Bs.frozen
  refine (TA.out _).mono ?_
  rintro e w5 ⟨rfl, b⟩
  replace Bs := Bs.kept b; replace cs := Bs.cell; replace zs := Bs.lt; replace fs := Bs.frozen
  replace d := bl_step d b
  clear b
  go_wp2_with fail
  refine (TR.out _).mono ?_
  rintro e w6 ⟨rfl, b⟩
  replace Bs := Bs.after b; replace cs := Bs.cell; replace zs := Bs.lt; replace fs := Bs.frozen
  have Bt := Blk.born b; have ct := Bt.cell; have zt := Bt.lt; have ft := Bt.frozen
  replace d := bl_after d b
  clear b
  go_wp2_with fail
  replace ct := Bt.cell; have z6 := Bt.lt
  refine wp_name (fun W => Blk W w.heap.size 23 #[.int .i64 c, .int .i64 t] ∧ Blk W w5.heap.size 23 #[.int .i64 C, .int .i64 t] ∧ Blk W w6.heap.size 33 #[.int .i64 C, .int .i64 t] ∧ Below w.heap.size w W) ⟨Bs.alloc _, Bt.alloc _, Blk.new _ _ _, d.alloc d.size _⟩ ?_
  clear Bs cs zs fs Bt ct zt ft d z6
  rintro W1 ⟨Bs, Bt, Bu, d⟩
  have s0 := Bs.cell 0; have s1 := Bs.cell 1; have v0 := Bt.cell 0; have v1 := Bt.cell 1; have u0 := Bu.cell 0; have u1 := Bu.cell 1; have zs := Bs.lt; have zt := Bt.lt; have zu := Bu.lt
  have hp : (pend c t == (c != t)) = true := by simp [pend]
  go_region_held3 (fun W => W.cell? ⟨w.heap.size, 0, none⟩ = some (.int .i64 c) ∧ W.cell? ⟨w.heap.size, 1, none⟩ = some (.int .i64 t) ∧ W.cell? ⟨w5.heap.size, 0, none⟩ = some (.int .i64 C) ∧ W.cell? ⟨w5.heap.size, 1, none⟩ = some (.int .i64 t) ∧ W.cell? ⟨w6.heap.size, 0, none⟩ = some (.int .i64 C) ∧ W.cell? ⟨w6.heap.size, 1, none⟩ = some (.int .i64 t)) (simp [go_sem, *]) (first | (go_at_call 12; refine (pending_exact _ _ _).mono ?_; rintro e w' ⟨rfl, rfl⟩))
  go_wp2_with fail
  go_ret
  refine ⟨rfl, ?_⟩
  have k9 := d.size; repeat (first | (with_reducible exact d) | (with_reducible refine Below.drew ?_) | ((with_reducible refine Below.alloc ?_ ?hh _); case hh => (first | omega | (simp; omega) | simp)))

set_option maxHeartbeats 1000000 in
theorem tells_out_full (c t l tg : Int) (k : Bool) (w : World) (l0 : 0 ≤ l) (l1 : l ≤ 255) (ht : tg < 0 ∨ 3 ≤ tg) (hm : -1 ≤ c ∧ c < 3 ∧ 0 ≤ t ∧ t < 3) (hl : l < 3) :
    Calls Try.prog 3 #[stV c t, .int .u8 l, .bool k, .int .i64 tg] w fun e w' => e = .returned (.bool true) ∧ Below w.heap.size w w' := by
  have g0 : ((decide (0 ≤ tg)) = false) ∨ (0 ≤ tg ∧ decide (tg < 3) = false) := by simp; omega
  have HM := Lib.hid hm; clear hm
  have ta := take_any c t l k; have tr := ref_any c t l k
  generalize tkC c t l k = C at ta tr
  generalize tkF c t l k = F at ta tr
  generalize tkX c t l k = X at ta tr
  have TA := Lib.hid ta; have TR := Lib.hid tr; clear ta tr
  have d := Below.refl w.heap.size w
  have HT := Lib.hid ht; clear ht
  rcases g0 with g0 | ⟨g1, g0⟩
  all_goals
    go_enter Try.func3, Try.ntmps3
    go_wp2_with fail
    refine (awake_true _).mono ?_
    rintro e w1 ⟨rfl, b⟩
    have Bs := Blk.born b; have cs := Bs.cell; have zs := Bs.lt; have fs := Bs.frozen
    replace d := bl_after d b
    clear b
    go_wp2_with fail
    have k0 := d.size
    have ne1 : ¬ (w.heap.size = w1.heap.size) := by omega
    refine (start_out _ _ HT.out).mono ?_
    rintro e w2 ⟨rfl, b⟩
    replace Bs := Bs.after b; replace cs := Bs.cell; replace zs := Bs.lt; replace fs := Bs.frozen
    have Bwant := Blk.born b; have cwant := Bwant.cell; have zwant := Bwant.lt; have fwant := Bwant.frozen
    replace d := bl_after d b
    clear b
    go_wp2_with fail
    refine (may_yes _ _ _ HM.out.1 HM.out.2.1 HM.out.2.2.1 HM.out.2.2.2).mono ?_
    rintro e w3 ⟨rfl, b⟩
    replace Bs := Bs.after b; replace cs := Bs.cell; replace zs := Bs.lt; replace fs := Bs.frozen
    replace Bwant := Bwant.after b; replace cwant := Bwant.cell; replace zwant := Bwant.lt; replace fwant := Bwant.frozen
    have Ba := Blk.born b; have ca := Ba.cell; have za := Ba.lt; have fa := Ba.frozen
    replace d := bl_after d b
    clear b
    go_wp2_with fail
    refine (want_out _ _ _ _ HT.out).mono ?_
    rintro e w4 ⟨rfl, b⟩
    replace Bs := Bs.kept b; replace cs := Bs.cell; replace zs := Bs.lt; replace fs := Bs.frozen
    replace Bwant := Bwant.kept b; replace cwant := Bwant.cell; replace zwant := Bwant.lt; replace fwant := Bwant.frozen
    replace Ba := Ba.kept b; replace ca := Ba.cell; replace za := Ba.lt; replace fa := Ba.frozen
    replace d := bl_step d b
    clear b
    go_wp2_with fail
    have k1 := d.size
    refine calls_name (fun W => Blk W w.heap.size 23 #[.int .i64 c, .int .i64 t] ∧ Below w.heap.size w W) ⟨?_, ?_⟩ ?_
    · first | exact (Bs.far (by simp; omega) _).alloc _ | exact (Bs.alloc _).far (by simp; omega) _
    · have k2 := zwant; repeat (first | (with_reducible exact d) | ((with_reducible refine Below.alloc ?_ ?hh _); case hh => (first | omega | (simp; omega) | simp)) | ((with_reducible refine Below.setCell ?_ ?hh _); case hh => (first | omega | (simp; omega) | simp)))
    clear Bs cs zs fs Bwant cwant zwant fwant Ba ca za fa d k1 ne1
    rintro W ⟨Bs, d⟩
    have cs := Bs.cell; have zs := Bs.lt; have fs := Bs.frozen
    refine (TA.out _).mono ?_
    rintro e w5 ⟨rfl, b⟩
    replace Bs := Bs.kept b; replace cs := Bs.cell; replace zs := Bs.lt; replace fs := Bs.frozen
    replace d := bl_step d b
    clear b
    go_wp2_with fail
    refine (TR.out _).mono ?_
    rintro e w6 ⟨rfl, b⟩
    replace Bs := Bs.after b; replace cs := Bs.cell; replace zs := Bs.lt; replace fs := Bs.frozen
    have Bt := Blk.born b; have ct := Bt.cell; have zt := Bt.lt; have ft := Bt.frozen
    replace d := bl_after d b
    clear b
    go_wp2_with fail
    replace ct := Bt.cell; have z6 := Bt.lt
    refine wp_name (fun W => Blk W w.heap.size 23 #[.int .i64 c, .int .i64 t] ∧ Blk W w5.heap.size 23 #[.int .i64 C, .int .i64 t] ∧ Blk W w6.heap.size 33 #[.int .i64 C, .int .i64 t] ∧ Below w.heap.size w W) ⟨Bs.alloc _, Bt.alloc _, Blk.new _ _ _, d.alloc d.size _⟩ ?_
    clear Bs cs zs fs Bt ct zt ft d z6
    rintro W1 ⟨Bs, Bt, Bu, d⟩
    have s0 := Bs.cell 0; have s1 := Bs.cell 1; have v0 := Bt.cell 0; have v1 := Bt.cell 1; have u0 := Bu.cell 0; have u1 := Bu.cell 1; have zs := Bs.lt; have zt := Bt.lt; have zu := Bu.lt
    have hp : (pend c t == (c != t)) = true := by simp [pend]
    go_region_held3 (fun W => W.cell? ⟨w.heap.size, 0, none⟩ = some (.int .i64 c) ∧ W.cell? ⟨w.heap.size, 1, none⟩ = some (.int .i64 t) ∧ W.cell? ⟨w5.heap.size, 0, none⟩ = some (.int .i64 C) ∧ W.cell? ⟨w5.heap.size, 1, none⟩ = some (.int .i64 t) ∧ W.cell? ⟨w6.heap.size, 0, none⟩ = some (.int .i64 C) ∧ W.cell? ⟨w6.heap.size, 1, none⟩ = some (.int .i64 t)) (simp [go_sem, *]) (first | (go_at_call 12; refine (pending_exact _ _ _).mono ?_; rintro e w' ⟨rfl, rfl⟩))
    go_wp2_with fail
    go_ret
    refine ⟨rfl, ?_⟩
    have k9 := d.size; repeat (first | (with_reducible exact d) | (with_reducible refine Below.drew ?_) | ((with_reducible refine Below.alloc ?_ ?hh _); case hh => (first | omega | (simp; omega) | simp)))

theorem tells_walk (c t l tg : Int) (k : Bool) (w : World) (l0 : 0 ≤ l) (l1 : l ≤ 255) :
    Calls Try.prog 3 #[stV c t, .int .u8 l, .bool k, .int .i64 tg] w fun e w' => e = .returned (.bool true) ∧ Below w.heap.size w w' := by
  by_cases ht : 0 ≤ tg ∧ tg < 3 <;> by_cases hm : -1 ≤ c ∧ c < 3 ∧ 0 ≤ t ∧ t < 3 <;> by_cases hl : l < 3
  · exact tells_in_full c t l tg k w l0 l1 ht.1 ht.2 hm hl
  · exact tells_in_big c t l tg k w l0 l1 ht.1 ht.2 hm (by omega)
  · exact tells_in_no c t l tg k w l0 l1 ht.1 ht.2 hm
  · exact tells_in_no c t l tg k w l0 l1 ht.1 ht.2 hm
  · exact tells_out_full c t l tg k w l0 l1 (by omega) hm hl
  · exact tells_out_big c t l tg k w l0 l1 (by omega) hm (by omega)
  · exact tells_out_no c t l tg k w l0 l1 (by omega) hm
  · exact tells_out_no c t l tg k w l0 l1 (by omega) hm
end Go.Proofs.Ytehjooappfnoiaa
