/- RewriteStamps: the walk. -/
import Derived.Test.YtkephenedkljoaaCounts
namespace Go.Proofs.Ytkephenedkljoaa
open Go.ChangeShapes Go.WideShapes Go.ChangeAt Go.RowKit
set_option linter.unusedVariables false

theorem stamps_long (src seq stamp : Int) (a : Option Addr) (len cap : Nat) (w : World) (h : 300 < len) (hl : len ≤ 9223372036854775807) :
    Calls Try.prog 5 #[.int .u32 src, .int .u16 seq, .int .u32 stamp, .slice a len cap] w fun e w' => e = .returned (.bool true) ∧ Below w.heap.size w w' := by
  go_enter Try.func5, Try.ntmps5
  go_wp2_with fail
  refine (awake_true _).mono ?_
  rintro e w1 ⟨rfl, b1⟩
  go_wp2_with fail
  go_ret
  exact ⟨rfl, b1⟩

set_option maxRecDepth 100000 in
set_option maxHeartbeats 2000000 in
theorem stamps_some (src seq stamp : Int) (a : Option Addr) (len cap : Nat) (w : World) (h0 : 0 ≤ stamp) (h1 : stamp ≤ 4294967295) (hlen : len ≤ 300) (R : Hid (RowsOf w a len [.b, .i .u8, .i .u16, .i .u32, .i .u32, .b])) :
    Calls Try.prog 5 #[.int .u32 src, .int .u16 seq, .int .u32 stamp, .slice a len cap] w fun e w' => e = .returned (.bool true) ∧ Below w.heap.size w w' := by
  go_enter Try.func5, Try.ntmps5
  go_wp2_with fail
  refine (awake_true _).mono ?_
  rintro e w1 ⟨rfl, b1⟩
  go_wp2_with fail
  refine (start_any _ _ _ _).mono ?_
  rintro e w2 ⟨rfl, b2⟩
  have d2 := bl_step b1 b2
  have k2 := d2.size
  clear b1 b2
  go_wp2_with fail
  go_loopw [29, 10, 11] (fun i x y wr => ∃ (k : Nat) (any : Bool) (Q L O L' S : Int), k ≤ len ∧ i = .int .i64 k ∧ x = .int .u32 L ∧ y = .int .u32 O ∧ any = decide (0 < k) ∧ (0 < k → L' = L ∧ S = (L - O) % 4294967296) ∧ (k = 0 → L = stamp) ∧ 0 ≤ L ∧ L ≤ 4294967295 ∧ Blk wr w2.heap.size 25 (stC src Q stamp any L' S) ∧ Below w.heap.size w wr) (fun i _ _ _ => len - (intOf i).toNat)
  case atStart => exact ⟨0, false, seq, stamp, 0, 0, 0, by omega, rfl, rfl, rfl, rfl, by omega, by omega, h0, h1, Blk.new _ _ _, d2.alloc k2 _⟩
  case round =>
    rename_i wr
    obtain ⟨k, any, Q, L, O, L', S, hk, rfl, rfl, rfl, ha, hS, hL0, l0, l1, B, dr⟩ := hrel
    have HA := Lib.hid ha; have HS := Lib.hid hS; have HL := Lib.hid hL0; clear ha hS hL0
    clear d2
    have cB := B.cell; have fB := B.frozen; have zB := B.lt
    by_cases hlt : k < len
    · obtain ⟨b, off, rfl, hR⟩ := R.out (by omega)
      obtain ⟨cs, hL, hc⟩ := hR k hlt
      obtain ⟨_, _, rfl, ⟨m, rfl⟩, _, _, rfl, ⟨t, rfl, _⟩, _, _, rfl, ⟨q, rfl, _⟩, _, _, rfl, ⟨st, rfl, wst⟩, _, _, rfl, ⟨sr, rfl, _⟩, _, _, rfl, ⟨first, rfl⟩, rfl⟩ := hL
      have e0 : wr.cell? ⟨b, off + k * 6, none⟩ = some (.bool m) := cell_old dr (hc 0 (by decide))
      have e1 : wr.cell? ⟨b, off + k * 6 + 1, none⟩ = some (.int .u8 t) := cell_old dr (hc 1 (by decide))
      have e2 : wr.cell? ⟨b, off + k * 6 + 2, none⟩ = some (.int .u16 q) := cell_old dr (hc 2 (by decide))
      have e3 : wr.cell? ⟨b, off + k * 6 + 3, none⟩ = some (.int .u32 st) := cell_old dr (hc 3 (by decide))
      have e4 : wr.cell? ⟨b, off + k * 6 + 4, none⟩ = some (.int .u32 sr) := cell_old dr (hc 4 (by decide))
      have e5 : wr.cell? ⟨b, off + k * 6 + 5, none⟩ = some (.bool first) := cell_old dr (hc 5 (by decide))
      clear hc R hR
      simp [Lit.wf, IntKind.min, IntKind.max, IntKind.signed, IntKind.bits] at wst
      obtain ⟨st0, st1⟩ := wst
      rcases Nat.eq_zero_or_pos k with hk0 | hk0
      · have g : ((k : Int) == 0) = true := by simp [hk0]
        have hany : any = false := by rw [HA.out]; simp [hk0]
        have HAN := Lib.hid hany; clear hany
        cases first
        · have hx := 0
          have ht : tld stamp any L' S st false = stamp ∧ shf stamp any L' S st false = (stamp - st) % 4294967296 := by
            rw [HAN.out, tld, shf]; simp; omega
          have SA := Lib.hid (step_any src Q stamp L' S any m t q st sr false)
          rw [ht.1, ht.2] at SA
          have hU : (stamp - st) % 4294967296 = (stamp - st) % 4294967296 := by omega
          have HU := Lib.hid hU; clear ht hU
          generalize IntKind.u16.wrap (Q + 1) = Q2 at SA
          have ne : ¬ (w2.heap.size = wr.heap.size) := by omega
          have HK := Lib.hid hk0; clear hk0
          go_wp2_with fail
          refine (SA.out _).mono ?_
          rintro e w3 ⟨rfl, b3⟩
          have Bx := Blk.born b3; replace B := B.after b3; replace dr := bl_after dr b3; clear b3
          replace cB := B.cell; replace fB := B.frozen; replace zB := B.lt; have cX := Bx.cell; have zX := Bx.lt
          go_wp2_with fail
          refine wp_name (fun W => Blk W w2.heap.size 25 (stC src Q stamp any L' S) ∧ Blk W wr.heap.size 29 #[.bool m, .int .u8 t, .int .u16 q, .int .u32 st, .int .u32 sr, .bool false] ∧ Blk W w3.heap.size 25 #[.int .u32 src, .int .u16 Q2, .int .u32 stamp, .bool true, .int .u32 (stamp), .int .u32 ((stamp - st) % 4294967296)] ∧ Below w.heap.size w W) ⟨(B.alloc _).alloc _, (Bx.alloc _).alloc _, (Blk.new _ _ _).alloc _, ((dr.alloc dr.size _).alloc (by have := dr.size; simp; omega) _)⟩ ?_
          have zz : w2.heap.size < w3.heap.size := zB; have ne2 : ¬ (w2.heap.size = w3.heap.size) := by omega
          clear B Bx dr cB fB zB cX zX
          rintro W ⟨B, Bx, Bt, dr⟩
          have cB := B.cell; have fB := B.frozen; have cX := Bx.cell; have cT := Bt.cell
          go_region_held3 (fun W => W.cell? ⟨w3.heap.size, 0, none⟩ = some (.int .u32 src) ∧ W.cell? ⟨w3.heap.size, 1, none⟩ = some (.int .u16 Q2) ∧ W.cell? ⟨w3.heap.size, 2, none⟩ = some (.int .u32 stamp) ∧ W.cell? ⟨w3.heap.size, 3, none⟩ = some (.bool true) ∧ W.cell? ⟨w3.heap.size, 4, none⟩ = some (.int .u32 (stamp)) ∧ W.cell? ⟨w3.heap.size, 5, none⟩ = some (.int .u32 ((stamp - st) % 4294967296)) ∧ W.cell? ⟨wr.heap.size, 3, none⟩ = some (.int .u32 st)) (simp [go_sem, *]) (first | fail)
          go_wp2_with fail
          go_roundw
          case rel => exact ⟨k + 1, true, Q2, stamp, st, stamp, (stamp - st) % 4294967296, by omega, by go_num, rfl, rfl, by simp, fun _ => ⟨rfl, by first | exact HU.out | rfl⟩, fun h => by omega, by omega, by omega, ((((((B.set_ 0 _).set_ 1 _).set_ 2 _).set_ 3 _).set_ 4 _).set_ 5 _).drew, ((((((dr.setCell (by simp; omega) _).setCell (by simp; omega) _).setCell (by simp; omega) _).setCell (by simp; omega) _).setCell (by simp; omega) _).setCell (by simp; omega) _).drew⟩
          case measure => simp [intOf]; omega
        · have hx := 0
          have ht : tld stamp any L' S st true = stamp ∧ shf stamp any L' S st true = (stamp - st) % 4294967296 := by
            rw [HAN.out, tld, shf]; simp; omega
          have SA := Lib.hid (step_any src Q stamp L' S any m t q st sr true)
          rw [ht.1, ht.2] at SA
          have hU : (stamp - st) % 4294967296 = (stamp - st) % 4294967296 := by omega
          have HU := Lib.hid hU; clear ht hU
          generalize IntKind.u16.wrap (Q + 1) = Q2 at SA
          have ne : ¬ (w2.heap.size = wr.heap.size) := by omega
          have HK := Lib.hid hk0; clear hk0
          go_wp2_with fail
          refine (SA.out _).mono ?_
          rintro e w3 ⟨rfl, b3⟩
          have Bx := Blk.born b3; replace B := B.after b3; replace dr := bl_after dr b3; clear b3
          replace cB := B.cell; replace fB := B.frozen; replace zB := B.lt; have cX := Bx.cell; have zX := Bx.lt
          go_wp2_with fail
          refine wp_name (fun W => Blk W w2.heap.size 25 (stC src Q stamp any L' S) ∧ Blk W wr.heap.size 29 #[.bool m, .int .u8 t, .int .u16 q, .int .u32 st, .int .u32 sr, .bool true] ∧ Blk W w3.heap.size 25 #[.int .u32 src, .int .u16 Q2, .int .u32 stamp, .bool true, .int .u32 (stamp), .int .u32 ((stamp - st) % 4294967296)] ∧ Below w.heap.size w W) ⟨(B.alloc _).alloc _, (Bx.alloc _).alloc _, (Blk.new _ _ _).alloc _, ((dr.alloc dr.size _).alloc (by have := dr.size; simp; omega) _)⟩ ?_
          have zz : w2.heap.size < w3.heap.size := zB; have ne2 : ¬ (w2.heap.size = w3.heap.size) := by omega
          clear B Bx dr cB fB zB cX zX
          rintro W ⟨B, Bx, Bt, dr⟩
          have cB := B.cell; have fB := B.frozen; have cX := Bx.cell; have cT := Bt.cell
          go_region_held3 (fun W => W.cell? ⟨w3.heap.size, 0, none⟩ = some (.int .u32 src) ∧ W.cell? ⟨w3.heap.size, 1, none⟩ = some (.int .u16 Q2) ∧ W.cell? ⟨w3.heap.size, 2, none⟩ = some (.int .u32 stamp) ∧ W.cell? ⟨w3.heap.size, 3, none⟩ = some (.bool true) ∧ W.cell? ⟨w3.heap.size, 4, none⟩ = some (.int .u32 (stamp)) ∧ W.cell? ⟨w3.heap.size, 5, none⟩ = some (.int .u32 ((stamp - st) % 4294967296)) ∧ W.cell? ⟨wr.heap.size, 3, none⟩ = some (.int .u32 st)) (simp [go_sem, *]) (first | fail)
          go_wp2_with fail
          go_roundw
          case rel => exact ⟨k + 1, true, Q2, stamp, st, stamp, (stamp - st) % 4294967296, by omega, by go_num, rfl, rfl, by simp, fun _ => ⟨rfl, by first | exact HU.out | rfl⟩, fun h => by omega, by omega, by omega, ((((((B.set_ 0 _).set_ 1 _).set_ 2 _).set_ 3 _).set_ 4 _).set_ 5 _).drew, ((((((dr.setCell (by simp; omega) _).setCell (by simp; omega) _).setCell (by simp; omega) _).setCell (by simp; omega) _).setCell (by simp; omega) _).setCell (by simp; omega) _).drew⟩
          case measure => simp [intOf]; omega
      · have g : ((k : Int) == 0) = false := by simp; omega
        have hany : any = true := by rw [HA.out]; simp [hk0]
        have HAN := Lib.hid hany; clear hany
        cases first
        · have hx := 0
          have ht : tld stamp any L' S st false = (L + st - O) % 4294967296 ∧ shf stamp any L' S st false = (L + st - O - st) % 4294967296 := by
            rw [HAN.out, tld, shf, (HS.out hk0).2]; simp; omega
          have SA := Lib.hid (step_any src Q stamp L' S any m t q st sr false)
          rw [ht.1, ht.2] at SA
          have hU : (L + st - O - st) % 4294967296 = ((L + st - O) % 4294967296 - st) % 4294967296 := by omega
          have HU := Lib.hid hU; clear ht hU
          generalize IntKind.u16.wrap (Q + 1) = Q2 at SA
          have ne : ¬ (w2.heap.size = wr.heap.size) := by omega
          have HK := Lib.hid hk0; clear hk0
          go_wp2_with fail
          refine (SA.out _).mono ?_
          rintro e w3 ⟨rfl, b3⟩
          have Bx := Blk.born b3; replace B := B.after b3; replace dr := bl_after dr b3; clear b3
          replace cB := B.cell; replace fB := B.frozen; replace zB := B.lt; have cX := Bx.cell; have zX := Bx.lt
          go_wp2_with fail
          refine wp_name (fun W => Blk W w2.heap.size 25 (stC src Q stamp any L' S) ∧ Blk W wr.heap.size 29 #[.bool m, .int .u8 t, .int .u16 q, .int .u32 st, .int .u32 sr, .bool false] ∧ Blk W w3.heap.size 25 #[.int .u32 src, .int .u16 Q2, .int .u32 stamp, .bool true, .int .u32 ((L + st - O) % 4294967296), .int .u32 ((L + st - O - st) % 4294967296)] ∧ Below w.heap.size w W) ⟨(B.alloc _).alloc _, (Bx.alloc _).alloc _, (Blk.new _ _ _).alloc _, ((dr.alloc dr.size _).alloc (by have := dr.size; simp; omega) _)⟩ ?_
          have zz : w2.heap.size < w3.heap.size := zB; have ne2 : ¬ (w2.heap.size = w3.heap.size) := by omega
          clear B Bx dr cB fB zB cX zX
          rintro W ⟨B, Bx, Bt, dr⟩
          have cB := B.cell; have fB := B.frozen; have cX := Bx.cell; have cT := Bt.cell
          go_region_held3 (fun W => W.cell? ⟨w3.heap.size, 0, none⟩ = some (.int .u32 src) ∧ W.cell? ⟨w3.heap.size, 1, none⟩ = some (.int .u16 Q2) ∧ W.cell? ⟨w3.heap.size, 2, none⟩ = some (.int .u32 stamp) ∧ W.cell? ⟨w3.heap.size, 3, none⟩ = some (.bool true) ∧ W.cell? ⟨w3.heap.size, 4, none⟩ = some (.int .u32 ((L + st - O) % 4294967296)) ∧ W.cell? ⟨w3.heap.size, 5, none⟩ = some (.int .u32 ((L + st - O - st) % 4294967296)) ∧ W.cell? ⟨wr.heap.size, 3, none⟩ = some (.int .u32 st)) (simp [go_sem, *]) (first | fail)
          go_wp2_with fail
          go_roundw
          case rel => exact ⟨k + 1, true, Q2, (L + st - O) % 4294967296, st, (L + st - O) % 4294967296, (L + st - O - st) % 4294967296, by omega, by go_num, rfl, rfl, by simp, fun _ => ⟨rfl, by first | exact HU.out | rfl⟩, fun h => by omega, by omega, by omega, ((((((B.set_ 0 _).set_ 1 _).set_ 2 _).set_ 3 _).set_ 4 _).set_ 5 _).drew, ((((((dr.setCell (by simp; omega) _).setCell (by simp; omega) _).setCell (by simp; omega) _).setCell (by simp; omega) _).setCell (by simp; omega) _).setCell (by simp; omega) _).drew⟩
          case measure => simp [intOf]; omega
        · have hx := 0
          have ht : tld stamp any L' S st true = (L + 3000) % 4294967296 ∧ shf stamp any L' S st true = (L + 3000 - st) % 4294967296 := by
            rw [HAN.out, tld, shf, (HS.out hk0).1]; simp; try omega
          have SA := Lib.hid (step_any src Q stamp L' S any m t q st sr true)
          rw [ht.1, ht.2] at SA
          have hU : (L + 3000 - st) % 4294967296 = ((L + 3000) % 4294967296 - st) % 4294967296 := by omega
          have HU := Lib.hid hU; clear ht hU
          generalize IntKind.u16.wrap (Q + 1) = Q2 at SA
          have ne : ¬ (w2.heap.size = wr.heap.size) := by omega
          have HK := Lib.hid hk0; clear hk0
          go_wp2_with fail
          refine (SA.out _).mono ?_
          rintro e w3 ⟨rfl, b3⟩
          have Bx := Blk.born b3; replace B := B.after b3; replace dr := bl_after dr b3; clear b3
          replace cB := B.cell; replace fB := B.frozen; replace zB := B.lt; have cX := Bx.cell; have zX := Bx.lt
          go_wp2_with fail
          refine wp_name (fun W => Blk W w2.heap.size 25 (stC src Q stamp any L' S) ∧ Blk W wr.heap.size 29 #[.bool m, .int .u8 t, .int .u16 q, .int .u32 st, .int .u32 sr, .bool true] ∧ Blk W w3.heap.size 25 #[.int .u32 src, .int .u16 Q2, .int .u32 stamp, .bool true, .int .u32 ((L + 3000) % 4294967296), .int .u32 ((L + 3000 - st) % 4294967296)] ∧ Below w.heap.size w W) ⟨(B.alloc _).alloc _, (Bx.alloc _).alloc _, (Blk.new _ _ _).alloc _, ((dr.alloc dr.size _).alloc (by have := dr.size; simp; omega) _)⟩ ?_
          have zz : w2.heap.size < w3.heap.size := zB; have ne2 : ¬ (w2.heap.size = w3.heap.size) := by omega
          clear B Bx dr cB fB zB cX zX
          rintro W ⟨B, Bx, Bt, dr⟩
          have cB := B.cell; have fB := B.frozen; have cX := Bx.cell; have cT := Bt.cell
          go_region_held3 (fun W => W.cell? ⟨w3.heap.size, 0, none⟩ = some (.int .u32 src) ∧ W.cell? ⟨w3.heap.size, 1, none⟩ = some (.int .u16 Q2) ∧ W.cell? ⟨w3.heap.size, 2, none⟩ = some (.int .u32 stamp) ∧ W.cell? ⟨w3.heap.size, 3, none⟩ = some (.bool true) ∧ W.cell? ⟨w3.heap.size, 4, none⟩ = some (.int .u32 ((L + 3000) % 4294967296)) ∧ W.cell? ⟨w3.heap.size, 5, none⟩ = some (.int .u32 ((L + 3000 - st) % 4294967296)) ∧ W.cell? ⟨wr.heap.size, 3, none⟩ = some (.int .u32 st)) (simp [go_sem, *]) (first | fail)
          go_wp2_with fail
          go_roundw
          case rel => exact ⟨k + 1, true, Q2, (L + 3000) % 4294967296, st, (L + 3000) % 4294967296, (L + 3000 - st) % 4294967296, by omega, by go_num, rfl, rfl, by simp, fun _ => ⟨rfl, by first | exact HU.out | rfl⟩, fun h => by omega, by omega, by omega, ((((((B.set_ 0 _).set_ 1 _).set_ 2 _).set_ 3 _).set_ 4 _).set_ 5 _).drew, ((((((dr.setCell (by simp; omega) _).setCell (by simp; omega) _).setCell (by simp; omega) _).setCell (by simp; omega) _).setCell (by simp; omega) _).setCell (by simp; omega) _).drew⟩
          case measure => simp [intOf]; omega
    · have hk' : k = len := by omega
      subst hk'
      go_wp2_with fail
      go_ret
      exact ⟨rfl, dr⟩

theorem u32_wf {n : Int} (h : (Lit.int .u32 n).wf = true) : 0 ≤ n ∧ n ≤ 4294967295 := by
  simp [Lit.wf, IntKind.min, IntKind.max, IntKind.signed, IntKind.bits] at h
  omega
theorem u16_wf {n : Int} (h : (Lit.int .u16 n).wf = true) : 0 ≤ n ∧ n ≤ 65535 := by
  simp [Lit.wf, IntKind.min, IntKind.max, IntKind.signed, IntKind.bits] at h
  omega
theorem counts_whole (src seq stamp : Int) (a : Option Addr) (len cap : Nat) (w : World) (w0 : (Lit.int .u32 src).wf = true) (w1 : (Lit.int .u16 seq).wf = true) (w2 : (Lit.int .u32 stamp).wf = true) (hl : len ≤ maxLen) (R : RowsOf w a len [.b, .i .u8, .i .u16, .i .u32, .i .u32, .b]) :
    Calls Try.prog 4 #[.int .u32 src, .int .u16 seq, .int .u32 stamp, .slice a len cap] w fun e w' => e = .returned (.bool true) ∧ Below w.heap.size w w' := by
  unfold maxLen at hl
  by_cases hlen : len ≤ 300
  · exact counts_some src seq stamp a len cap w (u32_wf w2).1 (u32_wf w2).2 (u16_wf w1).1 (u16_wf w1).2 hlen (Lib.hid R)
  · exact counts_long src seq stamp a len cap w (by omega) (by omega)
theorem stamps_whole (src seq stamp : Int) (a : Option Addr) (len cap : Nat) (w : World) (w0 : (Lit.int .u32 src).wf = true) (w1 : (Lit.int .u16 seq).wf = true) (w2 : (Lit.int .u32 stamp).wf = true) (hl : len ≤ maxLen) (R : RowsOf w a len [.b, .i .u8, .i .u16, .i .u32, .i .u32, .b]) :
    Calls Try.prog 5 #[.int .u32 src, .int .u16 seq, .int .u32 stamp, .slice a len cap] w fun e w' => e = .returned (.bool true) ∧ Below w.heap.size w w' := by
  unfold maxLen at hl
  by_cases hlen : len ≤ 300
  · exact stamps_some src seq stamp a len cap w (u32_wf w2).1 (u32_wf w2).2 hlen (Lib.hid R)
  · exact stamps_long src seq stamp a len cap w (by omega) (by omega)
end Go.Proofs.Ytkephenedkljoaa
