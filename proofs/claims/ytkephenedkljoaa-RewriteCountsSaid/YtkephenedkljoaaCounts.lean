/- RewriteCounts: the walk. -/
import Derived.Test.YtkephenedkljoaaAwake
import Derived.Test.YtkephenedkljoaaFlat
namespace Go.Proofs.Ytkephenedkljoaa
open Go.ChangeShapes Go.WideShapes Go.ChangeAt Go.RowKit
set_option linter.unusedVariables false

abbrev stC (src seq stamp : Int) (any : Bool) (last shift : Int) : Array Value := #[.int .u32 src, .int .u16 seq, .int .u32 stamp, .bool any, .int .u32 last, .int .u32 shift]
theorem wrap_u16 (n : Int) : IntKind.u16.wrap n = n % 65536 := by
  simp [IntKind.wrap, IntKind.signed, IntKind.bits]

theorem counts_long (src seq stamp : Int) (a : Option Addr) (len cap : Nat) (w : World) (h : 300 < len) (hl : len ≤ 9223372036854775807) :
    Calls Try.prog 4 #[.int .u32 src, .int .u16 seq, .int .u32 stamp, .slice a len cap] w fun e w' => e = .returned (.bool true) ∧ Below w.heap.size w w' := by
  go_enter Try.func4, Try.ntmps4
  go_wp2_with fail
  refine (awake_true _).mono ?_
  rintro e w1 ⟨rfl, b1⟩
  go_wp2_with fail
  go_ret
  exact ⟨rfl, b1⟩

set_option maxRecDepth 100000 in
set_option maxHeartbeats 2000000 in
theorem counts_some (src seq stamp : Int) (a : Option Addr) (len cap : Nat) (w : World) (h0 : 0 ≤ stamp) (h1 : stamp ≤ 4294967295) (s0 : 0 ≤ seq) (s1 : seq ≤ 65535) (hlen : len ≤ 300) (R : Hid (RowsOf w a len [.b, .i .u8, .i .u16, .i .u32, .i .u32, .b])) :
    Calls Try.prog 4 #[.int .u32 src, .int .u16 seq, .int .u32 stamp, .slice a len cap] w fun e w' => e = .returned (.bool true) ∧ Below w.heap.size w w' := by
  go_enter Try.func4, Try.ntmps4
  go_wp2_with fail
  refine (awake_true _).mono ?_
  rintro e w1 ⟨rfl, b1⟩
  go_wp2_with fail
  refine (start_any _ _ _ _).mono ?_
  rintro e w2 ⟨rfl, b2⟩
  have d2 := bl_step b1 b2
  have k2 := d2.size
  clear b1 b2
  go_wp2_with fail
  go_loopw [25] (fun i wr => ∃ (k : Nat) (any : Bool) (L S : Int), k ≤ len ∧ i = .int .i64 k ∧ any = decide (0 < k) ∧ Blk wr w2.heap.size 25 (stC src (IntKind.u16.wrap (seq + k)) stamp any L S) ∧ Below w.heap.size w wr) (fun i _ => len - (intOf i).toNat)
  case atStart =>
    refine ⟨0, false, 0, 0, by omega, rfl, rfl, ?_, d2.alloc k2 _⟩
    have e : IntKind.u16.wrap (seq + (0 : Nat)) = seq := by rw [wrap_u16]; omega
    rw [e]
    exact Blk.new _ _ _
  case round =>
    rename_i wr
    obtain ⟨k, any, L, S, hk, rfl, ha, B, dr⟩ := hrel
    have HA := Lib.hid ha; clear ha
    clear d2
    have cB := B.cell; have fB := B.frozen; have zB := B.lt
    by_cases hlt : k < len
    · obtain ⟨b, off, rfl, hR⟩ := R.out (by omega)
      obtain ⟨cs, hL, hc⟩ := hR k hlt
      obtain ⟨_, _, rfl, ⟨m, rfl⟩, _, _, rfl, ⟨t, rfl, _⟩, _, _, rfl, ⟨q, rfl, _⟩, _, _, rfl, ⟨st, rfl, wst⟩, _, _, rfl, ⟨sr, rfl, _⟩, _, _, rfl, ⟨first, rfl⟩, rfl⟩ := hL
      have e0 : wr.cell? ⟨b, off + k * 6, none⟩ = some (.bool m) := cell_old dr (hc 0 (by decide))
      have e1 : wr.cell? ⟨b, off + k * 6 + 1, none⟩ = some (.int .u8 t) := cell_old dr (hc 1 (by decide))
      have e2 : wr.cell? ⟨b, off + k * 6 + 2, none⟩ = some (.int .u16 q) := cell_old dr (hc 2 (by decide))
      have e3 : wr.cell? ⟨b, off + k * 6 + 3, none⟩ = some (.int .u32 st) := cell_old dr (hc 3 (by decide))
      have e4 : wr.cell? ⟨b, off + k * 6 + 4, none⟩ = some (.int .u32 sr) := cell_old dr (hc 4 (by decide))
      have e5 : wr.cell? ⟨b, off + k * 6 + 5, none⟩ = some (.bool first) := cell_old dr (hc 5 (by decide))
      clear hc R hR
      simp [Lit.wf, IntKind.min, IntKind.max, IntKind.signed, IntKind.bits] at wst
      -- the stamp of the very first packet
      have ht0 : k = 0 → tld stamp any L S st first = stamp := fun h => by
        have : any = false := by rw [HA.out]; simp [h]
        rw [this, tld, shf]; simp; omega
      have hs : IntKind.u16.wrap (IntKind.u16.wrap (seq + k) + 1) = IntKind.u16.wrap (seq + (k + 1 : Nat)) := by rw [wrap_u16, wrap_u16, wrap_u16]; omega
      have SA := Lib.hid (step_any src (IntKind.u16.wrap (seq + k)) stamp L S any m t q st sr first)
      rw [hs] at SA
      generalize tld stamp any L S st first = T at ht0 SA
      generalize shf stamp any L S st first = U at SA
      have HS := Lib.hid hs; clear hs
      rcases Nat.eq_zero_or_pos k with hk0 | hk0
      · have g : ((k : Int) == 0) = true := by simp [hk0]
        have gT : (T != stamp) = false := by rw [ht0 hk0]; simp
        clear hk0 ht0
        go_wp2_with fail
        refine (SA.out _).mono ?_
        rintro e w3 ⟨rfl, b3⟩
        have Bx := Blk.born b3
        replace B := B.after b3; replace dr := bl_after dr b3; clear b3
        replace cB := B.cell; replace fB := B.frozen; replace zB := B.lt
        have cX := Bx.cell; have zX := Bx.lt
        go_wp2_with fail
        go_roundw
        case rel => exact ⟨k + 1, true, T, U, by omega, by go_num, by simp, (((((((B.set_ 0 _).set_ 1 _).set_ 2 _).set_ 3 _).set_ 4 _).set_ 5 _).alloc _).alloc _, (((((((dr.setCell (by simp; omega) _).setCell (by simp; omega) _).setCell (by simp; omega) _).setCell (by simp; omega) _).setCell (by simp; omega) _).setCell (by simp; omega) _).alloc (by simp; omega) _).alloc (by simp; omega) _⟩
        case measure => simp [intOf]; omega
      · have g : ((k : Int) == 0) = false := by simp; omega
        clear hk0 ht0
        go_wp2_with fail
        refine (SA.out _).mono ?_
        rintro e w3 ⟨rfl, b3⟩
        have Bx := Blk.born b3
        replace B := B.after b3; replace dr := bl_after dr b3; clear b3
        replace cB := B.cell; replace fB := B.frozen; replace zB := B.lt
        have cX := Bx.cell; have zX := Bx.lt
        go_wp2_with fail
        go_roundw
        case rel => exact ⟨k + 1, true, T, U, by omega, by go_num, by simp, (((((((B.set_ 0 _).set_ 1 _).set_ 2 _).set_ 3 _).set_ 4 _).set_ 5 _).alloc _).alloc _, (((((((dr.setCell (by simp; omega) _).setCell (by simp; omega) _).setCell (by simp; omega) _).setCell (by simp; omega) _).setCell (by simp; omega) _).setCell (by simp; omega) _).alloc (by simp; omega) _).alloc (by simp; omega) _⟩
        case measure => simp [intOf]; omega
    · have hk' : k = len := by omega
      subst hk'
      have g1 : (any == decide (0 < k)) = true := by rw [HA.out]; simp
      go_wp2_with fail
      go_ret
      exact ⟨rfl, dr⟩
end Go.Proofs.Ytkephenedkljoaa
