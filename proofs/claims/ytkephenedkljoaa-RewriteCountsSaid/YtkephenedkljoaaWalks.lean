/- The walks of layer 17 (rewrite): what each inner function hands back, whatever it is handed. -/
import Derived.Test.YtkephenedkljoaaBase
namespace Go.Proofs.Ytkephenedkljoaa
open Go.ChangeShapes Go.WideShapes Go.ChangeAt Go.RowKit
set_option linter.unusedVariables false

theorem bcell {W w1 : World} (hb : Below W.heap.size W w1) : (∀ b o, b < W.heap.size → w1.cell? ⟨b, o, none⟩ = W.cell? ⟨b, o, none⟩) ∧ (∀ b o, b < W.heap.size → w1.frozen? ⟨b, o, none⟩ = W.frozen? ⟨b, o, none⟩) :=
  ⟨fun b o h => hb.cell (p := ⟨b, o, none⟩) h, fun b o h => hb.frozen (p := ⟨b, o, none⟩) h⟩

/-- the shift behind a packet, and its stamp -/
def shf (stamp : Int) (any : Bool) (last shift h : Int) (first : Bool) : Int :=
  if any then (if first then (last + 3000 - h) % 4294967296 else shift) else (stamp - h) % 4294967296
def tld (stamp : Int) (any : Bool) (last shift h : Int) (first : Bool) : Int := (h + shf stamp any last shift h first) % 4294967296

abbrev stV (src seq stamp : Int) (any : Bool) (last shift : Int) : Value := .agg #[.int .u32 src, .int .u16 seq, .int .u32 stamp, .bool any, .int .u32 last, .int .u32 shift]
abbrev hdV (m : Bool) (t q st sr : Int) : Value := .agg #[.bool m, .int .u8 t, .int .u16 q, .int .u32 st, .int .u32 sr]

set_option maxHeartbeats 1000000 in
theorem tell_any (src seq stamp last shift : Int) (any : Bool) (m : Bool) (t q st sr : Int) (first : Bool) (w : World) :
    Calls Try.prog 10 #[stV src seq stamp any last shift, hdV m t q st sr, .bool first] w fun e w' =>
      e = .returned (.agg #[.bool m, .int .u8 t, .int .u16 seq, .int .u32 (tld stamp any last shift st first), .int .u32 src, .int .u32 (shf stamp any last shift st first)]) ∧ ∃ c1 c2 c3 c4, w' = (((w.alloc (.cells c1 25)).alloc (.cells c2 27)).alloc (.cells c3 42)).alloc (.cells c4 42) := by
  cases any <;> cases first
  all_goals
    go_enter Try.func10, Try.ntmps10
    go_wp2
    exact bodyPost_ret (v := .agg #[.bool m, .int .u8 t, .int .u16 seq, .int .u32 (tld stamp _ last shift st _), .int .u32 src, .int .u32 (shf stamp _ last shift st _)]) (by simp [results, Try.results10, go_sem, tld, shf]) rfl ⟨rfl, _, _, _, _, rfl⟩

set_option maxHeartbeats 1000000 in
theorem step_any (src seq stamp last shift : Int) (any : Bool) (m : Bool) (t q st sr : Int) (first : Bool) (w : World) :
    Calls Try.prog 7 #[stV src seq stamp any last shift, hdV m t q st sr, .bool first] w fun e w' =>
      e = .returned (.tuple #[stV src (IntKind.u16.wrap (seq + 1)) stamp true (tld stamp any last shift st first) (shf stamp any last shift st first), hdV m t seq (tld stamp any last shift st first) src]) ∧ Below w.heap.size w w' := by
  go_enter Try.func7, Try.ntmps7
  go_wp2_with fail
  refine (tell_any _ _ _ _ _ _ _ _ _ _ _ _ _).mono ?_
  rintro e w' ⟨rfl, c1, c2, c3, c4, rfl⟩
  generalize hT : tld stamp any last shift st first = T
  generalize hS : shf stamp any last shift st first = S
  have HT := Lib.hid hT; have HS := Lib.hid hS
  clear hT hS
  go_wp2_with fail
  go_region
  go_wp2_with fail
  refine bodyPost_ret (v := .tuple #[stV src (IntKind.u16.wrap (seq + 1)) stamp true T S, hdV m t seq T src]) (by simp [results, Try.results7, go_sem]) rfl ⟨by rw [HT.out, HS.out], ?_⟩
  repeat (first | exact Below.refl _ _ | refine Below.drew ?_ | refine Below.alloc ?_ (by simp; try omega) _ | refine Below.setCell ?_ (by simp; try omega) _)

set_option maxHeartbeats 1000000 in
theorem start_any (src seq stamp : Int) (w : World) :
    Calls Try.prog 9 #[.int .u32 src, .int .u16 seq, .int .u32 stamp] w fun e w' => e = .returned (stV src seq stamp false 0 0) ∧ Below w.heap.size w w' := by
  go_enter Try.func9, Try.ntmps9
  go_wp2
  refine bodyPost_ret (v := stV src seq stamp false 0 0) (by simp [results, Try.results9, go_sem]) rfl ⟨rfl, ?_⟩
  repeat (first | exact Below.refl _ _ | refine Below.drew ?_ | refine Below.alloc ?_ (by simp; try omega) _ | refine Below.setCell ?_ (by simp; try omega) _)

end Go.Proofs.Ytkephenedkljoaa
