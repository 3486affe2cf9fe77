/- The reference's Step: four ways. -/
import Derived.Test.YtkephenedkljoaaWalks
namespace Go.Proofs.Ytkephenedkljoaa
open Go.ChangeShapes Go.WideShapes Go.ChangeAt Go.RowKit
set_option linter.unusedVariables false

theorem ref_ff (src seq stamp last shift : Int) (m : Bool) (t q st sr : Int) (w : World) (h0 : 0 ≤ stamp) (h1 : stamp ≤ 4294967295) (h2 : 0 ≤ last) (h3 : last ≤ 4294967295) (h4 : 0 ≤ shift) (h5 : shift ≤ 4294967295) (h6 : 0 ≤ st) (h7 : st ≤ 4294967295) :
    Calls Try.prog 8 #[stV src seq stamp false last shift, hdV m t q st sr, .bool false] w fun e w' =>
      e = .returned (.tuple #[stV src (IntKind.u16.wrap (seq + 1)) stamp true (stamp) ((stamp - st) % 4294967296), hdV m t seq (stamp) src]) ∧ Below w.heap.size w w' := by
  have e0 : 0 = 0 := rfl
  go_enter Try.func8, Try.ntmps8
  go_wp2
  go_region_held3 (fun W => W.cell? ⟨w.heap.size, 0, none⟩ = some (.int .u32 src) ∧ W.cell? ⟨w.heap.size, 1, none⟩ = some (.int .u16 seq) ∧ W.cell? ⟨w.heap.size + 1, 0, none⟩ = some (.bool m) ∧ W.cell? ⟨w.heap.size + 1, 1, none⟩ = some (.int .u8 t) ∧ W.cell? ⟨w.heap.size + 1 + 1 + 1 + 1, 0, none⟩ = some (.int .u32 src) ∧ W.cell? ⟨w.heap.size + 1 + 1 + 1 + 1, 1, none⟩ = some (.int .u16 (IntKind.u16.wrap (seq + 1))) ∧ W.cell? ⟨w.heap.size + 1 + 1 + 1 + 1, 2, none⟩ = some (.int .u32 stamp) ∧ W.cell? ⟨w.heap.size + 1 + 1 + 1 + 1, 3, none⟩ = some (.bool true) ∧ W.cell? ⟨w.heap.size + 1 + 1 + 1 + 1, 4, none⟩ = some (.int .u32 (stamp)) ∧ W.cell? ⟨w.heap.size + 1 + 1 + 1 + 1, 5, none⟩ = some (.int .u32 ((stamp - st) % 4294967296))) (simp [go_sem]) (first | fail)
  go_wp2
  refine bodyPost_ret (v := .tuple #[stV src (IntKind.u16.wrap (seq + 1)) stamp true (stamp) ((stamp - st) % 4294967296), hdV m t seq (stamp) src]) (by simp [results, Try.results8, go_sem]) rfl ⟨rfl, ?_⟩
  repeat (first | exact Below.refl _ _ | refine Below.drew ?_ | refine Below.alloc ?_ (by simp; try omega) _ | refine Below.setCell ?_ (by simp; try omega) _)

theorem ref_ft (src seq stamp last shift : Int) (m : Bool) (t q st sr : Int) (w : World) (h0 : 0 ≤ stamp) (h1 : stamp ≤ 4294967295) (h2 : 0 ≤ last) (h3 : last ≤ 4294967295) (h4 : 0 ≤ shift) (h5 : shift ≤ 4294967295) (h6 : 0 ≤ st) (h7 : st ≤ 4294967295) :
    Calls Try.prog 8 #[stV src seq stamp false last shift, hdV m t q st sr, .bool true] w fun e w' =>
      e = .returned (.tuple #[stV src (IntKind.u16.wrap (seq + 1)) stamp true (stamp) ((stamp - st) % 4294967296), hdV m t seq (stamp) src]) ∧ Below w.heap.size w w' := by
  have e0 : 0 = 0 := rfl
  go_enter Try.func8, Try.ntmps8
  go_wp2
  go_region_held3 (fun W => W.cell? ⟨w.heap.size, 0, none⟩ = some (.int .u32 src) ∧ W.cell? ⟨w.heap.size, 1, none⟩ = some (.int .u16 seq) ∧ W.cell? ⟨w.heap.size + 1, 0, none⟩ = some (.bool m) ∧ W.cell? ⟨w.heap.size + 1, 1, none⟩ = some (.int .u8 t) ∧ W.cell? ⟨w.heap.size + 1 + 1 + 1 + 1, 0, none⟩ = some (.int .u32 src) ∧ W.cell? ⟨w.heap.size + 1 + 1 + 1 + 1, 1, none⟩ = some (.int .u16 (IntKind.u16.wrap (seq + 1))) ∧ W.cell? ⟨w.heap.size + 1 + 1 + 1 + 1, 2, none⟩ = some (.int .u32 stamp) ∧ W.cell? ⟨w.heap.size + 1 + 1 + 1 + 1, 3, none⟩ = some (.bool true) ∧ W.cell? ⟨w.heap.size + 1 + 1 + 1 + 1, 4, none⟩ = some (.int .u32 (stamp)) ∧ W.cell? ⟨w.heap.size + 1 + 1 + 1 + 1, 5, none⟩ = some (.int .u32 ((stamp - st) % 4294967296))) (simp [go_sem]) (first | fail)
  go_wp2
  refine bodyPost_ret (v := .tuple #[stV src (IntKind.u16.wrap (seq + 1)) stamp true (stamp) ((stamp - st) % 4294967296), hdV m t seq (stamp) src]) (by simp [results, Try.results8, go_sem]) rfl ⟨rfl, ?_⟩
  repeat (first | exact Below.refl _ _ | refine Below.drew ?_ | refine Below.alloc ?_ (by simp; try omega) _ | refine Below.setCell ?_ (by simp; try omega) _)

theorem ref_tt (src seq stamp last shift : Int) (m : Bool) (t q st sr : Int) (w : World) (h0 : 0 ≤ stamp) (h1 : stamp ≤ 4294967295) (h2 : 0 ≤ last) (h3 : last ≤ 4294967295) (h4 : 0 ≤ shift) (h5 : shift ≤ 4294967295) (h6 : 0 ≤ st) (h7 : st ≤ 4294967295) :
    Calls Try.prog 8 #[stV src seq stamp true last shift, hdV m t q st sr, .bool true] w fun e w' =>
      e = .returned (.tuple #[stV src (IntKind.u16.wrap (seq + 1)) stamp true ((last + 3000) % 4294967296) ((last + 3000 - st) % 4294967296), hdV m t seq ((last + 3000) % 4294967296) src]) ∧ Below w.heap.size w w' := by
  have e0 : 0 = 0 := rfl
  go_enter Try.func8, Try.ntmps8
  go_wp2
  go_region_held3 (fun W => W.cell? ⟨w.heap.size, 0, none⟩ = some (.int .u32 src) ∧ W.cell? ⟨w.heap.size, 1, none⟩ = some (.int .u16 seq) ∧ W.cell? ⟨w.heap.size + 1, 0, none⟩ = some (.bool m) ∧ W.cell? ⟨w.heap.size + 1, 1, none⟩ = some (.int .u8 t) ∧ W.cell? ⟨w.heap.size + 1 + 1 + 1 + 1, 0, none⟩ = some (.int .u32 src) ∧ W.cell? ⟨w.heap.size + 1 + 1 + 1 + 1, 1, none⟩ = some (.int .u16 (IntKind.u16.wrap (seq + 1))) ∧ W.cell? ⟨w.heap.size + 1 + 1 + 1 + 1, 2, none⟩ = some (.int .u32 stamp) ∧ W.cell? ⟨w.heap.size + 1 + 1 + 1 + 1, 3, none⟩ = some (.bool true) ∧ W.cell? ⟨w.heap.size + 1 + 1 + 1 + 1, 4, none⟩ = some (.int .u32 ((last + 3000) % 4294967296)) ∧ W.cell? ⟨w.heap.size + 1 + 1 + 1 + 1, 5, none⟩ = some (.int .u32 ((last + 3000 - st) % 4294967296))) (simp [go_sem]) (first | fail)
  go_wp2
  refine bodyPost_ret (v := .tuple #[stV src (IntKind.u16.wrap (seq + 1)) stamp true ((last + 3000) % 4294967296) ((last + 3000 - st) % 4294967296), hdV m t seq ((last + 3000) % 4294967296) src]) (by simp [results, Try.results8, go_sem]) rfl ⟨rfl, ?_⟩
  repeat (first | exact Below.refl _ _ | refine Below.drew ?_ | refine Below.alloc ?_ (by simp; try omega) _ | refine Below.setCell ?_ (by simp; try omega) _)

theorem ref_tf (src seq stamp last shift : Int) (m : Bool) (t q st sr : Int) (w : World) (h0 : 0 ≤ stamp) (h1 : stamp ≤ 4294967295) (h2 : 0 ≤ last) (h3 : last ≤ 4294967295) (h4 : 0 ≤ shift) (h5 : shift ≤ 4294967295) (h6 : 0 ≤ st) (h7 : st ≤ 4294967295) :
    Calls Try.prog 8 #[stV src seq stamp true last shift, hdV m t q st sr, .bool false] w fun e w' =>
      e = .returned (.tuple #[stV src (IntKind.u16.wrap (seq + 1)) stamp true ((st + shift) % 4294967296) (shift), hdV m t seq ((st + shift) % 4294967296) src]) ∧ Below w.heap.size w w' := by
  have e0 : (st + shift - st) % 4294967296 = shift := by omega
  go_enter Try.func8, Try.ntmps8
  go_wp2
  go_region_held3 (fun W => W.cell? ⟨w.heap.size, 0, none⟩ = some (.int .u32 src) ∧ W.cell? ⟨w.heap.size, 1, none⟩ = some (.int .u16 seq) ∧ W.cell? ⟨w.heap.size + 1, 0, none⟩ = some (.bool m) ∧ W.cell? ⟨w.heap.size + 1, 1, none⟩ = some (.int .u8 t) ∧ W.cell? ⟨w.heap.size + 1 + 1 + 1 + 1, 0, none⟩ = some (.int .u32 src) ∧ W.cell? ⟨w.heap.size + 1 + 1 + 1 + 1, 1, none⟩ = some (.int .u16 (IntKind.u16.wrap (seq + 1))) ∧ W.cell? ⟨w.heap.size + 1 + 1 + 1 + 1, 2, none⟩ = some (.int .u32 stamp) ∧ W.cell? ⟨w.heap.size + 1 + 1 + 1 + 1, 3, none⟩ = some (.bool true) ∧ W.cell? ⟨w.heap.size + 1 + 1 + 1 + 1, 4, none⟩ = some (.int .u32 ((st + shift) % 4294967296)) ∧ W.cell? ⟨w.heap.size + 1 + 1 + 1 + 1, 5, none⟩ = some (.int .u32 (shift))) (simp [go_sem]) (first | fail)
  go_wp2
  refine bodyPost_ret (v := .tuple #[stV src (IntKind.u16.wrap (seq + 1)) stamp true ((st + shift) % 4294967296) (shift), hdV m t seq ((st + shift) % 4294967296) src]) (by simp [results, Try.results8, go_sem]) rfl ⟨rfl, ?_⟩
  repeat (first | exact Below.refl _ _ | refine Below.drew ?_ | refine Below.alloc ?_ (by simp; try omega) _ | refine Below.setCell ?_ (by simp; try omega) _)

end Go.Proofs.Ytkephenedkljoaa
