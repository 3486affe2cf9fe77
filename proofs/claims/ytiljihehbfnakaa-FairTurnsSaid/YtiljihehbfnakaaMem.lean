/- Workers in memory; the map of counts; what a window lacks: plain laws, with no program in sight but its types. -/
import Derived.Test.YtiljihehbfnakaaFlat
import Derived.Maps.OwnSet
import Derived.DeepKeys4
import Derived.Lib.SmallJoins
import Derived.ChangeSame
namespace Go.Proofs.Ytiljihehbfnakaa
open Go.ChangeShapes Go.WideShapes Go.ChangeAt Go.RowKit
open Go.Maps (Keyed)
set_option linter.unusedVariables false

abbrev Wk := Int × Int
def okI (n : Int) : Prop := (Lit.int .i64 n).wf = true
def okW (x : Wk) : Prop := okI x.1 ∧ okI x.2
abbrev wv (x : Wk) : Value := .agg #[.int .i64 x.1, .int .i64 x.2]

/-! ### keys -/
theorem laid : laidOutB Try.prog = true := by kernel_rfl
theorem wide41 : (match Try.prog.underlying 41 with | some (.array _ _) | some (.struct _) => true | _ => false) = true := by kernel_rfl
theorem law41 : Keyed Try.prog 41 := Keyed.of_law (deep_law_laid laid (m := 2) (by omega) (of_decide_eq_true (by kernel_rfl)) (by kernel_rfl) wide41)
theorem keyT41 : Try.prog.keyType 41 = true := by kernel_rfl
theorem cells41 : Try.prog.cellsOf 41 = 2 := by kernel_rfl
theorem cells3 : Try.prog.cellsOf 3 = 1 := by kernel_rfl
theorem typesN : ∃ m, Try.prog.types.size = m + 1 := ⟨Try.prog.types.size - 1, by have : 0 < Try.prog.types.size := of_decide_eq_true (by kernel_rfl); omega⟩
def kl (x : Wk) : Lit := .string (keyBytes [.int .i64 x.1, .int .i64 x.2])
theorem fields41 : ∃ fs, Try.prog.underlying 41 = some (.struct fs) ∧ fs.toList.map (fun f => (f.type, f.offset)) = [(3, 0), (3, 1)] ∧ fs.all (·.name != "_") = true := ⟨_, Try.underlying41, by kernel_rfl, by kernel_rfl⟩
theorem keyOf_wk {x : Wk} (h : okW x) : keyOf Try.prog 41 (wv x) = some (kl x) := by
  obtain ⟨fs, hu, hf, hn⟩ := fields41
  obtain ⟨m, hm⟩ := typesN
  obtain ⟨h1, h2⟩ := h
  unfold okI at h1 h2
  unfold keyOf
  simp only [hu]
  rw [if_pos (by simp [keyT41, Value.formed, hu, cells41]), hm]
  unfold Program.keyLits
  simp only [hu, Value.cells]
  rw [if_pos ⟨by rw [cells41]; rfl, hn⟩]
  obtain ⟨f0, f1, he⟩ : ∃ f0 f1, fs.toList = [f0, f1] := by
    match hl : fs.toList, hf with
    | [f0, f1], _ => exact ⟨f0, f1, rfl⟩
    | [], hf => simp at hf
    | [_], hf => simp at hf
    | _ :: _ :: _ :: _, hf => simp at hf
  rw [he] at hf ⊢
  simp only [List.map_cons, List.map_nil, List.cons.injEq, Prod.mk.injEq, and_true] at hf
  obtain ⟨⟨a1, a2⟩, b1, b2⟩ := hf
  rw [List.mapM_cons, List.mapM_cons, List.mapM_nil, a1, a2, b1, b2]
  simp [cells3, Program.keyLits, Try.underlying3, h1, h2, kl]
theorem kl_inj {x y : Wk} (hx : okW x) (hy : okW y) (h : kl x = kl y) : x = y := by
  have := law41.inj (keyOf_wk hx) (h ▸ keyOf_wk hy)
  simp [wv] at this
  exact Prod.ext this.1 this.2
theorem kl_key {x : Wk} (hx : okW x) : WideAt.IsKeyLit (kl x) := law41.key (keyOf_wk hx)
theorem zero3 (w : World) : (zeroValue 3).run Try.prog w = .ok (.int .i64 0) w := by kernel_rfl

/-! ### the map of counts -/
structure Cnt (D : DataW Unit) (ds : List Wk) (f : Wk → Int) : Prop where
  nodup : ds.Nodup
  ok : ∀ x ∈ ds, okW x
  size : Maps.size D = ds.length
  has : ∀ x, okW x → Maps.has D (kl x) = decide (x ∈ ds)
  at_ : ∀ x ∈ ds, D.atKey (kl x) (.lit (.int .i64 0)) = .lit (.int .i64 (f x))
theorem Cnt.empty (f : Wk → Int) : Cnt (.map []) [] f := ⟨List.nodup_nil, fun x h => absurd h (by simp), rfl, fun x _ => by simp [Maps.has], fun x h => absurd h (by simp)⟩
theorem Cnt.put {D : DataW Unit} {ds : List Wk} {f : Wk → Int} (h : Cnt D ds f) (T : Maps.Tidy D) {x : Wk} (hx : x ∈ ds) (c : Int) : Cnt (D.put (kl x) (.lit (.int .i64 c))) ds (fun y => if y = x then c else f y) := by
  have ox := h.ok x hx
  refine ⟨h.nodup, h.ok, ?_, fun y oy => ?_, fun y hy => ?_⟩
  · rw [Maps.size_put T, h.size, h.has x ox]; simp [hx]
  · by_cases e : y = x
    · subst e; rw [Maps.has_put_same T.isMap (kl_key ox)]; simp [hx]
    · rw [Maps.has_put_other (fun q => e (kl_inj oy ox q))]; exact h.has y oy
  · by_cases e : y = x
    · subst e; rw [Maps.atKey_put_same T.isMap (kl_key ox)]; simp
    · rw [Maps.atKey_put_other (fun q => e (kl_inj (h.ok y hy) ox q)), h.at_ y hy]; simp [e]
theorem Cnt.new {D : DataW Unit} {ds : List Wk} {f : Wk → Int} (h : Cnt D ds f) (T : Maps.Tidy D) {x : Wk} (hx : x ∉ ds) (ox : okW x) (c : Int) : Cnt (D.put (kl x) (.lit (.int .i64 c))) (x :: ds) (fun y => if y = x then c else f y) := by
  refine ⟨List.nodup_cons.2 ⟨hx, h.nodup⟩, fun y hy => ?_, ?_, fun y oy => ?_, fun y hy => ?_⟩
  · rcases List.mem_cons.1 hy with rfl | hy
    · exact ox
    · exact h.ok y hy
  · rw [Maps.size_put T, h.size, h.has x ox]; simp [hx]
  · by_cases e : y = x
    · subst e; rw [Maps.has_put_same T.isMap (kl_key ox)]; simp
    · rw [Maps.has_put_other (fun q => e (kl_inj oy ox q)), h.has y oy]; simp [e]
  · by_cases e : y = x
    · subst e; rw [Maps.atKey_put_same T.isMap (kl_key ox)]; simp
    · have hy' : y ∈ ds := by rcases List.mem_cons.1 hy with h | h; exact absurd h e; exact h
      rw [Maps.atKey_put_other (fun q => e (kl_inj (h.ok y hy') ox q)), h.at_ y hy']; simp [e]
theorem Cnt.congr {D : DataW Unit} {ds : List Wk} {f g : Wk → Int} (h : Cnt D ds f) (e : ∀ x ∈ ds, f x = g x) : Cnt D ds g := ⟨h.nodup, h.ok, h.size, h.has, fun x hx => by rw [h.at_ x hx, e x hx]⟩

/-- block b is a map of the counts f of the workers ds -/
def MapC (w : World) (b : Nat) (ds : List Wk) (f : Wk → Int) : Prop := ∃ D : DataW Unit, w.ownsMap Try.prog 41 (plainElem Try.prog 3) b ds.length D ∧ Cnt D ds f
theorem own_fit {w : World} {b n : Nat} {D : DataW Unit} (h : w.ownsMap Try.prog 41 (plainElem Try.prog 3) b n D) : w.ownsMap Try.prog 41 (plainElem Try.prog 3) b (Maps.size D) D := by
  obtain ⟨es, clock, hb, F, hs, rfl⟩ := h
  exact ⟨es, clock, hb, F, by simp [Maps.size, length_sorted], rfl⟩
theorem MapC.made (w : World) (f : Wk → Int) : MapC (w.alloc (.map #[] 0)) w.heap.size [] f := ⟨_, World.ownsMap_made _ _ _ _, Cnt.empty f⟩
theorem MapC.alloc {w : World} {b : Nat} {ds : List Wk} {f : Wk → Int} (h : MapC w b ds f) (o : Obj) : MapC (w.alloc o) b ds f := by
  obtain ⟨D, h1, h2⟩ := h; exact ⟨D, h1.alloc o, h2⟩
theorem MapC.drew {w : World} {b : Nat} {ds : List Wk} {f : Wk → Int} (h : MapC w b ds f) : MapC w.drew b ds f := h
theorem MapC.lt {w : World} {b : Nat} {ds : List Wk} {f : Wk → Int} (h : MapC w b ds f) : b < w.heap.size := by
  obtain ⟨D, h1, h2⟩ := h; exact h1.lt
theorem MapC.setCell {w : World} {b : Nat} {ds : List Wk} {f : Wk → Int} (h : MapC w b ds f) {a : Addr} (ha : b ≠ a.block) (u : Value) : MapC (w.setCell a u) b ds f := by
  obtain ⟨D, h1, h2⟩ := h; exact ⟨D, h1.setCell ha u, h2⟩
theorem MapC.congr {w : World} {b : Nat} {ds : List Wk} {f g : Wk → Int} (h : MapC w b ds f) (e : ∀ x ∈ ds, f x = g x) : MapC w b ds g := by
  obtain ⟨D, h1, h2⟩ := h; exact ⟨D, h1, h2.congr e⟩

section
variable (w : World) {ops : Array Oper} {rest : List Oper} {o : Oper} {a : Act} {Q : Exit → Act → World → Prop}
/-- a store at a worker that is there -/
theorem wpc_put (hg : o.guard = none) (m x v : Operand) (hop : o.op = Op.mapUpdate 42 m x v) (b : Nat) (ds : List Wk) (f : Wk → Int) (hm : a.eval m = .map (some b)) (hown : MapC w b ds f) (hn : ds.length < maxLen) (y : Wk) (c : Int)
    (hx : a.eval x = wv y) (hv : a.eval v = .int .i64 c) (hy : y ∈ ds) (hc : okI c)
    (hK : ∀ w', MapC w' b ds (fun z => if z = y then c else f z) → w.grownBy w' (some b) → wpList Try.prog ops Q rest (a.put o.dst undef) w') : wpList Try.prog ops Q (o :: rest) a w := by
  obtain ⟨D, h1, h2⟩ := hown
  refine wpList_mapUpdate_own w hg m x v 42 hop 41 3 law41 Try.underlying42 _ b _ D hm h1 hn _ _ _ hx hv (keyOf_wk (h2.ok y hy)) _ [] (plainElem_int Try.underlying3 hc) fun w' o' g => hK w' ?_ g
  have C := h2.put (h1.tidy law41) hy c
  exact ⟨_, by rw [← C.size]; exact own_fit o', C⟩
/-- a store at a worker that is not -/
theorem wpc_new (hg : o.guard = none) (m x v : Operand) (hop : o.op = Op.mapUpdate 42 m x v) (b : Nat) (ds : List Wk) (f : Wk → Int) (hm : a.eval m = .map (some b)) (hown : MapC w b ds f) (hn : ds.length < maxLen) (y : Wk) (c : Int)
    (hx : a.eval x = wv y) (hv : a.eval v = .int .i64 c) (hy : y ∉ ds) (oy : okW y) (hc : okI c)
    (hK : ∀ w', MapC w' b (y :: ds) (fun z => if z = y then c else f z) → w.grownBy w' (some b) → wpList Try.prog ops Q rest (a.put o.dst undef) w') : wpList Try.prog ops Q (o :: rest) a w := by
  obtain ⟨D, h1, h2⟩ := hown
  refine wpList_mapUpdate_own w hg m x v 42 hop 41 3 law41 Try.underlying42 _ b _ D hm h1 hn _ _ _ hx hv (keyOf_wk oy) _ [] (plainElem_int Try.underlying3 hc) fun w' o' g => hK w' ?_ g
  have C := h2.new (h1.tidy law41) hy oy c
  exact ⟨_, by rw [← C.size]; exact own_fit o', C⟩
/-- a look at a worker that is there -/
theorem wpc_in (hg : o.guard = none) (m x : Operand) (hop : o.op = Op.lookup 42 m x true) (b : Nat) (ds : List Wk) (f : Wk → Int) (hm : a.eval m = .map (some b)) (hown : MapC w b ds f) (y : Wk) (hx : a.eval x = wv y) (hy : y ∈ ds)
    (hK : wpList Try.prog ops Q rest (a.put o.dst (.tuple #[.int .i64 (f y), .bool true])) w) : wpList Try.prog ops Q (o :: rest) a w := by
  obtain ⟨D, h1, h2⟩ := hown
  refine wpList_lookup_own_ok_int w hg m x 42 hop 41 3 .i64 law41 Try.underlying42 Try.underlying3 (zero3 w) b _ D hm h1 _ _ hx (keyOf_wk (h2.ok y hy)) fun c hat _ => ?_
  rw [h2.at_ y hy] at hat
  simp at hat
  rw [h2.has y (h2.ok y hy), ← hat]
  simpa [hy] using hK
theorem wpc_out (hg : o.guard = none) (m x : Operand) (hop : o.op = Op.lookup 42 m x true) (b : Nat) (ds : List Wk) (f : Wk → Int) (hm : a.eval m = .map (some b)) (hown : MapC w b ds f) (y : Wk) (hx : a.eval x = wv y) (hy : y ∉ ds) (oy : okW y)
    (hK : wpList Try.prog ops Q rest (a.put o.dst (.tuple #[.int .i64 0, .bool false])) w) : wpList Try.prog ops Q (o :: rest) a w := by
  obtain ⟨D, h1, h2⟩ := hown
  refine wpList_lookup_own_ok_int w hg m x 42 hop 41 3 .i64 law41 Try.underlying42 Try.underlying3 (zero3 w) b _ D hm h1 _ _ hx (keyOf_wk oy) fun c hat _ => ?_
  have hf : Maps.has D (kl y) = false := by rw [h2.has y oy]; simp [hy]
  rw [Maps.atKey_of_not_has hf] at hat
  simp at hat
  rw [hf, ← hat]
  exact hK
theorem wpc_len (hg : o.guard = none) (m : Operand) (hop : o.op = Op.call { callee := Callee.builtin Builtin.len, args := #[m], argTypes := #[42] }) (b : Nat) (ds : List Wk) (f : Wk → Int) (hm : a.eval m = .map (some b)) (hown : MapC w b ds f)
    (hK : wpList Try.prog ops Q rest (a.put o.dst (.int .i64 ds.length)) w) : wpList Try.prog ops Q (o :: rest) a w := by
  obtain ⟨D, h1, h2⟩ := hown
  refine wpList_len_own w hg m 42 hop 41 3 Try.underlying42 _ b _ D hm h1 ?_
  rw [h2.size]; exact hK
end

/-! ### workers in memory -/
def WkAt (w : World) (B : Nat) (A : Option Addr) (n : Nat) (l : List Wk) : Prop :=
  l.length = n ∧ (∀ x ∈ l, okW x) ∧ (0 < n → ∃ b off, A = some ⟨b, off, none⟩ ∧ b < B ∧ ∀ i, i < n → w.cell? ⟨b, off + i * 2, none⟩ = some (.int .i64 (l.getD i (0, 0)).1) ∧ w.cell? ⟨b, off + i * 2 + 1, none⟩ = some (.int .i64 (l.getD i (0, 0)).2))
theorem WkAt.keep {w w' : World} {B B' : Nat} {A : Option Addr} {n : Nat} {l : List Wk} (h : WkAt w B A n l) (hc : ∀ b o, b < B → w'.cell? ⟨b, o, none⟩ = w.cell? ⟨b, o, none⟩) (hB : B ≤ B') : WkAt w' B' A n l := by
  obtain ⟨h1, h2, h3⟩ := h
  refine ⟨h1, h2, fun h0 => ?_⟩
  obtain ⟨b, off, e, hb, hi⟩ := h3 h0
  exact ⟨b, off, e, by omega, fun i hin => ⟨(hc _ _ hb).trans (hi i hin).1, (hc _ _ hb).trans (hi i hin).2⟩⟩
theorem WkAt.below {w w' : World} {B : Nat} {A : Option Addr} {n : Nat} {l : List Wk} (h : WkAt w B A n l) (hb : Below B w w') : WkAt w' B A n l := h.keep (fun b o h => hb.cell (p := ⟨b, o, none⟩) h) (Nat.le_refl _)
theorem WkAt.mono {w : World} {B B' : Nat} {A : Option Addr} {n : Nat} {l : List Wk} (h : WkAt w B A n l) (hB : B ≤ B') : WkAt w B' A n l := h.keep (fun _ _ _ => rfl) hB
/-- a part of a row -/
theorem WkAt.part {w : World} {B b off n : Nat} {l : List Wk} (h : WkAt w B (some ⟨b, off, none⟩) n l) (k m : Nat) (hm : k + m ≤ n) : WkAt w B (some ⟨b, off + k * 2, none⟩) m ((l.drop k).take m) := by
  obtain ⟨h1, h2, h3⟩ := h
  refine ⟨by simp; omega, fun x hx => h2 x (List.mem_of_mem_drop (List.mem_of_mem_take hx)), fun hm0 => ?_⟩
  obtain ⟨b', off', he, hb, hc⟩ := h3 (by omega)
  simp only [Option.some.injEq, Addr.mk.injEq] at he
  obtain ⟨rfl, rfl, -⟩ := he
  refine ⟨b, off + k * 2, rfl, hb, fun i hi => ?_⟩
  have e := hc (k + i) (by omega)
  have hg : ((l.drop k).take m).getD i (0, 0) = l.getD (k + i) (0, 0) := by
    rw [List.getD_eq_getElem?_getD, List.getD_eq_getElem?_getD, List.getElem?_take_of_lt hi, List.getElem?_drop]
  rw [hg, show off + k * 2 + i * 2 = off + (k + i) * 2 from by omega]
  exact e
theorem WkAt.empty {w : World} {B : Nat} {A : Option Addr} : WkAt w B A 0 [] := ⟨rfl, fun x h => absurd h (by simp), fun h => absurd h (by omega)⟩

/-! ### windows -/
def win (ps : List Wk) (i s : Nat) : List Wk := (ps.drop i).take s
def lacks (need l : List Wk) : Bool := need.any fun x => !(decide (x ∈ l))
theorem lacks_false {need l : List Wk} : lacks need l = false ↔ ∀ x ∈ need, x ∈ l := by simp [lacks]
theorem lacks_true {need l : List Wk} : lacks need l = true ↔ ∃ x ∈ need, x ∉ l := by simp [lacks]
def unfF (ps need : List Wk) (s : Nat) : Option Nat := (List.range (ps.length + 1 - s)).find? fun i => lacks need (win ps i s)
def unf (ps need : List Wk) (size : Int) : Nat × Bool :=
  if size < 1 then (0, false) else match unfF ps need size.toNat with
    | some i => (i, true)
    | none => (0, false)
theorem unfF_some {ps need : List Wk} {s i : Nat} : unfF ps need s = some i ↔ i + s < ps.length + 1 ∧ lacks need (win ps i s) = true ∧ ∀ j, j < i → lacks need (win ps j s) = false := by
  unfold unfF
  rw [List.find?_range_eq_some]
  constructor
  · rintro ⟨h1, h2, h3⟩
    exact ⟨by have := List.mem_range.1 h2; omega, h1, fun j hj => by simpa using h3 j hj⟩
  · rintro ⟨h1, h2, h3⟩
    exact ⟨h2, List.mem_range.2 (by omega), fun j hj => by simpa using h3 j hj⟩
theorem unfF_none {ps need : List Wk} {s : Nat} : unfF ps need s = none ↔ ∀ i, i + s < ps.length + 1 → lacks need (win ps i s) = false := by
  unfold unfF
  rw [List.find?_range_eq_none]
  constructor
  · intro h i hi; simpa using h i (by omega)
  · intro h i hi; simpa using h i (by omega)
theorem unf_some {ps need : List Wk} {size : Int} {s i : Nat} (hs : size = s) (h1 : 1 ≤ s) (h2 : i + s ≤ ps.length) (h3 : lacks need (win ps i s) = true) (h4 : ∀ j, j < i → lacks need (win ps j s) = false) : unf ps need size = (i, true) := by
  subst hs
  have : unfF ps need s = some i := unfF_some.2 ⟨by omega, h3, h4⟩
  unfold unf
  rw [if_neg (by omega), Int.toNat_natCast, this]
theorem unf_none {ps need : List Wk} {size : Int} {s : Nat} (hs : size = s) (h1 : 1 ≤ s) (h4 : ∀ j, j + s ≤ ps.length → lacks need (win ps j s) = false) : unf ps need size = (0, false) := by
  subst hs
  have : unfF ps need s = none := unfF_none.2 (fun i hi => h4 i (by omega))
  unfold unf
  rw [if_neg (by omega), Int.toNat_natCast, this]
/-- either of the two -/
theorem unf_cases (ps need : List Wk) {s : Nat} (h1 : 1 ≤ s) : (∃ i, unf ps need s = (i, true) ∧ i + s ≤ ps.length ∧ lacks need (win ps i s) = true ∧ ∀ j, j < i → lacks need (win ps j s) = false) ∨ (unf ps need s = (0, false) ∧ ∀ j, j + s ≤ ps.length → lacks need (win ps j s) = false) := by
  cases h : unfF ps need s with
  | some i =>
    obtain ⟨a, b, c⟩ := unfF_some.1 h
    exact .inl ⟨i, unf_some rfl h1 (by omega) b c, by omega, b, c⟩
  | none => exact .inr ⟨unf_none rfl h1 (fun j hj => unfF_none.1 h j (by omega)), fun j hj => unfF_none.1 h j (by omega)⟩

/-- the number of workers that are missing in a window -/
def miss (ds l : List Wk) : Nat := ds.countP fun x => decide (x ∉ l)
theorem miss_nil (ds : List Wk) : miss ds [] = ds.length := by simp [miss]
theorem miss_pos {ds l : List Wk} : 0 < miss ds l ↔ lacks ds l = true := by
  simp [miss, List.countP_pos_iff, lacks_true]
theorem miss_congr {ds l m : List Wk} (h : ∀ x ∈ ds, x ∈ l ↔ x ∈ m) : miss ds l = miss ds m := by
  unfold miss
  exact List.countP_congr fun x hx => by simp [h x hx]
theorem miss_less : ∀ {ds l m : List Wk} {y : Wk}, ds.Nodup → y ∈ ds → y ∉ l → y ∈ m → (∀ x ∈ ds, x ≠ y → (x ∈ l ↔ x ∈ m)) → miss ds l = miss ds m + 1
  | [], _, _, _, _, h, _, _, _ => absurd h (by simp)
  | d :: ds, l, m, y, hn, hy, hl, hm, hx => by
    obtain ⟨n1, n2⟩ := List.nodup_cons.1 hn
    by_cases e : d = y
    · subst e
      have := miss_congr (ds := ds) (l := l) (m := m) (fun x h => hx x (by simp [h]) (fun q => n1 (q ▸ h)))
      unfold miss at *
      rw [List.countP_cons, List.countP_cons, this]; simp [hl, hm]
    · have hy' : y ∈ ds := by rcases List.mem_cons.1 hy with h | h; exact absurd h.symm e; exact h
      have := miss_less (ds := ds) n2 hy' hl hm (fun x h => hx x (by simp [h]))
      have hd := hx d (by simp) e
      unfold miss at *
      rw [List.countP_cons, List.countP_cons, this]
      simp only [hd]
      omega
theorem lacks_congr {ds need l : List Wk} (h : ∀ x, x ∈ ds ↔ x ∈ need) : lacks ds l = lacks need l := by
  rw [Bool.eq_iff_iff, lacks_true, lacks_true]
  exact ⟨fun ⟨x, a, b⟩ => ⟨x, (h x).1 a, b⟩, fun ⟨x, a, b⟩ => ⟨x, (h x).2 a, b⟩⟩
end Go.Proofs.Ytiljihehbfnakaa
