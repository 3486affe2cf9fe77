/- Step as one law, of the program and of the document; the law's awake. -/
import Derived.Test.YtpikchnmpdpljaaSteps
namespace Go.Proofs.Ytpikchnmpdpljaa
open Go.ChangeShapes Go.WideShapes Go.ChangeAt Go.RowKit
set_option linter.unusedVariables false

def nIs (S R : Int) (wa an : Bool) (la tr : Int) (wt : Bool) (now : Int) : Bool := wt && !(an && decide (now - la < gapV S R (t0 wa tr)))
def nLa (S R : Int) (wa an : Bool) (la tr : Int) (wt : Bool) (now : Int) : Int := if nIs S R wa an la tr wt now then now else la
def nTr (S R : Int) (wa an : Bool) (la tr : Int) (wt : Bool) (now : Int) : Int := if wt then (if nIs S R wa an la tr wt now then t0 wa tr + 1 else t0 wa tr) else 0
def nAn (S R : Int) (wa an : Bool) (la tr : Int) (wt : Bool) (now : Int) : Bool := an || nIs S R wa an la tr wt now

/-- numbers as they may be -/
structure Fit (S R la tr now : Int) : Prop where
  h0 : 1 ≤ S
  h1 : S ≤ R
  h2 : R ≤ 1000
  la0 : 0 ≤ la
  la1 : la ≤ 1000000
  n0 : 0 ≤ now
  n1 : now ≤ 1000000
  tr0 : 0 ≤ tr
  tr1 : tr ≤ 1000000

theorem step_any (S R : Int) (wa an : Bool) (la tr : Int) (wt : Bool) (now : Int) (w : World) (F : Fit S R la tr now) :
    Calls Try.prog 11 #[ruV S R, stV wa an la tr, .bool wt, .int .i64 now] w fun e w' => e = .returned (.tuple #[stV wt (nAn S R wa an la tr wt now) (nLa S R wa an la tr wt now) (nTr S R wa an la tr wt now), .bool (nIs S R wa an la tr wt now)]) ∧ Below w.heap.size w w' := by
  obtain ⟨h0, h1, h2, l0, l1, n0, n1, q0, q1⟩ := F
  cases wt
  · have e1 : nIs S R wa an la tr false now = false := by simp [nIs]
    have e2 : nAn S R wa an la tr false now = an := by simp [nAn, e1]
    have e3 : nLa S R wa an la tr false now = la := by simp [nLa, e1]
    have e4 : nTr S R wa an la tr false now = 0 := by simp [nTr]
    rw [e1, e2, e3, e4]
    cases wa
    · exact step_off_f S R an la tr now w h0 h1 h2 l0 l1 n0 n1 q0 q1
    · exact step_off_t S R an la tr now w h0 h1 h2 l0 l1 n0 n1 q0 q1
  · cases an
    · have e1 : nIs S R wa false la tr true now = true := by simp [nIs]
      have e2 : nAn S R wa false la tr true now = true := by simp [nAn, e1]
      have e3 : nLa S R wa false la tr true now = now := by simp [nLa, e1]
      have e4 : nTr S R wa false la tr true now = t0 wa tr + 1 := by simp [nTr, e1]
      rw [e1, e2, e3, e4]
      cases wa
      · exact step_first_f S R false la tr now w h0 h1 h2 l0 l1 n0 n1 q0 q1
      · exact step_first_t S R false la tr now w h0 h1 h2 l0 l1 n0 n1 q0 q1
    · by_cases hg : now - la < gapV S R (t0 wa tr)
      · have e1 : nIs S R wa true la tr true now = false := by simp [nIs, hg]
        have e2 : nAn S R wa true la tr true now = true := by simp [nAn]
        have e3 : nLa S R wa true la tr true now = la := by simp [nLa, e1]
        have e4 : nTr S R wa true la tr true now = t0 wa tr := by simp [nTr, e1]
        rw [e1, e2, e3, e4]
        cases wa
        · exact step_wait_f S R true la tr now w h0 h1 h2 l0 l1 n0 n1 q0 q1 hg
        · exact step_wait_t S R true la tr now w h0 h1 h2 l0 l1 n0 n1 q0 q1 hg
      · have e1 : nIs S R wa true la tr true now = true := by simp [nIs]; omega
        have e2 : nAn S R wa true la tr true now = true := by simp [nAn]
        have e3 : nLa S R wa true la tr true now = now := by simp [nLa, e1]
        have e4 : nTr S R wa true la tr true now = t0 wa tr + 1 := by simp [nTr, e1]
        rw [e1, e2, e3, e4]
        cases wa
        · exact step_again_f S R true la tr now w h0 h1 h2 l0 l1 n0 n1 q0 q1 (Int.not_lt.1 hg)
        · exact step_again_t S R true la tr now w h0 h1 h2 l0 l1 n0 n1 q0 q1 (Int.not_lt.1 hg)

theorem rstep_any (S R : Int) (wa an : Bool) (la tr : Int) (wt : Bool) (now : Int) (w : World) (F : Fit S R la tr now) :
    Calls Try.prog 12 #[ruV S R, stV wa an la tr, .bool wt, .int .i64 now] w fun e w' => e = .returned (.tuple #[stV wt (nAn S R wa an la tr wt now) (nLa S R wa an la tr wt now) (nTr S R wa an la tr wt now), .bool (nIs S R wa an la tr wt now)]) ∧ Below w.heap.size w w' := by
  obtain ⟨h0, h1, h2, l0, l1, n0, n1, q0, q1⟩ := F
  cases wt
  · have e1 : nIs S R wa an la tr false now = false := by simp [nIs]
    have e2 : nAn S R wa an la tr false now = an := by simp [nAn, e1]
    have e3 : nLa S R wa an la tr false now = la := by simp [nLa, e1]
    have e4 : nTr S R wa an la tr false now = 0 := by simp [nTr]
    rw [e1, e2, e3, e4]
    cases wa
    · exact rstep_off_f S R an la tr now w h0 h1 h2 l0 l1 n0 n1 q0 q1
    · exact rstep_off_t S R an la tr now w h0 h1 h2 l0 l1 n0 n1 q0 q1
  · cases an
    · have e1 : nIs S R wa false la tr true now = true := by simp [nIs]
      have e2 : nAn S R wa false la tr true now = true := by simp [nAn, e1]
      have e3 : nLa S R wa false la tr true now = now := by simp [nLa, e1]
      have e4 : nTr S R wa false la tr true now = t0 wa tr + 1 := by simp [nTr, e1]
      rw [e1, e2, e3, e4]
      cases wa
      · exact rstep_first_f S R false la tr now w h0 h1 h2 l0 l1 n0 n1 q0 q1
      · exact rstep_first_t S R false la tr now w h0 h1 h2 l0 l1 n0 n1 q0 q1
    · by_cases hg : now - la < gapV S R (t0 wa tr)
      · have e1 : nIs S R wa true la tr true now = false := by simp [nIs, hg]
        have e2 : nAn S R wa true la tr true now = true := by simp [nAn]
        have e3 : nLa S R wa true la tr true now = la := by simp [nLa, e1]
        have e4 : nTr S R wa true la tr true now = t0 wa tr := by simp [nTr, e1]
        rw [e1, e2, e3, e4]
        cases wa
        · exact rstep_wait_f S R true la tr now w h0 h1 h2 l0 l1 n0 n1 q0 q1 hg
        · exact rstep_wait_t S R true la tr now w h0 h1 h2 l0 l1 n0 n1 q0 q1 hg
      · have e1 : nIs S R wa true la tr true now = true := by simp [nIs]; omega
        have e2 : nAn S R wa true la tr true now = true := by simp [nAn]
        have e3 : nLa S R wa true la tr true now = now := by simp [nLa, e1]
        have e4 : nTr S R wa true la tr true now = t0 wa tr + 1 := by simp [nTr, e1]
        rw [e1, e2, e3, e4]
        cases wa
        · exact rstep_again_f S R true la tr now w h0 h1 h2 l0 l1 n0 n1 q0 q1 (Int.not_lt.1 hg)
        · exact rstep_again_t S R true la tr now w h0 h1 h2 l0 l1 n0 n1 q0 q1 (Int.not_lt.1 hg)

/-- the world behind so many times, of awake's own rule -/
structure Sim where
  wa : Bool
  an : Bool
  la : Int
  tr : Int
  at_ : List Int
def sim : Nat → Sim
  | 0 => ⟨false, false, 0, 0, []⟩
  | k + 1 =>
    let s := sim k
    ⟨true, nAn 2 7 s.wa s.an s.la s.tr true k, nLa 2 7 s.wa s.an s.la s.tr true k, nTr 2 7 s.wa s.an s.la s.tr true k, if nIs 2 7 s.wa s.an s.la s.tr true k then s.at_ ++ [(k : Int)] else s.at_⟩
theorem Try.info2 : (Try.prog.info? 2).map (fun i => (i.zero, i.size, i.bytes)) = some (some (.int .i64 0), 1, 8) := by kernel_rfl
theorem sim_fit : ∀ k, k ≤ 21 → 0 ≤ (sim k).la ∧ (sim k).la ≤ k ∧ 0 ≤ (sim k).tr ∧ (sim k).tr ≤ k ∧ (sim k).at_.length ≤ k
  | 0, _ => by simp [sim]
  | k + 1, h => by
    have := sim_fit k (by omega)
    simp only [sim, nLa, nTr, t0]
    generalize sim k = s at *
    obtain ⟨wa, an, la, tr, l⟩ := s
    simp only at *
    cases nIs 2 7 wa an la tr true k <;> cases wa <;> simp <;> omega
theorem sim_end : (sim 21).wa = true ∧ (sim 21).an = true ∧ (sim 21).la = 20 ∧ (sim 21).tr = 5 ∧ (sim 21).at_ = [0, 2, 6, 13, 20] := by decide +kernel
end Go.Proofs.Ytpikchnmpdpljaa
