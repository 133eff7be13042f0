import Derived.Test.YtpdcpekjafcohaaXWearx6
import Derived.Test.YtpdcpekjafcohaaXWearx7
import Derived.Test.YtpdcpekjafcohaaPav
namespace Go.Proofs.Ytpdcpekjafcohaa.Plain
set_option linter.unusedVariables false
set_option linter.unusedSimpArgs false
open Go.RowKit Go.Proofs.Ytpdcpekjafcohaa.XWear Go.Proofs.YtpdcpekjafcohaaW.PrintWords Go.Proofs.YtpdcpekjafcohaaW.PrintLast Go.Proofs.YtpdcpekjafcohaaW.PrintMore

/-- a row of blocks whose means grow -/
structure Row (r : List Int) (L : List Blk) : Prop where
  ch : Chain r 0 L r.length
  pw : L.Pairwise (Lt r)
  ev : Ev (fun k => wear_blocks.f k r) (L.map (toS r))
theorem row (r : List Int) (h : ok r = true) : ∃ L, Row r L := by
  have h' := (ok_iff r).1 h
  obtain ⟨L, a, b, c⟩ := blocks_ev r h'.2.1 h'.2.2
  exact ⟨L, a, b, c⟩
theorem Nearest_ok (r : List Int) (h : ok r = true) (L : List Blk) (hL : Row r L) : Ev (fun k => wear_Nearest.f k r) (nearL r L, 0) := by
  have h' := (ok_iff r).1 h
  unfold wear_Nearest.f
  rw [valid_f]
  refine ev_some (ev_pos h ?_)
  exact Ev.bind (nearest_of r h'.2.1 h'.2.2 L hL.ch hL.ev) (Ev.now _)
theorem Nearest_no (r : List Int) (h : ¬ ok r = true) : Ev (fun k => wear_Nearest.f k r) ([], 70) := by
  unfold wear_Nearest.f
  rw [valid_f]
  exact ev_some (ev_neg h (Ev.now _))
/-! ### SameRatios at one and the same row -/
theorem sameR_l0 (a : List S35) (hl : a.length ≤ 4000000000000000000) : ∀ (d i : Nat), i + d = a.length → Ev (fun k => dropperlaw07_SameRatios.l0 k a a (i : Int)) true := by
  intro d
  induction d with
  | zero =>
    intro i hi
    refine Ev.step (fun k => by rw [dropperlaw07_SameRatios.l0]) ?_
    exact ev_neg (by omega) (Ev.now _)
  | succ d ih =>
    intro i hi
    refine Ev.step (fun k => by rw [dropperlaw07_SameRatios.l0]) ?_
    refine ev_pos (by omega) (ev_pos (by omega) (ev_pos (by omega) (ev_neg (by simp) ?_)))
    rw [wrap_succ _ (by omega)]
    exact ih (i + 1) (by omega)
theorem sameR (a : List S35) (hl : a.length ≤ 4000000000000000000) : Ev (fun k => dropperlaw07_SameRatios.f k a a) true := by
  unfold dropperlaw07_SameRatios.f
  exact ev_pos rfl (sameR_l0 a hl a.length 0 (by omega))

end Go.Proofs.Ytpdcpekjafcohaa.Plain
