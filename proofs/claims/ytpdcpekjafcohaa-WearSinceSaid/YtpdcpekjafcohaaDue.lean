import Derived.Test.YtpdcpekjafcohaaXWearx27
import Derived.Test.YtpdcpekjafcohaaNear
namespace Go.Proofs.Ytpdcpekjafcohaa.Plain
set_option linter.unusedVariables false
set_option linter.unusedSimpArgs false
open Go.RowKit Go.Proofs.Ytpdcpekjafcohaa.XWear Go.Proofs.YtpdcpekjafcohaaW.PrintWords Go.Proofs.YtpdcpekjafcohaaW.PrintLast Go.Proofs.YtpdcpekjafcohaaW.PrintMore

/-- where a row comes to a limit -/
def dueAt (l : List S35) (a : Int) : Int := wear_Due.idxFrom (wear_Due.due a) l
def dueOf (l : List S35) (a : Int) : Int × Int := if 0 ≤ a ∧ a ≤ 10000 then (if dueAt l a < 0 then (0, 5) else (dueAt l a, 0)) else (0, 2)
theorem Due_ok (r : List Int) (h : ok r = true) (L : List Blk) (hL : Row r L) (a : Int) : Ev (fun k => wear_Due.f k r a) (dueOf (nearL r L) a) := by
  have h' := (ok_iff r).1 h
  unfold wear_Due.f
  rw [valid_f]
  refine ev_some (ev_pos h ?_)
  rw [within_f]
  unfold dueOf
  by_cases ha : 0 ≤ a ∧ a ≤ 10000
  · refine ev_some (ev_pos (by simpa using ha) (Ev.bind (nearest_of r h'.2.1 h'.2.2 L hL.ch hL.ev) ?_))
    rw [if_pos ha]
    by_cases hi : dueAt (nearL r L) a < 0
    · exact ev_pos hi (by rw [if_pos hi]; exact Ev.now _)
    · exact ev_neg hi (by rw [if_neg hi]; exact Ev.now _)
  · rw [if_neg ha]
    exact ev_some (ev_neg (by simpa using ha) (Ev.now _))
theorem Due_no (r : List Int) (h : ¬ ok r = true) (a : Int) : Ev (fun k => wear_Due.f k r a) (0, 70) := by
  unfold wear_Due.f
  rw [valid_f]
  exact ev_some (ev_neg h (Ev.now _))

end Go.Proofs.Ytpdcpekjafcohaa.Plain
