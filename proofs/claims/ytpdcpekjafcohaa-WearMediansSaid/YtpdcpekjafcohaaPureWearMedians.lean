/- The medians of any readings (at most 100), as the program returns them, are the document's, with the same errors, and the chapter's examples hold. No condition but the statement's own. -/
import Derived.Test.YtpdcpekjafcohaaXWearx7
import Derived.Test.YtpdcpekjafcohaaMed
namespace Go.Proofs.Ytpdcpekjafcohaa.Pure
open Go.RowKit Go.Proofs.Ytpdcpekjafcohaa.XWear Go.Proofs.YtpdcpekjafcohaaW.PrintWords Go.Proofs.YtpdcpekjafcohaaW.PrintLast
open Go.Proofs.Ytpdcpekjafcohaa.Plain

theorem WearMedians : dropperlaw07_WearMedians.Pure := by
  intro l w hm _ _ _
  have hl : l.length ≤ 4000000000000000000 := by unfold maxLen at hm; omega
  refine Ev.rounds (r := true) (g := fun k => dropperlaw07_WearMedians.f k l w) ?_
  unfold dropperlaw07_WearMedians.f dropperlaw07_Long.f
  by_cases h : (l.length : Int) > 100
  · rw [if_pos h]
    exact ev_some (ev_pos rfl (Ev.bind first_ev (Ev.now _)))
  · rw [if_neg h]
    refine ev_some (ev_neg (by decide) ?_)
    refine Ev.bind (Median_ev l w) (Ev.bind (RMedian_ev l w hl) ?_)
    have hs : ∀ (p : List Int × Int), p.1.length ≤ 4000000000000000000 → Ev (fun k => (dropperlaw07_SameInts.f k p.1 p.1).bind fun t => if t = true then (if p.2 = p.2 then ((dropperlaw07_First.f k).bind fun t => (some t)) else (some false)) else (some false)) true := by
      intro p hp
      refine Ev.bind (same p.1 p.1 hp) ?_
      exact ev_pos (by simp) (ev_pos rfl (Ev.bind first_ev (Ev.now _)))
    refine hs _ ?_
    split
    · split
      · simp only [med_len]; exact hl
      · exact Nat.zero_le _
    · exact Nat.zero_le _

end Go.Proofs.Ytpdcpekjafcohaa.Pure
