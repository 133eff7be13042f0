/- Which readings (at most 100) are as described, the nearest row, and where its blocks begin: the program (blocks that become one where the means do not grow) and the document (the greatest of the least means) return the same, with the same errors. No condition but the statement's own. -/
import Derived.Test.YtpdcpekjafcohaaXWearx12
import Derived.Test.YtpdcpekjafcohaaNear
namespace Go.Proofs.Ytpdcpekjafcohaa.Pure
set_option linter.unusedVariables false
set_option linter.unusedSimpArgs false
open Go.RowKit Go.Proofs.Ytpdcpekjafcohaa.XWear Go.Proofs.YtpdcpekjafcohaaW.PrintWords Go.Proofs.YtpdcpekjafcohaaW.PrintLast
open Go.Proofs.Ytpdcpekjafcohaa.Plain

theorem WearNearest : dropperlaw07_WearNearest.Pure := by
  intro r hm _ _
  have hl : r.length ≤ 4000000000000000000 := by unfold maxLen at hm; omega
  refine Ev.rounds (r := true) (g := fun k => dropperlaw07_WearNearest.f k r) ?_
  unfold dropperlaw07_WearNearest.f dropperlaw07_Long.f
  by_cases h : (r.length : Int) > 100
  · rw [if_pos h]
    exact ev_some (ev_pos rfl (Ev.bind first_ev (Ev.now _)))
  · rw [if_neg h]
    refine ev_some (ev_neg (by decide) ?_)
    rw [valid_f]
    by_cases hk : ok r = true
    · obtain ⟨L, hL⟩ := row r hk
      have h' := (ok_iff r).1 hk
      have n1 := nearL_len r L 0 _ hL.ch
      have n2 := chain_le r L 0 _ hL.ch
      refine Ev.bind (Nearest_ok r hk L hL) (Ev.bind (RNearest_ok r hk L hL) (Ev.bind (Blocks_ok r hk L hL) (Ev.bind (RBlocks_ok r hk L hL) (ev_some (Ev.bind (refValid r hl) ?_)))))
      refine ev_pos (by simp) (Ev.bind (sameR _ (by simp only; omega)) (ev_pos rfl (ev_pos rfl ?_)))
      refine Ev.bind (same _ _ (by simp only [begins, List.length_map]; omega)) ?_
      exact ev_pos (by simp) (ev_pos rfl (Ev.bind first_ev (Ev.now _)))
    · refine Ev.bind (Nearest_no r hk) (Ev.bind (RNearest_no r hk hl) (Ev.bind (Blocks_no r hk) (Ev.bind (RBlocks_no r hk hl) (ev_some (Ev.bind (refValid r hl) ?_)))))
      refine ev_pos (by simp) (Ev.bind (sameR [] (by decide)) (ev_pos rfl (ev_pos rfl ?_)))
      refine Ev.bind (same [] [] (by decide)) ?_
      exact ev_pos (by simp) (ev_pos rfl (Ev.bind first_ev (Ev.now _)))

end Go.Proofs.Ytpdcpekjafcohaa.Pure
