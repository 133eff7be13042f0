import Derived.Test.YtpdcpekjafcohaaXWearx30
import Derived.Test.YtpdcpekjafcohaaDue
import Derived.Test.YtpdcpekjafcohaaNearR
namespace Go.Proofs.Ytpdcpekjafcohaa.Plain
set_option linter.unusedVariables false
set_option linter.unusedSimpArgs false
open Go.RowKit Go.Proofs.Ytpdcpekjafcohaa.XWear Go.Proofs.YtpdcpekjafcohaaW.PrintWords Go.Proofs.YtpdcpekjafcohaaW.PrintLast Go.Proofs.YtpdcpekjafcohaaW.PrintMore

theorem rdue_l0 (l : List S35) (hl : l.length ≤ 40) (a : Int) : ∀ (d i : Nat), i + d = l.length → (∀ j (h : j < l.length), j < i → wear_Due.due a l[j] = false) →
    Ev (fun k => dropperref07_Due.l0 k a l (i : Int)) (if dueAt l a < 0 then (0, 5) else (dueAt l a, 0)) := by
  intro d
  induction d with
  | zero =>
    intro i hi hb
    obtain rfl : i = l.length := by omega
    refine Ev.step (fun k => by rw [dropperref07_Due.l0]) ?_
    refine ev_neg (by omega) ?_
    have e : dueAt l a = -1 := wear_Due.idxFrom_none hb
    rw [e, if_pos (by omega)]
    exact Ev.now _
  | succ d ih =>
    intro i hi hb
    have hlt : i < l.length := by omega
    refine Ev.step (fun k => by rw [dropperref07_Due.l0]) ?_
    rw [rd_S35 l i hlt]
    refine ev_pos (by omega) (ev_pos (by omega) ?_)
    by_cases hp : wear_Due.due a l[i] = true
    · have e : dueAt l a = i := wear_Due.idxFrom_at hlt hp (fun j h hj => hb j h hj)
      rw [e, if_neg (by omega)]
      exact ev_pos (by simpa [wear_Due.due] using hp) (Ev.now _)
    · refine ev_neg (by simpa [wear_Due.due] using hp) ?_
      rw [wrap_succ _ (by omega)]
      refine ih (i + 1) (by omega) (fun j h hj => ?_)
      by_cases hji : j < i
      · exact hb j h hji
      · obtain rfl : j = i := by omega
        simpa using hp
theorem RDue_ok (r : List Int) (h : ok r = true) (L : List Blk) (hL : Row r L) (a : Int) : Ev (fun k => dropperref07_Due.f k r a) (dueOf (nearL r L) a) := by
  have h' := (ok_iff r).1 h
  have n1 := nearL_len r L 0 _ hL.ch
  unfold dropperref07_Due.f
  refine Ev.bind (RNearest_ok r h L hL) (ev_pos rfl ?_)
  unfold dueOf
  have j0t : ∀ x, Ev (fun k => dropperref07_Due.j0 k a (nearL r L) x true) (0, 2) := fun x =>
    Ev.step (fun k => by rw [dropperref07_Due.j0]) (ev_pos rfl (Ev.step (fun k => by rw [dropperref07_Due.j1]) (ev_neg (by omega) (Ev.now _))))
  by_cases h0 : a < 0
  · refine ev_pos h0 ?_
    rw [if_neg (by omega)]
    exact j0t _
  · refine ev_neg h0 ?_
    by_cases h1 : a > 10000
    · rw [decide_eq_true h1, if_neg (by omega)]
      exact j0t _
    · rw [decide_eq_false h1, if_pos (by omega)]
      refine Ev.step (fun k => by rw [dropperref07_Due.j0]) (ev_neg (by simp) (Ev.step (fun k => by rw [dropperref07_Due.j1]) (ev_pos rfl ?_)))
      have := rdue_l0 (nearL r L) (by omega) a (nearL r L).length 0 (by omega) (fun j h hj => by omega)
      exact this
theorem RDue_no (r : List Int) (h : ¬ ok r = true) (hl : r.length ≤ 4000000000000000000) (a : Int) : Ev (fun k => dropperref07_Due.f k r a) (0, 70) := by
  unfold dropperref07_Due.f
  refine Ev.bind (RNearest_no r h hl) (ev_neg (by decide) ?_)
  exact Ev.step (fun k => by rw [dropperref07_Due.j0]) (ev_neg (by simp) (Ev.step (fun k => by rw [dropperref07_Due.j1]) (ev_neg (by decide) (Ev.now _))))

end Go.Proofs.Ytpdcpekjafcohaa.Plain
