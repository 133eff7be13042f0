/- What medians of any readings (at most 100) leave if they are taken again and again: the program, which stops where nothing changes, and the document, which takes them a hundred times, return the same, with the same errors. No condition but the statement's own. -/
import Derived.Test.YtpdcpekjafcohaaXWearx13
import Derived.Test.YtpdcpekjafcohaaMed
namespace Go.Proofs.Ytpdcpekjafcohaa.Pure
open Go.RowKit Go.Proofs.Ytpdcpekjafcohaa.XWear Go.Proofs.YtpdcpekjafcohaaW.PrintWords Go.Proofs.YtpdcpekjafcohaaW.PrintLast
open Go.Proofs.Ytpdcpekjafcohaa.Plain

theorem equal_l (a b : List Int) (hab : a.length = b.length) (hl : a.length ≤ 4000000000000000000) : ∀ (d i : Nat), i + d = a.length → a.take i = b.take i →
    Ev (fun k => slices_Equal_int_int.l0 k a b (a.length : Int) (i : Int)) (decide (a = b)) := by
  intro d
  induction d with
  | zero =>
    intro i hi hb
    refine Ev.step (fun k => by rw [slices_Equal_int_int.l0]) ?_
    refine ev_neg (by omega) (ev_const ?_)
    rw [List.take_of_length_le (by omega), List.take_of_length_le (by omega)] at hb
    simp [hb]
  | succ d ih =>
    intro i hi hb
    refine Ev.step (fun k => by rw [slices_Equal_int_int.l0]) ?_
    refine ev_pos (by omega) (ev_pos (by omega) (ev_pos (by omega) (ev_pos (by omega) ?_)))
    rw [rd_eq a i (by omega), rd_eq b i (by omega)]
    by_cases h : a[i]'(by omega) = b[i]'(by omega)
    · refine ev_pos h ?_
      rw [wrap_succ _ (by omega)]
      refine ih (i + 1) (by omega) ?_
      rw [List.take_succ_eq_append_getElem (by omega), List.take_succ_eq_append_getElem (by omega), hb, h]
    · refine ev_neg h (ev_const ?_)
      congr 1
      symm
      rw [decide_eq_false_iff_not]
      rintro rfl
      exact h rfl
theorem equal_ev (a b : List Int) (hl : a.length ≤ 4000000000000000000) : Ev (fun k => slices_Equal_int_int.f k a b) (decide (a = b)) := by
  unfold slices_Equal_int_int.f
  by_cases h : a.length = b.length
  · exact ev_pos (by omega) (equal_l a b h hl a.length 0 (by omega) (by simp))
  · refine ev_neg (by omega) (ev_const ?_)
    congr 1
    symm
    rw [decide_eq_false_iff_not]
    rintro rfl
    exact h rfl

/-- medians taken n times -/
def times (w : Nat) : Nat → List Int → List Int
  | 0, l => l
  | n + 1, l => times w n (med l w)
theorem times_len (w n : Nat) : ∀ l, (times w n l).length = l.length := by
  induction n with
  | zero => intro l; rfl
  | succ n ih => intro l; rw [times, ih, med_len]
theorem times_fix (w n : Nat) (l : List Int) (h : med l w = l) : times w n l = l := by
  induction n with
  | zero => rfl
  | succ n ih => rw [times, h, ih]

theorem rest_l0 (w : Nat) (hw : w ≤ 10) : ∀ (d c : Nat) (l : List Int), c + d = 100 → 1 ≤ l.length → l.length ≤ 40 →
    Ev (fun k => wear_Rest.l0 k (w : Int) l 0 (c : Int)) (times w d l, 0) := by
  intro d
  induction d with
  | zero =>
    intro c l hc h1 h2
    refine Ev.step (fun k => by rw [wear_Rest.l0]) ?_
    refine ev_pos rfl ?_
    refine Ev.step (fun k => by rw [wear_Rest.j1]) ?_
    refine ev_neg (by simp; omega) (Ev.now _)
  | succ d ih =>
    intro c l hc h1 h2
    refine Ev.step (fun k => by rw [wear_Rest.l0]) ?_
    refine ev_pos rfl ?_
    refine Ev.step (fun k => by rw [wear_Rest.j1]) ?_
    refine ev_pos (by simp; omega) ?_
    refine Ev.bind (median_ev l w h1 h2 hw) ?_
    refine Ev.bind (equal_ev (med l w) l (by rw [med_len]; omega)) ?_
    by_cases h : med l w = l
    · refine ev_pos (by simpa using h) ?_
      rw [times_fix w _ l h]
      exact Ev.now _
    · refine ev_neg (by simpa using h) ?_
      rw [wrap_succ _ (by omega)]
      have := ih (c + 1) (med l w) (by omega) (by rw [med_len]; exact h1) (by rw [med_len]; exact h2)
      exact this
theorem rrest_l0 (w : Nat) (hw : w ≤ 10) : ∀ (d c : Nat) (l : List Int), c + d = 100 → 1 ≤ l.length → l.length ≤ 40 →
    Ev (fun k => dropperref07_Rest.l0 k (w : Int) l (c : Int)) (times w d l, 0) := by
  intro d
  induction d with
  | zero =>
    intro c l hc h1 h2
    refine Ev.step (fun k => by rw [dropperref07_Rest.l0]) ?_
    exact ev_neg (by omega) (Ev.now _)
  | succ d ih =>
    intro c l hc h1 h2
    refine Ev.step (fun k => by rw [dropperref07_Rest.l0]) ?_
    refine ev_pos (by omega) ?_
    have hm := rmedian_ev l w h1 h2 hw
    rw [med_eq] at hm
    refine Ev.bind hm ?_
    rw [wrap_succ _ (by omega)]
    exact ih (c + 1) (med l w) (by omega) (by rw [med_len]; exact h1) (by rw [med_len]; exact h2)
def restOf (l : List Int) (w : Int) : List Int × Int := if ok l = true then (if 0 ≤ w ∧ w ≤ 10 then (times w.toNat 100 l, 0) else ([], 2)) else ([], 70)
theorem Rest_ev (l : List Int) (w : Int) : Ev (fun k => wear_Rest.f k l w) (restOf l w) := by
  unfold wear_Rest.f restOf
  refine Ev.bind (Median_ev l w) ?_
  by_cases h : ok l = true
  · have h' := (ok_iff l).1 h
    rw [if_pos h, if_pos h]
    by_cases hw : 0 ≤ w ∧ w ≤ 10
    · rw [if_pos hw, if_pos hw]
      obtain ⟨n, rfl⟩ := Int.eq_ofNat_of_zero_le hw.1
      exact rest_l0 n (by omega) 99 1 (med l n) (by omega) (by rw [med_len]; exact h'.1) (by rw [med_len]; exact h'.2.1)
    · rw [if_neg hw, if_neg hw]
      refine Ev.step (fun k => by rw [wear_Rest.l0]) ?_
      refine ev_neg (by decide) ?_
      refine Ev.step (fun k => by rw [wear_Rest.j1]) ?_
      exact ev_neg (by decide) (Ev.now _)
  · rw [if_neg h, if_neg h]
    refine Ev.step (fun k => by rw [wear_Rest.l0]) ?_
    refine ev_neg (by decide) ?_
    refine Ev.step (fun k => by rw [wear_Rest.j1]) ?_
    exact ev_neg (by decide) (Ev.now _)
theorem RRest_ev (l : List Int) (w : Int) (hl : l.length ≤ 4000000000000000000) : Ev (fun k => dropperref07_Rest.f k l w) (restOf l w) := by
  unfold dropperref07_Rest.f restOf
  refine Ev.bind (asked_ev l w hl) ?_
  by_cases h : ok l = true
  · have h' := (ok_iff l).1 h
    rw [if_pos h, if_pos h]
    by_cases hw : 0 ≤ w ∧ w ≤ 10
    · rw [if_pos hw, if_pos hw]
      refine ev_pos rfl (ev_some (ev_pos (by simp; omega) ?_))
      obtain ⟨n, rfl⟩ := Int.eq_ofNat_of_zero_le hw.1
      exact rrest_l0 n (by omega) 100 0 l (by omega) h'.1 h'.2.1
    · rw [if_neg hw, if_neg hw]
      exact ev_neg (by decide) (Ev.now _)
  · rw [if_neg h, if_neg h]
    exact ev_neg (by decide) (Ev.now _)

theorem WearRests : dropperlaw07_WearRests.Pure := by
  intro l w hm _ _ _
  have hl : l.length ≤ 4000000000000000000 := by unfold maxLen at hm; omega
  refine Ev.rounds (r := true) (g := fun k => dropperlaw07_WearRests.f k l w) ?_
  have hlen : (restOf l w).1.length ≤ 4000000000000000000 := by
    unfold restOf
    split
    · split
      · simp only [times_len]; exact hl
      · exact Nat.zero_le _
    · exact Nat.zero_le _
  have hj : ∀ b, Ev (fun k => dropperlaw07_WearRests.j0 k l w b) true := by
    intro b
    refine Ev.step (fun k => by rw [dropperlaw07_WearRests.j0]) ?_
    cases b with
    | true => exact ev_pos rfl (Ev.bind first_ev (Ev.now _))
    | false =>
      refine ev_neg (by decide) ?_
      refine Ev.bind (Rest_ev l w) (Ev.bind (RRest_ev l w hl) (Ev.bind (same _ _ hlen) ?_))
      exact ev_pos (by simp) (ev_pos rfl (Ev.bind first_ev (Ev.now _)))
  unfold dropperlaw07_WearRests.f dropperlaw07_Long.f
  have hr : Ev (fun k => if w > 2 then (if w ≤ 10 then (dropperlaw07_WearRests.j0 k l w true) else (if (l.length : Int) > 20 then (dropperlaw07_WearRests.j0 k l w (decide ((l.length : Int) ≤ 40))) else (dropperlaw07_WearRests.j0 k l w false))) else (if (l.length : Int) > 20 then (dropperlaw07_WearRests.j0 k l w (decide ((l.length : Int) ≤ 40))) else (dropperlaw07_WearRests.j0 k l w false))) true := by
    by_cases h1 : w > 2
    · refine ev_pos h1 ?_
      by_cases h2 : w ≤ 10
      · exact ev_pos h2 (hj _)
      · refine ev_neg h2 ?_
        by_cases h3 : (l.length : Int) > 20
        · exact ev_pos h3 (hj _)
        · exact ev_neg h3 (hj _)
    · refine ev_neg h1 ?_
      by_cases h3 : (l.length : Int) > 20
      · exact ev_pos h3 (hj _)
      · exact ev_neg h3 (hj _)
  by_cases h : (l.length : Int) > 100
  · rw [if_pos h]
    exact ev_some (ev_pos rfl (hj true))
  · rw [if_neg h]
    exact ev_some (ev_neg (by decide) hr)

end Go.Proofs.Ytpdcpekjafcohaa.Pure
