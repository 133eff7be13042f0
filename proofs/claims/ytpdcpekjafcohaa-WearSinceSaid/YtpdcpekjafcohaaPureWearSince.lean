/- By how much totals (at most 100) grow, and when readings (at most 100) come to a limit: program and document return the same, with the same errors. No condition but the statement's own. -/
import Derived.Test.YtpdcpekjafcohaaXWearx31
import Derived.Test.YtpdcpekjafcohaaDueR
namespace Go.Proofs.Ytpdcpekjafcohaa.Pure
set_option linter.unusedVariables false
set_option linter.unusedSimpArgs false
open Go.RowKit Go.Proofs.Ytpdcpekjafcohaa.XWear Go.Proofs.YtpdcpekjafcohaaW.PrintWords Go.Proofs.YtpdcpekjafcohaaW.PrintLast
open Go.Proofs.Ytpdcpekjafcohaa.Plain

/-- by how much a total is more than the one in front of it -/
def dif (t : List Int) (k : Nat) : Int := if k = 0 then rd t (0 : Int) else wrap64 (rd t (k : Int) - rd t ((k - 1 : Nat) : Int))
def difs (t : List Int) (n : Nat) : List Int := (List.range n).map (dif t)
theorem difs_succ (t : List Int) (n : Nat) : difs t (n + 1) = difs t n ++ [dif t n] := by simp [difs, List.range_succ]
theorem difs_len (t : List Int) (n : Nat) : (difs t n).length = n := by simp [difs]
def fits (t : List Int) : Prop := ∀ x ∈ t, 0 ≤ x ∧ x ≤ 1000000000
def sinceOf (t : List Int) (b : Bool) : List Int × Int := if b = true then (difs t 60, 0) else ([], 2)
theorem since_l0 (t : List Int) (h : t.length = 60) : ∀ (d i : Nat), i + d = 59 →
    Ev (fun k => wear_Since.l0 k t (difs t (i + 1) ++ t.drop (i + 1)) 59 (i : Int)) (difs t 60, 0) := by
  intro d
  induction d with
  | zero =>
    intro i hi
    obtain rfl : i = 59 := by omega
    refine Ev.step (fun k => by rw [wear_Since.l0]) (ev_neg (by omega) (ev_const ?_))
    rw [show t.drop (59 + 1) = [] from List.drop_eq_nil_of_le (by omega), List.append_nil]
  | succ d ih =>
    intro i hi
    have hlen : (difs t (i + 1) ++ t.drop (i + 1)).length = 60 := by rw [List.length_append, difs_len, List.length_drop]; omega
    refine Ev.step (fun k => by rw [wear_Since.l0]) ?_
    rw [wrap_succ _ (by omega)]
    refine ev_pos (by omega) (ev_pos (by omega) (ev_pos (by omega) (ev_pos (by omega) (ev_pos (by omega) ?_))))
    have hlt : i + 1 < t.length := by omega
    have hd : t.drop (i + 1) = t[i + 1] :: t.drop (i + 2) := List.drop_eq_getElem_cons hlt
    have e1 : rd (difs t (i + 1) ++ t.drop (i + 1)) ((i + 1 : Nat) : Int) = rd t ((i + 1 : Nat) : Int) := by
      rw [rd_eq _ _ (by omega), rd_eq _ _ hlt, List.getElem_append_right (by rw [difs_len]; omega), List.getElem_drop]
      congr 1
      rw [difs_len]; omega
    rw [e1, Int.toNat_natCast]
    have e2 : (difs t (i + 1) ++ t.drop (i + 1)).set (i + 1) (wrap64 (rd t ((i + 1 : Nat) : Int) - rd t (i : Int))) = difs t (i + 1 + 1) ++ t.drop (i + 1 + 1) := by
      rw [List.set_append_right _ _ (by rw [difs_len]; omega), difs_len, Nat.sub_self, hd, List.set_cons_zero, difs_succ t (i + 1), List.append_assoc]
      rfl
    rw [e2]
    exact ih (i + 1) (by omega)
theorem bad_iff (x : Int) : slices_ContainsFunc_int_int.bad x = true ↔ ¬ (0 ≤ x ∧ x ≤ 1000000000) := by
  unfold slices_ContainsFunc_int_int.bad
  simp only [Bool.not_eq_true', Bool.and_eq_false_iff, decide_eq_false_iff_not]
  omega
instance (t : List Int) : Decidable (fits t) := inferInstanceAs (Decidable (∀ x ∈ t, 0 ≤ x ∧ x ≤ 1000000000))
theorem Since_ev (t : List Int) : Ev (fun k => wear_Since.f k t) (sinceOf t (decide (t.length = 60 ∧ fits t))) := by
  have no : ∀ b, b = false → Ev (fun k => wear_Since.j0 k t true) (sinceOf t b) := by
    rintro b rfl
    refine Ev.step (fun k => by rw [wear_Since.j0]) ?_
    exact ev_pos rfl (Ev.now _)
  unfold wear_Since.f
  by_cases h : t.length = 60
  · refine ev_pos (by omega) ?_
    rw [show slices_ContainsFunc_int_int.f t 64 = some (t.any slices_ContainsFunc_int_int.bad) from rfl]
    refine ev_some ?_
    by_cases hf : fits t
    · have : t.any slices_ContainsFunc_int_int.bad = false := by
        rw [List.any_eq_false]
        intro x hx
        rw [bad_iff]
        exact fun hn => hn (hf x hx)
      rw [this, decide_eq_true ⟨h, hf⟩]
      refine Ev.step (fun k => by rw [wear_Since.j0]) (ev_neg (by simp) ?_)
      have e : slices_Clone_int_int.f t = some t := by
        unfold slices_Clone_int_int.f
        rw [if_pos (by omega)]
      rw [e]
      refine ev_some (ev_pos (by omega) ?_)
      have := since_l0 t h 59 0 (by omega)
      have e2 : difs t (0 + 1) ++ t.drop (0 + 1) = t := by
        have hd : t = t[0] :: t.drop 1 := by rw [← List.drop_eq_getElem_cons (show 0 < t.length by omega)]; rfl
        have : difs t (0 + 1) = [rd t ((0 : Nat) : Int)] := rfl
        rw [this, rd_eq t 0 (by omega)]
        exact hd.symm
      rw [e2] at this
      rw [List.length_drop, h]
      exact this
    · have : t.any slices_ContainsFunc_int_int.bad = true := by
        rw [List.any_eq_true]
        unfold fits at hf
        simp only [Classical.not_forall] at hf
        obtain ⟨x, hx, hb⟩ := hf
        exact ⟨x, hx, (bad_iff x).2 hb⟩
      rw [this]
      exact no _ (decide_eq_false (fun h => hf h.2))
  · exact ev_neg (by omega) (no _ (decide_eq_false (fun h2 => h h2.1)))
theorem rsince_l0 (t : List Int) (h : t.length = 60) : ∀ (d i : Nat), i + d = 60 → (∀ j (h : j < t.length), j < i → 0 ≤ t[j] ∧ t[j] ≤ 1000000000) →
    Ev (fun k => dropperref07_Since.l0 k t (difs t i) (i : Int)) (sinceOf t (decide (fits t))) := by
  intro d
  induction d with
  | zero =>
    intro i hi hb
    obtain rfl : i = 60 := by omega
    refine Ev.step (fun k => by rw [dropperref07_Since.l0]) (ev_neg (by omega) (ev_const ?_))
    have : fits t := by
      intro x hx
      obtain ⟨j, hj, rfl⟩ := List.mem_iff_getElem.1 hx
      exact hb j hj (by omega)
    rw [decide_eq_true this]; rfl
  | succ d ih =>
    intro i hi hb
    have hlt : i < t.length := by omega
    have hr := rd_eq t i hlt
    have no : ¬ (0 ≤ t[i] ∧ t[i] ≤ 1000000000) → Ev (fun k => dropperref07_Since.j1 k t (difs t i) (i : Int) true) (sinceOf t (decide (fits t))) := by
      intro hn
      rw [decide_eq_false (fun hf : fits t => hn (hf _ (List.getElem_mem hlt)))]
      refine Ev.step (fun k => by rw [dropperref07_Since.j1]) ?_
      exact ev_pos rfl (Ev.now _)
    refine Ev.step (fun k => by rw [dropperref07_Since.l0]) (ev_pos (by omega) (ev_pos (by omega) ?_))
    by_cases h0 : rd t (i : Int) < 0
    · exact ev_pos h0 (no (by omega))
    refine ev_neg h0 ?_
    by_cases h1 : rd t (i : Int) > 1000000000
    · rw [decide_eq_true h1]; exact no (by omega)
    rw [decide_eq_false h1]
    have next : Ev (fun k => dropperref07_Since.l0 k t (difs t (i + 1)) ((i + 1 : Nat) : Int)) (sinceOf t (decide (fits t))) := by
      refine ih (i + 1) (by omega) (fun j hj hji => ?_)
      by_cases h : j < i
      · exact hb j hj h
      · obtain rfl : j = i := by omega
        omega
    rw [difs_succ] at next
    refine Ev.step (fun k => by rw [dropperref07_Since.j1]) (ev_neg (by simp) ?_)
    rw [wrap_succ _ (by omega)]
    by_cases hi0 : i = 0
    · subst hi0
      exact ev_pos rfl (ev_pos (by omega) (ev_pos (by omega) (ev_pos (by rw [difs_len]; omega) next)))
    · have e : wrap64 ((i : Int) - 1) = ((i - 1 : Nat) : Int) := by rw [wrap_id] <;> omega
      rw [e]
      refine ev_neg (by omega) (ev_pos (by omega) (ev_pos (by omega) (ev_pos (by omega) (ev_pos (by omega) (ev_pos (by rw [difs_len]; omega) ?_)))))
      unfold dif at next
      rw [if_neg hi0] at next
      exact next
theorem RSince_ev (t : List Int) : Ev (fun k => dropperref07_Since.f k t) (sinceOf t (decide (t.length = 60 ∧ fits t))) := by
  unfold dropperref07_Since.f
  by_cases h : t.length = 60
  · refine ev_pos (by omega) ?_
    have e : (decide (t.length = 60 ∧ fits t)) = decide (fits t) := by simp [h]
    rw [e]
    exact rsince_l0 t h 60 0 (by omega) (fun j h hj => by omega)
  · rw [decide_eq_false (fun h2 => h h2.1)]
    exact ev_neg (by omega) (Ev.now _)
theorem WearSince : dropperlaw07_WearSince.Pure := by
  intro t r a hm _ _ hmr _ _ _
  refine Ev.rounds (r := true) (g := fun k => dropperlaw07_WearSince.f k t r a) ?_
  unfold dropperlaw07_WearSince.f dropperlaw07_Long.f
  have yes : Ev (fun k => dropperlaw07_WearSince.j0 k t r a true) true := by
    refine Ev.step (fun k => by rw [dropperlaw07_WearSince.j0]) ?_
    exact ev_pos rfl (Ev.bind first_ev (Ev.now _))
  by_cases h : (t.length : Int) > 100
  · exact ev_pos h yes
  refine ev_neg h ?_
  by_cases h2 : (r.length : Int) > 100
  · rw [if_pos h2]
    exact ev_some yes
  rw [if_neg h2]
  refine ev_some (Ev.step (fun k => by rw [dropperlaw07_WearSince.j0]) (ev_neg (by decide) ?_))
  refine Ev.bind (Since_ev t) (Ev.bind (RSince_ev t) ?_)
  have hsame : Ev (fun k => dropperlaw07_SameInts.f k (sinceOf t (decide (t.length = 60 ∧ fits t))).1 (sinceOf t (decide (t.length = 60 ∧ fits t))).1) true := by
    have := same (sinceOf t (decide (t.length = 60 ∧ fits t))).1 (sinceOf t (decide (t.length = 60 ∧ fits t))).1 (by
      unfold sinceOf
      split
      · rw [difs_len]; omega
      · simp)
    rwa [decide_eq_true rfl] at this
  by_cases hk : ok r = true
  · obtain ⟨L, hL⟩ := row r hk
    refine Ev.bind (Due_ok r hk L hL a) (Ev.bind (RDue_ok r hk L hL a) (Ev.bind hsame ?_))
    exact ev_pos rfl (ev_pos rfl (ev_pos rfl (ev_pos rfl (Ev.bind first_ev (Ev.now _)))))
  · refine Ev.bind (Due_no r hk a) (Ev.bind (RDue_no r hk (by omega) a) (Ev.bind hsame ?_))
    exact ev_pos rfl (ev_pos rfl (ev_pos rfl (ev_pos rfl (Ev.bind first_ev (Ev.now _)))))

end Go.Proofs.Ytpdcpekjafcohaa.Pure
