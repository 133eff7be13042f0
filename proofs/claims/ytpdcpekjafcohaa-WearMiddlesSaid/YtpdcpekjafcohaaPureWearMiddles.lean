/- For valid readings: medians lie from the least to the greatest reading, those with the width 0 are the readings, readings that never fall or never rise stay as they are, and the other way round they are the other way round. No condition but the statement's own. -/
import Derived.Test.YtpdcpekjafcohaaXWearx10
import Derived.Test.YtpdcpekjafcohaaMed
namespace Go.Proofs.Ytpdcpekjafcohaa.Pure
open Go.RowKit Go.Proofs.Ytpdcpekjafcohaa.XWear Go.Proofs.YtpdcpekjafcohaaW.PrintWords Go.Proofs.YtpdcpekjafcohaaW.PrintLast Go.Proofs.YtpdcpekjafcohaaW.PrintMore
open Go.Proofs.Ytpdcpekjafcohaa.Plain

/-- the middle one of a row of 2 w + 1 -/
def M (l : List Int) (w : Nat) : Int := rd (srt l) (w : Int)
theorem M_of {l : List Int} {w : Nat} (hl : l.length = 2 * w + 1) {x : Int} (h : isMid l x = true) : M l w = x := by
  have := (isMid_iff l x (by omega)).1 h
  have hw : l.length / 2 = w := by omega
  unfold M
  rw [rd_eq _ _ (by rw [srt_len]; omega)]
  simp only [hw] at this
  exact this
theorem M_mid {l : List Int} {w : Nat} (hl : l.length = 2 * w + 1) : isMid l (M l w) = true := by
  rw [isMid_iff l _ (by omega)]
  have hw : l.length / 2 = w := by omega
  unfold M
  rw [rd_eq _ _ (by rw [srt_len]; omega)]
  simp only [hw]
theorem isMid_perm {a b : List Int} (h : a.Perm b) (x : Int) : isMid a x = isMid b x := by
  have e1 : cntLt a x = cntLt b x := h.countP_eq _
  have e2 : cntEq a x = cntEq b x := h.countP_eq _
  unfold isMid
  rw [e1, e2, h.length_eq]
theorem M_perm {a b : List Int} {w : Nat} (hl : a.length = 2 * w + 1) (h : a.Perm b) : M a w = M b w :=
  M_of hl (by rw [isMid_perm h]; exact M_mid (by rw [← h.length_eq]; exact hl))
theorem M_mem {l : List Int} {w : Nat} (hl : l.length = 2 * w + 1) : M l w ∈ l := by
  unfold M
  rw [rd_eq _ _ (by rw [srt_len]; omega)]
  exact (srt_perm l).mem_iff.1 (List.getElem_mem _)

/-! ### the place that a window looks at -/
def at_ (n : Nat) (z : Int) : Nat := (mn (mx z 0) ((n : Int) - 1)).toNat
theorem at_lt {n : Nat} (h : 1 ≤ n) (z : Int) : at_ n z < n := by
  unfold at_ mn mx
  (repeat split) <;> omega
theorem cl_at (l : List Int) (h1 : 1 ≤ l.length) (h2 : l.length ≤ 40) (z : Int) : cl l z = l[at_ l.length z]'(at_lt h1 z) := by
  have e : wrap64 ((l.length : Int) - 1) = (l.length : Int) - 1 := wrap_id (by omega) (by omega)
  have h3 := at_lt h1 z
  unfold cl
  rw [e]
  have e2 : mn (mx z 0) ((l.length : Int) - 1) = ((at_ l.length z : Nat) : Int) := by
    unfold at_ mn mx
    (repeat split) <;> omega
  rw [e2, rd_eq l _ h3]
theorem at_mono {n : Nat} {z z' : Int} (h1 : 1 ≤ n) (h : z ≤ z') : at_ n z ≤ at_ n z' := by
  unfold at_ mn mx
  (repeat split) <;> omega
theorem at_id {n i : Nat} (h : i < n) : at_ n (i : Int) = i := by
  unfold at_ mn mx
  (repeat split) <;> omega
theorem at_back {n : Nat} (h : 1 ≤ n) (z : Int) : at_ n ((n : Int) - 1 - z) = n - 1 - at_ n z := by
  unfold at_ mn mx
  (repeat split) <;> omega

theorem win_get (l : List Int) (w i j : Nat) (h : j < 2 * w + 1) : (win l w i)[j]'(by rw [win_len]; exact h) = cl l ((i : Int) - (w : Int) + (j : Nat)) := by
  simp [win, winFrom]
theorem back_win (l : List Int) (h1 : 1 ≤ l.length) (h2 : l.length ≤ 40) (w i : Nat) (hi : i < l.length) : win l.reverse w i = (win l w (l.length - 1 - i)).reverse := by
  apply List.ext_getElem (by simp [win_len])
  intro j hj _
  rw [win_len] at hj
  rw [win_get _ _ _ _ hj, List.getElem_reverse, win_get _ _ _ _ (by rw [win_len]; omega)]
  rw [cl_at _ (by simpa using h1) (by simpa using h2), cl_at l h1 h2, List.getElem_reverse]
  congr 1
  have e : (((l.length - 1 - i : Nat) : Int) - (w : Int) + (((win l w (l.length - 1 - i)).length - 1 - j : Nat) : Nat)) = (l.length : Int) - 1 - ((i : Int) - (w : Int) + (j : Nat)) := by
    rw [win_len]; omega
  rw [e, at_back h1, List.length_reverse]
theorem med_get (l : List Int) (w i : Nat) (h : i < l.length) : (med l w)[i]'(by rw [med_len]; exact h) = M (win l w i) w := by simp [med, M]
theorem med_back (l : List Int) (h1 : 1 ≤ l.length) (h2 : l.length ≤ 40) (w : Nat) : med l.reverse w = (med l w).reverse := by
  apply List.ext_getElem (by simp [med_len])
  intro i hi _
  rw [med_len, List.length_reverse] at hi
  rw [med_get _ _ _ (by simpa using hi), List.getElem_reverse, med_get _ _ _ (by rw [med_len]; omega)]
  rw [back_win l h1 h2 w i hi, med_len]
  exact M_perm (by rw [List.length_reverse, win_len]) (List.reverse_perm _)
theorem med_mem (l : List Int) (h1 : 1 ≤ l.length) (h2 : l.length ≤ 40) (w : Nat) : ∀ x ∈ med l w, x ∈ l := by
  intro x hx
  obtain ⟨i, hi, rfl⟩ := List.mem_iff_getElem.1 hx
  rw [med_len] at hi
  rw [med_get l w i hi]
  have := M_mem (win_len l w i)
  obtain ⟨j, hj, e⟩ := List.mem_iff_getElem.1 this
  rw [win_len] at hj
  rw [← e, win_get _ _ _ _ hj]
  exact cl_mem _ h1 h2

/-- of a row of 2 w + 1, those up to the middle not more than x, those from it on not less: x is in the middle -/
theorem mid_of (s : List Int) (w : Nat) (hl : s.length = 2 * w + 1) (x : Int) (ha : ∀ j (h : j < s.length), j ≤ w → s[j] ≤ x) (hb : ∀ j (h : j < s.length), w ≤ j → x ≤ s[j]) : M s w = x := by
  apply M_of hl
  have hsplit : s = s.take w ++ s.drop w := (List.take_append_drop w s).symm
  have hsplit2 : s = s.take (w + 1) ++ s.drop (w + 1) := (List.take_append_drop (w + 1) s).symm
  have c1 : cntLt s x ≤ w := by
    unfold cntLt
    rw [hsplit, List.countP_append]
    have z : (s.drop w).countP (fun y => decide (y < x)) = 0 := by
      rw [List.countP_eq_zero]
      intro y hy
      obtain ⟨j, hj, rfl⟩ := List.mem_iff_getElem.1 hy
      rw [List.length_drop] at hj
      rw [List.getElem_drop]
      have := hb (w + j) (by omega) (by omega)
      simp; omega
    rw [z]
    have := List.countP_le_length (p := fun y : Int => decide (y < x)) (l := s.take w)
    rw [List.length_take] at this
    omega
  have c2 : w + 1 ≤ cntLt s x + cntEq s x := by
    rw [← count_le_split, hsplit2, List.countP_append]
    have z : (s.take (w + 1)).countP (fun y => decide (y ≤ x)) = (s.take (w + 1)).length := by
      rw [List.countP_eq_length]
      intro y hy
      obtain ⟨j, hj, rfl⟩ := List.mem_iff_getElem.1 hy
      rw [List.length_take] at hj
      rw [List.getElem_take]
      have := ha j (by omega) (by omega)
      simp; omega
    rw [z, List.length_take]
    omega
  have hw : s.length / 2 = w := by omega
  simp only [isMid, hw, Bool.and_eq_true, decide_eq_true_eq]
  omega
def Asc (l : List Int) : Prop := ∀ i j (_hi : i < l.length) (_hj : j < l.length), i ≤ j → l[i] ≤ l[j]
theorem med_asc (l : List Int) (h1 : 1 ≤ l.length) (h2 : l.length ≤ 40) (w : Nat) (hs : Asc l ∨ w = 0) : med l w = l := by
  apply List.ext_getElem (by rw [med_len])
  intro i hi hi'
  rw [med_get l w i hi']
  have hidx : ∀ j : Nat, (j ≤ w → at_ l.length ((i : Int) - (w : Int) + (j : Nat)) ≤ i) ∧ (w ≤ j → i ≤ at_ l.length ((i : Int) - (w : Int) + (j : Nat))) := by
    intro j
    have e := at_id hi'
    constructor
    · intro h
      have := at_mono (n := l.length) h1 (show (i : Int) - (w : Int) + (j : Nat) ≤ (i : Int) by omega)
      rw [e] at this; exact this
    · intro h
      have := at_mono (n := l.length) h1 (show (i : Int) ≤ (i : Int) - (w : Int) + (j : Nat) by omega)
      rw [e] at this; exact this
  refine mid_of _ w (win_len l w i) _ (fun j hj hjw => ?_) (fun j hj hjw => ?_)
  · rw [win_len] at hj
    rw [win_get _ _ _ _ hj, cl_at l h1 h2]
    rcases hs with hs | rfl
    · exact hs _ _ (at_lt h1 _) hi' ((hidx j).1 hjw)
    · obtain rfl : j = 0 := by omega
      have e : (i : Int) - ((0 : Nat) : Int) + ((0 : Nat) : Int) = (i : Int) := by omega
      simp only [e, at_id hi']
      exact Int.le_refl _
  · rw [win_len] at hj
    rw [win_get _ _ _ _ hj, cl_at l h1 h2]
    rcases hs with hs | rfl
    · exact hs _ _ hi' (at_lt h1 _) ((hidx j).2 hjw)
    · obtain rfl : j = 0 := by omega
      have e : (i : Int) - ((0 : Nat) : Int) + ((0 : Nat) : Int) = (i : Int) := by omega
      simp only [e, at_id hi']
      exact Int.le_refl _
theorem med_desc (l : List Int) (h1 : 1 ≤ l.length) (h2 : l.length ≤ 40) (w : Nat) (hs : Asc l.reverse) : med l w = l := by
  have := med_asc l.reverse (by simpa using h1) (by simpa using h2) w (.inl hs)
  rw [med_back l h1 h2 w] at this
  have e := congrArg List.reverse this
  rwa [List.reverse_reverse, List.reverse_reverse] at e

/-! ### the law's own functions -/
theorem back_l0 (l : List Int) (hl : l.length ≤ 1000) : ∀ (i : Nat), i ≤ l.length → Ev (fun k => dropperlaw07_back.l0 k l (l.drop i).reverse ((i : Int) - 1)) l.reverse := by
  intro i
  induction i with
  | zero =>
    intro _
    refine Ev.step (fun k => by rw [dropperlaw07_back.l0]) ?_
    refine ev_neg (by omega) (ev_const ?_)
    rw [List.drop_zero]
  | succ i ih =>
    intro hi
    refine Ev.step (fun k => by rw [dropperlaw07_back.l0]) ?_
    have e1 : ((i + 1 : Nat) : Int) - 1 = (i : Int) := by omega
    have e2 : wrap64 ((i : Int) - 1) = (i : Int) - 1 := wrap_id (by omega) (by omega)
    rw [e1, e2]
    refine ev_pos (by omega) (ev_pos (by omega) (ev_pos (by omega) (ev_pos (by simp; omega) ?_)))
    rw [rd_eq l i (by omega)]
    have e3 : (l.drop (i + 1)).reverse ++ [l[i]'(by omega)] = (l.drop i).reverse := by
      rw [List.drop_eq_getElem_cons (show i < l.length by omega), List.reverse_cons]
    rw [e3]
    exact ih (by omega)
theorem back_ev (l : List Int) (hl : l.length ≤ 1000) : Ev (fun k => dropperlaw07_back.f k l) l.reverse := by
  unfold dropperlaw07_back.f
  have e2 : wrap64 ((l.length : Int) - 1) = (l.length : Int) - 1 := wrap_id (by omega) (by omega)
  rw [e2]
  have := back_l0 l hl l.length (Nat.le_refl _)
  rw [List.drop_length] at this
  exact this
/-- never falls, if taken so many times -/
def Grows (l : List Int) (s : Int) : Prop := ∀ i (h : i + 1 < l.length), s * l[i] ≤ s * l[i + 1]
theorem sorted_l0 (l : List Int) (h2 : l.length ≤ 40) (hv : ∀ x ∈ l, 0 ≤ x ∧ x ≤ 10000) (s : Int) (hs : s = 1 ∨ s = -1) : ∀ (d i : Nat), 1 ≤ i → (i + d = l.length ∨ l.length < i ∧ d = 0) → (∀ j (h : j + 1 < l.length), j + 1 < i → s * l[j] ≤ s * l[j + 1]) →
    ∃ b, Ev (fun k => dropperlaw07_sorted.l0 k l s (i : Int)) b ∧ (b = true → Grows l s) := by
  intro d
  induction d with
  | zero =>
    intro i h1 hi hb
    refine ⟨true, ?_, fun _ j h => hb j h (by omega)⟩
    refine Ev.step (fun k => by rw [dropperlaw07_sorted.l0]) ?_
    exact ev_neg (by omega) (Ev.now _)
  | succ d ih =>
    intro i h1 hi hb
    have hlt : i < l.length := by omega
    obtain ⟨m, rfl⟩ : ∃ m, i = m + 1 := ⟨i - 1, by omega⟩
    have e1 : wrap64 (((m + 1 : Nat) : Int) - 1) = (m : Int) := by rw [wrap_id] <;> omega
    have r1 := rd_eq l (m + 1) hlt
    have r2 := rd_eq l m (by omega)
    have b1 := hv l[m + 1] (List.getElem_mem _)
    have b2 := hv (l[m]'(by omega)) (List.getElem_mem _)
    have w1 : wrap64 (s * l[m + 1]) = s * l[m + 1] := by rcases hs with rfl | rfl <;> (rw [wrap_id] <;> omega)
    have w2 : wrap64 (s * l[m]'(by omega)) = s * l[m]'(by omega) := by rcases hs with rfl | rfl <;> (rw [wrap_id] <;> omega)
    by_cases hc : s * l[m + 1] < s * l[m]'(by omega)
    · refine ⟨false, ?_, fun h => by cases h⟩
      refine Ev.step (fun k => by rw [dropperlaw07_sorted.l0]) ?_
      rw [e1, r1, r2, w1, w2]
      exact ev_pos (by omega) (ev_pos (by omega) (ev_pos (by omega) (ev_pos (by omega) (ev_pos hc (Ev.now _)))))
    · obtain ⟨b, he, hg⟩ := ih (m + 1 + 1) (by omega) (by omega) (fun j h hj => by
        by_cases hjm : j = m
        · subst hjm; omega
        · exact hb j h (by omega))
      refine ⟨b, ?_, hg⟩
      refine Ev.step (fun k => by rw [dropperlaw07_sorted.l0]) ?_
      rw [e1, r1, r2, w1, w2]
      refine ev_pos (by omega) (ev_pos (by omega) (ev_pos (by omega) (ev_pos (by omega) (ev_neg hc ?_))))
      rw [wrap_succ _ (by omega)]
      exact he
theorem sorted_ev (l : List Int) (h1 : 1 ≤ l.length) (h2 : l.length ≤ 40) (hv : ∀ x ∈ l, 0 ≤ x ∧ x ≤ 10000) (s : Int) (hs : s = 1 ∨ s = -1) : ∃ b, Ev (fun k => dropperlaw07_sorted.f k l s) b ∧ (b = true → Grows l s) :=
  sorted_l0 l h2 hv s hs (l.length - 1) 1 (by omega) (by omega) (fun j h hj => by omega)
theorem grows_asc {l : List Int} (h : Grows l 1) : Asc l := by
  intro i j hi hj hij
  obtain ⟨d, rfl⟩ := Nat.exists_eq_add_of_le hij
  clear hij
  induction d with
  | zero => exact Int.le_refl _
  | succ d ih =>
    have h1 := ih (by omega)
    have h2 := h (i + d) (by omega)
    have e : i + (d + 1) = i + d + 1 := by omega
    simp only [e]
    omega
theorem grows_desc {l : List Int} (h : Grows l (-1)) : Asc l.reverse := by
  have hd : ∀ i j (hi : i < l.length) (hj : j < l.length), i ≤ j → l[j] ≤ l[i] := by
    intro i j hi hj hij
    obtain ⟨d, rfl⟩ := Nat.exists_eq_add_of_le hij
    clear hij
    induction d with
    | zero => exact Int.le_refl _
    | succ d ih =>
      have h1 := ih (by omega)
      have h2 := h (i + d) (by omega)
      have e : i + (d + 1) = i + d + 1 := by omega
      simp only [e]
      omega
  intro i j hi hj hij
  rw [List.length_reverse] at hi hj
  rw [List.getElem_reverse, List.getElem_reverse]
  exact hd _ _ (by omega) (by omega) (by omega)

theorem mid_l1 (l m : List Int) (w : Int) (low high : Int) (hm : m.length ≤ 1000) (hr : ∀ x ∈ m, low ≤ x ∧ x ≤ high)
    (hend : Ev (fun k => if w > 0 then ((dropperlaw07_sorted.f k l 1).bind fun t280 => (if t280 = true then ((dropperlaw07_SameInts.f k m l).bind fun t281 => (if t281 = true then ((dropperlaw07_First.f k).bind fun t282 => (some t282)) else (some false))) else ((dropperlaw07_sorted.f k l (-1)).bind fun t283 => (if t283 = true then ((dropperlaw07_SameInts.f k m l).bind fun t284 => (if t284 = true then ((dropperlaw07_First.f k).bind fun t285 => (some t285)) else (some false))) else ((dropperlaw07_First.f k).bind fun t286 => (some t286)))))) else ((dropperlaw07_SameInts.f k m l).bind fun t287 => (if t287 = true then ((dropperlaw07_First.f k).bind fun t288 => (some t288)) else (some false)))) true) :
    ∀ (d i : Nat), i + d = m.length → Ev (fun k => dropperlaw07_WearMiddles.l1 k l w m low high (i : Int)) true := by
  intro d
  induction d with
  | zero =>
    intro i hi
    refine Ev.step (fun k => by rw [dropperlaw07_WearMiddles.l1]) ?_
    exact ev_neg (by omega) hend
  | succ d ih =>
    intro i hi
    refine Ev.step (fun k => by rw [dropperlaw07_WearMiddles.l1]) ?_
    have hb := hr (m[i]'(by omega)) (List.getElem_mem _)
    refine ev_pos (by omega) (ev_pos (by omega) ?_)
    rw [rd_eq m i (by omega), wrap_succ _ (by omega)]
    exact ev_neg (by omega) (ev_neg (by omega) (ih (i + 1) (by omega)))
theorem mid_l0 (l m : List Int) (w : Int) (hl : l.length ≤ 1000) (hend : ∀ low high, (∀ x ∈ l, low ≤ x ∧ x ≤ high) → Ev (fun k => dropperlaw07_WearMiddles.l1 k l w m low high 0) true) :
    ∀ (d i : Nat) (low high : Int), i + d = l.length → (∀ j (h : j < l.length), j < i → low ≤ l[j] ∧ l[j] ≤ high) → Ev (fun k => dropperlaw07_WearMiddles.l0 k l w m low high (i : Int)) true := by
  intro d
  induction d with
  | zero =>
    intro i low high hi hb
    refine Ev.step (fun k => by rw [dropperlaw07_WearMiddles.l0]) ?_
    refine ev_neg (by omega) (hend low high fun x hx => ?_)
    obtain ⟨j, hj, rfl⟩ := List.mem_iff_getElem.1 hx
    exact hb j hj (by omega)
  | succ d ih =>
    intro i low high hi hb
    have hlt : i < l.length := by omega
    refine Ev.step (fun k => by rw [dropperlaw07_WearMiddles.l0]) ?_
    refine ev_pos (by omega) (ev_pos (by omega) ?_)
    rw [rd_eq l i hlt, wrap_succ _ (by omega)]
    refine ih (i + 1) _ _ (by omega) (fun j hj hji => ?_)
    by_cases h : j = i
    · subst h
      unfold mn mx
      (repeat split) <;> omega
    · have := hb j hj (by omega)
      unfold mn mx
      (repeat split) <;> omega

theorem WearMiddles : dropperlaw07_WearMiddles.Pure := by
  intro l v hm _ _ hv
  have hl : l.length ≤ 4000000000000000000 := by unfold maxLen at hm; omega
  refine Ev.rounds (r := true) (g := fun k => dropperlaw07_WearMiddles.f k l v) ?_
  unfold dropperlaw07_WearMiddles.f
  refine Ev.bind (refValid l hl) ?_
  by_cases h : ok l = true
  · refine ev_pos h ?_
    have h' := (ok_iff l).1 h
    have hv' : 0 ≤ v ∧ v ≤ 255 := by simpa [Lit.wf, IntKind.min, IntKind.max, IntKind.signed, IntKind.bits] using hv
    have e1 : wrap64 v = v := wrap_id (by omega) (by omega)
    have e2 : Int.tmod v 11 = ((v.toNat % 11 : Nat) : Int) := by
      rw [Int.tmod_eq_emod_of_nonneg hv'.1]; omega
    rw [e1, e2]
    have hw : v.toNat % 11 ≤ 10 := by omega
    generalize v.toNat % 11 = w at hw
    have hM : ∀ l, ok l = true → Ev (fun k => wear_Median.f k l (w : Int)) (med l w, 0) := by
      intro l h
      have := Median_ev l (w : Int)
      rw [if_pos h, if_pos (by omega)] at this
      exact this
    have hrev : ok l.reverse = true := by
      rw [ok_iff]
      simpa using h'
    refine Ev.bind (hM l h) (Ev.bind (back_ev l (by omega)) (Ev.bind (hM _ hrev) ?_))
    refine ev_pos rfl (ev_pos rfl (ev_pos (by simp only [med_len]) ?_))
    refine Ev.bind (back_ev (med l w) (by rw [med_len]; omega)) (Ev.bind (same _ _ (by simp only [List.length_reverse, med_len]; omega)) ?_)
    have e3 : (!decide ((med l w).reverse = med l.reverse w)) = false := by rw [med_back l h'.1 h'.2.1 w]; simp
    simp only [e3]
    refine Ev.step (fun k => by rw [dropperlaw07_WearMiddles.j0]) ?_
    refine ev_neg (by decide) (ev_pos (by omega) ?_)
    have hS : med l w = l → Ev (fun k => ((dropperlaw07_SameInts.f k (med l w) l).bind fun t281 => (if t281 = true then ((dropperlaw07_First.f k).bind fun t282 => (some t282)) else (some false)))) true := by
      intro he
      refine Ev.bind (same _ _ (by rw [med_len]; exact hl)) ?_
      exact ev_pos (by simpa using he) (Ev.bind first_ev (Ev.now _))
    refine mid_l0 l (med l w) (w : Int) (by omega) (fun low high hb => ?_) l.length 0 _ _ (by omega) (fun j hj hji => by omega)
    refine mid_l1 l (med l w) (w : Int) low high (by rw [med_len]; omega) (fun x hx => hb x (med_mem l h'.1 h'.2.1 w x hx)) ?_ (med l w).length 0 (by omega)
    by_cases hw0 : (w : Int) > 0
    · refine ev_pos hw0 ?_
      obtain ⟨b, he, hg⟩ := sorted_ev l h'.1 h'.2.1 h'.2.2 1 (.inl rfl)
      refine Ev.bind he ?_
      cases b with
      | true => exact ev_pos rfl (hS (med_asc l h'.1 h'.2.1 w (.inl (grows_asc (hg rfl)))))
      | false =>
        refine ev_neg (by decide) ?_
        obtain ⟨b, he, hg⟩ := sorted_ev l h'.1 h'.2.1 h'.2.2 (-1) (.inr rfl)
        refine Ev.bind he ?_
        cases b with
        | true => exact ev_pos rfl (hS (med_desc l h'.1 h'.2.1 w (grows_desc (hg rfl))))
        | false => exact ev_neg (by decide) (Ev.bind first_ev (Ev.now _))
    · exact ev_neg hw0 (hS (med_asc l h'.1 h'.2.1 w (.inr (by omega))))
  · exact ev_neg h (Ev.bind first_ev (Ev.now _))

end Go.Proofs.Ytpdcpekjafcohaa.Pure
