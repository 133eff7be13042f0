import Derived.Test.YtpdcpekjafcohaaXWearx2
import Derived.Test.YtpdcpekjafcohaaXWearx3
import Derived.Test.YtpdcpekjafcohaaXWearx8
import Derived.Test.YtpdcpekjafcohaaXWearx9
import Derived.Test.YtpdcpekjafcohaaXWearx10
import Derived.Test.YtpdcpekjafcohaaXWearx6
import Derived.Test.YtpdcpekjafcohaaXWearx7
namespace Go.Proofs.Ytpdcpekjafcohaa.Plain
set_option linter.unusedVariables false
set_option linter.unusedSimpArgs false
open Go.RowKit Go.Proofs.Ytpdcpekjafcohaa.XWear Go.Proofs.YtpdcpekjafcohaaW.PrintWords Go.Proofs.YtpdcpekjafcohaaW.PrintLast Go.Proofs.YtpdcpekjafcohaaW.PrintMore

/-! ### rounds -/
theorem ev_const {α : Type} {o : Option α} {r : α} (h : o = some r) : Ev (fun _ => o) r := ⟨0, fun _ _ => h⟩
theorem ev_pos {α : Type} {c : Prop} [Decidable c] {a b : Nat → Option α} {r : α} (hc : c) (h : Ev a r) : Ev (fun k => if c then a k else b k) r :=
  Ev.congr (fun k => if_pos hc) h
theorem ev_neg {α : Type} {c : Prop} [Decidable c] {a b : Nat → Option α} {r : α} (hc : ¬ c) (h : Ev b r) : Ev (fun k => if c then a k else b k) r :=
  Ev.congr (fun k => if_neg hc) h
theorem ev_some {α β : Type} {a : α} {f : Nat → α → Option β} {r : β} (h : Ev (fun k => f k a) r) : Ev (fun k => (some a).bind (f k)) r := h
theorem ev_map {α : Type} {g : Nat → Option α} {r : α} (h : Ev g r) : Ev (fun k => (g k).bind fun t => some t) r := Ev.bind h (Ev.now r)

theorem wrap_id {x : Int} (h0 : -9223372036854775808 ≤ x) (h1 : x ≤ 9223372036854775807) : wrap64 x = x := by unfold wrap64; omega
theorem wrap_succ (n : Nat) (h : n ≤ 4000000000000000000) : wrap64 ((n : Int) + 1) = ((n + 1 : Nat) : Int) := by rw [wrap_id] <;> omega
theorem wrap_plus (n m : Nat) (h : n ≤ 4000000000000000000) (h2 : m ≤ 4000000000000000000) : wrap64 ((n : Int) + (m : Int)) = ((n + m : Nat) : Int) := by rw [wrap_id] <;> omega
theorem rd_eq (l : List Int) (i : Nat) (h : i < l.length) : rd l (i : Int) = l[i] := by simp [rd, List.getD_eq_getElem?_getD, h]

/-! ### valid readings -/
def ok (l : List Int) : Bool := decide (1 ≤ l.length) && decide (l.length ≤ 40) && l.all fun x => decide (0 ≤ x) && decide (x ≤ 10000)
theorem ok_iff (l : List Int) : ok l = true ↔ 1 ≤ l.length ∧ l.length ≤ 40 ∧ ∀ x ∈ l, 0 ≤ x ∧ x ≤ 10000 := by
  simp [ok, and_assoc]
theorem valid_f (l : List Int) : wear_Valid.f l = some (ok l) := rfl

theorem refValid_l (l : List Int) (hl : l.length ≤ 9223372036854775807) : ∀ (d i : Nat), i + d = l.length → (∀ j (h : j < l.length), j < i → 0 ≤ l[j] ∧ l[j] ≤ 10000) →
    Ev (fun k => dropperref07_Valid.l0 k l (i : Int)) (ok l) := by
  intro d
  induction d with
  | zero =>
    intro i hi hb
    refine Ev.step (fun k => by rw [dropperref07_Valid.l0]) ?_
    refine ev_neg (by omega) ?_
    have ha : ∀ x ∈ l, 0 ≤ x ∧ x ≤ 10000 := by
      intro x hx
      obtain ⟨j, hj, rfl⟩ := List.mem_iff_getElem.1 hx
      exact hb j hj (by omega)
    by_cases h1 : (l.length : Int) ≥ 1
    · refine ev_pos h1 (ev_const ?_)
      congr 1
      rw [Bool.eq_iff_iff, ok_iff, decide_eq_true_iff]
      constructor
      · intro h; exact ⟨by omega, by omega, ha⟩
      · rintro ⟨_, h, _⟩; omega
    · refine ev_neg h1 (ev_const ?_)
      congr 1
      symm
      rw [Bool.eq_false_iff]
      intro h
      have := (ok_iff l).1 h
      omega
  | succ d ih =>
    intro i hi hb
    have hlt : i < l.length := by omega
    have hrd := rd_eq l i hlt
    refine Ev.step (fun k => by rw [dropperref07_Valid.l0]) ?_
    refine ev_pos (by omega) (ev_pos (by omega) ?_)
    by_cases h0 : rd l (i : Int) < 0
    · refine ev_pos h0 (ev_const ?_)
      congr 1
      symm
      rw [Bool.eq_false_iff]
      intro h
      have := ((ok_iff l).1 h).2.2 l[i] (List.getElem_mem hlt)
      omega
    refine ev_neg h0 ?_
    by_cases h1 : rd l (i : Int) > 10000
    · refine ev_pos h1 (ev_const ?_)
      congr 1
      symm
      rw [Bool.eq_false_iff]
      intro h
      have := ((ok_iff l).1 h).2.2 l[i] (List.getElem_mem hlt)
      omega
    refine ev_neg h1 ?_
    have e : wrap64 ((i : Int) + 1) = ((i + 1 : Nat) : Int) := by rw [wrap_id] <;> omega
    rw [e]
    refine ih (i + 1) (by omega) (fun j hj hlt => ?_)
    by_cases hji : j < i
    · exact hb j hj hji
    · obtain rfl : j = i := by omega
      omega
theorem refValid_big (l : List Int) (hl : l.length ≤ 9223372036854775807) : Ev (fun k => dropperref07_Valid.f k l) (ok l) :=
  refValid_l l hl l.length 0 (by omega) (fun _ _ h => by omega)
theorem refValid (l : List Int) (hl : l.length ≤ 4000000000000000000) : Ev (fun k => dropperref07_Valid.f k l) (ok l) := refValid_big l (by omega)

/-! ### SameInts -/
theorem same_l (a b : List Int) (hab : a.length = b.length) (hl : a.length ≤ 4000000000000000000) : ∀ (d i : Nat), i + d = a.length → a.take i = b.take i →
    Ev (fun k => dropperlaw07_SameInts.l0 k a b (i : Int)) (decide (a = b)) := by
  intro d
  induction d with
  | zero =>
    intro i hi hb
    refine Ev.step (fun k => by rw [dropperlaw07_SameInts.l0]) ?_
    refine ev_neg (by omega) (ev_const ?_)
    rw [List.take_of_length_le (by omega), List.take_of_length_le (by omega)] at hb
    simp [hb]
  | succ d ih =>
    intro i hi hb
    refine Ev.step (fun k => by rw [dropperlaw07_SameInts.l0]) ?_
    refine ev_pos (by omega) (ev_pos (by omega) (ev_pos (by omega) ?_))
    rw [rd_eq a i (by omega), rd_eq b i (by omega)]
    by_cases h : a[i]'(by omega) = b[i]'(by omega)
    · refine ev_pos h ?_
      have e : wrap64 ((i : Int) + 1) = ((i + 1 : Nat) : Int) := by rw [wrap_id] <;> omega
      rw [e]
      refine ih (i + 1) (by omega) ?_
      rw [List.take_succ_eq_append_getElem (by omega), List.take_succ_eq_append_getElem (by omega), hb, h]
    · refine ev_neg h (ev_const ?_)
      congr 1
      symm
      rw [decide_eq_false_iff_not]
      rintro rfl
      exact h rfl
theorem same (a b : List Int) (hl : a.length ≤ 4000000000000000000) : Ev (fun k => dropperlaw07_SameInts.f k a b) (decide (a = b)) := by
  unfold dropperlaw07_SameInts.f
  by_cases h : a.length = b.length
  · exact ev_pos (by omega) (same_l a b h hl a.length 0 (by omega) (by simp))
  · refine ev_neg (by omega) (ev_const ?_)
    congr 1
    symm
    rw [decide_eq_false_iff_not]
    rintro rfl
    exact h rfl

/-! ### medians: the windows -/
/-- the reading at a place, the last one beyond the ends -/
def cl (l : List Int) (z : Int) : Int := rd l (mn (mx z 0) (wrap64 ((l.length : Int) - 1)))
def winFrom (l : List Int) (z : Int) (m : Nat) : List Int := (List.range m).map fun j => cl l (z + (j : Nat))
def win (l : List Int) (w i : Nat) : List Int := winFrom l ((i : Int) - (w : Int)) (2 * w + 1)
theorem winFrom_succ (l : List Int) (z : Int) (m : Nat) : winFrom l z (m + 1) = winFrom l z m ++ [cl l (z + (m : Nat))] := by
  simp [winFrom, List.range_succ]
theorem win_len (l : List Int) (w i : Nat) : (win l w i).length = 2 * w + 1 := by simp [win, winFrom]
theorem cl_in {l : List Int} (z : Int) (h : 1 ≤ l.length) (h2 : l.length ≤ 40) : 0 ≤ mn (mx z 0) (wrap64 ((l.length : Int) - 1)) ∧ mn (mx z 0) (wrap64 ((l.length : Int) - 1)) < (l.length : Int) := by
  rw [wrap_id (by omega) (by omega)]
  unfold mn mx
  constructor <;> (repeat split) <;> omega
theorem cl_mem {l : List Int} (z : Int) (h : 1 ≤ l.length) (h2 : l.length ≤ 40) : cl l z ∈ l := by
  obtain ⟨h3, h4⟩ := cl_in z h h2
  unfold cl
  obtain ⟨n, hn⟩ := Int.eq_ofNat_of_zero_le h3
  rw [hn] at h4 ⊢
  rw [rd_eq l n (by omega)]
  exact List.getElem_mem _
def srt (l : List Int) : List Int := l.mergeSort fun x y => decide (x ≤ y)
theorem sort_f (l : List Int) (h : l ≠ []) (h2 : l.length ≤ 1000) : slices_Sort_int_int.f l = some (srt l) := by
  unfold slices_Sort_int_int.f
  rw [if_neg]; · rfl
  intro h3
  rcases h3 with h3 | h3
  · exact h h3
  · omega
/-- the medians: of each window, sorted, the one in the middle -/
def med (l : List Int) (w : Nat) : List Int := (List.range l.length).map fun i => rd (srt (win l w i)) (w : Int)
theorem med_len (l : List Int) (w : Nat) : (med l w).length = l.length := by simp [med]
def medTo (l : List Int) (w i : Nat) : List Int := (List.range i).map fun i => rd (srt (win l w i)) (w : Int)
theorem medTo_succ (l : List Int) (w i : Nat) : medTo l w (i + 1) = medTo l w i ++ [rd (srt (win l w i)) (w : Int)] := by simp [medTo, List.range_succ]

theorem median_l1 {r : List Int} (l : List Int) (w i : Nat) (acc : List Int) (x10 x11 : Int) (h1 : 1 ≤ l.length) (h2 : l.length ≤ 40) (hi : i < l.length) (hw : w ≤ 10) (ha : acc.length ≤ 40)
    (hr : Ev (fun k => wear_median.l0 k l (w : Int) (acc ++ [rd (srt (win l w i)) (w : Int)]) x10 (wrap64 (x11 + 1))) r) :
    ∀ (d j : Nat), j + d = 2 * w + 1 → Ev (fun k => wear_median.l1 k l (w : Int) acc (i : Int) (winFrom l ((i : Int) - (w : Int)) j) ((i : Int) - (w : Int) + (j : Nat)) x10 x11) r := by
  intro d
  induction d with
  | zero =>
    intro j hj
    obtain rfl : j = 2 * w + 1 := by omega
    refine Ev.step (fun k => by rw [wear_median.l1]) ?_
    have hs : wrap64 ((i : Int) + (w : Int)) = (i : Int) + (w : Int) := wrap_id (by omega) (by omega)
    refine ev_neg (by rw [hs]; omega) ?_
    have hne : winFrom l ((i : Int) - (w : Int)) (2 * w + 1) ≠ [] := by simp [winFrom]
    have hlen : (winFrom l ((i : Int) - (w : Int)) (2 * w + 1)).length = 2 * w + 1 := win_len l w i
    rw [sort_f _ hne (by omega)]
    refine ev_some (ev_pos (by omega) (ev_pos (by omega) (ev_pos (by omega) ?_)))
    exact hr
  | succ d ih =>
    intro j hj
    refine Ev.step (fun k => by rw [wear_median.l1]) ?_
    have hs : wrap64 ((i : Int) + (w : Int)) = (i : Int) + (w : Int) := wrap_id (by omega) (by omega)
    have hc := cl_in (l := l) ((i : Int) - (w : Int) + (j : Nat)) h1 h2
    have hlen : (winFrom l ((i : Int) - (w : Int)) j).length = j := by simp [winFrom]
    refine ev_pos (by rw [hs]; omega) (ev_pos hc.1 (ev_pos hc.2 (ev_pos (by omega) ?_)))
    have e : wrap64 ((i : Int) - (w : Int) + (j : Nat) + 1) = (i : Int) - (w : Int) + ((j + 1 : Nat) : Int) := by rw [wrap_id] <;> omega
    rw [e]
    have := ih (j + 1) (by omega)
    rw [winFrom_succ] at this
    exact this
theorem median_l0 (l : List Int) (w : Nat) (h1 : 1 ≤ l.length) (h2 : l.length ≤ 40) (hw : w ≤ 10) : ∀ (d i : Nat), i + d = l.length →
    Ev (fun k => wear_median.l0 k l (w : Int) (medTo l w i) (l.length : Int) (i : Int)) (med l w) := by
  intro d
  induction d with
  | zero =>
    intro i hi
    obtain rfl : i = l.length := by omega
    refine Ev.step (fun k => by rw [wear_median.l0]) ?_
    exact ev_neg (by omega) (ev_const rfl)
  | succ d ih =>
    intro i hi
    refine Ev.step (fun k => by rw [wear_median.l0]) ?_
    refine ev_pos (by omega) ?_
    have e0 : wrap64 ((i : Int) - (w : Int)) = (i : Int) - (w : Int) + ((0 : Nat) : Int) := by rw [wrap_id] <;> omega
    rw [e0]
    have e1 : wrap64 ((i : Int) + 1) = ((i + 1 : Nat) : Int) := by rw [wrap_id] <;> omega
    refine median_l1 l w i (medTo l w i) _ _ h1 h2 (by omega) hw (by simp [medTo]; omega) ?_ (2 * w + 1) 0 (by omega)
    rw [← medTo_succ, e1]
    exact ih (i + 1) (by omega)
theorem median_ev (l : List Int) (w : Nat) (h1 : 1 ≤ l.length) (h2 : l.length ≤ 40) (hw : w ≤ 10) : Ev (fun k => wear_median.f k l (w : Int)) (med l w) :=
  median_l0 l w h1 h2 hw l.length 0 (by omega)

theorem within_f (a b c : Int) : wear_within.f a b c = some (decide (a ≤ b ∧ b ≤ c)) := by
  unfold wear_within.f
  by_cases h : a ≤ b
  · rw [if_pos h]; simp [h]
  · rw [if_neg h]; simp [h]
theorem Median_ev (l : List Int) (w : Int) : Ev (fun k => wear_Median.f k l w) (if ok l = true then (if 0 ≤ w ∧ w ≤ 10 then (med l w.toNat, 0) else ([], 2)) else ([], 70)) := by
  unfold wear_Median.f
  rw [valid_f]
  refine ev_some ?_
  by_cases h : ok l = true
  · have h' := (ok_iff l).1 h
    rw [if_pos h]
    refine ev_pos h ?_
    rw [within_f]
    refine ev_some ?_
    by_cases hw : 0 ≤ w ∧ w ≤ 10
    · rw [if_pos hw]
      refine ev_pos (by simpa using hw) ?_
      obtain ⟨n, rfl⟩ := Int.eq_ofNat_of_zero_le hw.1
      exact Ev.bind (median_ev l n h'.1 h'.2.1 (by omega)) (Ev.now _)
    · rw [if_neg hw]
      exact ev_neg (by simpa using hw) (Ev.now _)
  · rw [if_neg h]
    exact ev_neg h (Ev.now _)

/-! ### the document's middle -/
def cntLt (l : List Int) (x : Int) : Nat := l.countP fun y => decide (y < x)
def cntEq (l : List Int) (x : Int) : Nat := l.countP fun y => decide (y = x)
def isMid (l : List Int) (x : Int) : Bool := decide (cntLt l x ≤ l.length / 2) && decide (l.length / 2 < cntLt l x + cntEq l x)
def mid (l : List Int) : Int := (l.find? (isMid l)).getD 0
theorem countP_take_succ (p : Int → Bool) (l : List Int) (j : Nat) (h : j < l.length) : (l.take (j + 1)).countP p = (l.take j).countP p + (if p l[j] then 1 else 0) := by
  rw [List.take_succ_eq_append_getElem h, List.countP_append]
  simp [List.countP_cons]
theorem middle_l1 {r : Int} (l : List Int) (i : Nat) (hl : l.length ≤ 1000) (hi : i < l.length)
    (hno : isMid l l[i] = false → Ev (fun k => dropperref07_middle.l0 k l (wrap64 ((i : Int) + 1))) r) (hyes : isMid l l[i] = true → r = l[i]) :
    ∀ (d j : Nat), j + d = l.length → Ev (fun k => dropperref07_middle.l1 k l (i : Int) (((l.take j).countP fun y => decide (y < l[i]) : Nat) : Int) (((l.take j).countP fun y => decide (y = l[i]) : Nat) : Int) (j : Int)) r := by
  intro d
  have hrdi := rd_eq l i hi
  induction d with
  | zero =>
    intro j hj
    obtain rfl : j = l.length := by omega
    refine Ev.step (fun k => by rw [dropperref07_middle.l1]) ?_
    rw [List.take_length]
    have b1 : l.countP (fun y => decide (y < l[i])) ≤ l.length := List.countP_le_length
    have b2 : l.countP (fun y => decide (y = l[i])) ≤ l.length := List.countP_le_length
    have e1 : wrap64 ((l.length : Int) / 2) = ((l.length / 2 : Nat) : Int) := by rw [wrap_id] <;> omega
    have e2 : wrap64 (((l.countP fun y => decide (y < l[i]) : Nat) : Int) + ((l.countP fun y => decide (y = l[i]) : Nat) : Int)) = ((cntLt l l[i] + cntEq l l[i] : Nat) : Int) := wrap_plus _ _ (Nat.le_trans b1 (by omega)) (Nat.le_trans b2 (by omega))
    refine ev_neg (by omega) ?_
    rw [e1, e2]
    by_cases c1 : cntLt l l[i] ≤ l.length / 2
    · refine ev_pos (by simp only [cntLt] at c1; omega) ?_
      by_cases c2 : l.length / 2 < cntLt l l[i] + cntEq l l[i]
      · refine ev_pos (by omega) (ev_pos (by omega) (ev_pos (by omega) (ev_const ?_)))
        rw [hrdi, hyes (by simp [isMid, c1, c2])]
      · exact ev_neg (by omega) (hno (by simp [isMid, c2]))
    · exact ev_neg (by simp only [cntLt] at c1; omega) (hno (by simp [isMid, c1]))
  | succ d ih =>
    intro j hj
    have hj' : j < l.length := by omega
    have q1 : (j : Int) < (l.length : Int) := by omega
    have q2 : 0 ≤ (j : Int) := by omega
    have q3 : 0 ≤ (i : Int) := by omega
    have q4 : (i : Int) < (l.length : Int) := by omega
    refine Ev.step (fun k => by rw [dropperref07_middle.l1]) ?_
    refine ev_pos q1 (ev_pos q2 (ev_pos q3 (ev_pos q4 ?_)))
    have hrdj := rd_eq l j hj'
    have hrec := ih (j + 1) (by omega)
    have b1 : (l.take j).countP (fun y => decide (y < l[i])) ≤ j := Nat.le_trans List.countP_le_length (by simp; omega)
    have b2 : (l.take j).countP (fun y => decide (y = l[i])) ≤ j := Nat.le_trans List.countP_le_length (by simp; omega)
    rw [countP_take_succ _ _ _ hj', countP_take_succ _ _ _ hj'] at hrec
    have w1 : wrap64 (((List.countP (fun y => decide (y < l[i])) (l.take j) : Nat) : Int) + 1) = ((List.countP (fun y => decide (y < l[i])) (l.take j) + 1 : Nat) : Int) := wrap_succ _ (Nat.le_trans b1 (by omega))
    have w2 : wrap64 (((List.countP (fun y => decide (y = l[i])) (l.take j) : Nat) : Int) + 1) = ((List.countP (fun y => decide (y = l[i])) (l.take j) + 1 : Nat) : Int) := wrap_succ _ (Nat.le_trans b2 (by omega))
    have w3 : wrap64 ((j : Int) + 1) = ((j + 1 : Nat) : Int) := by rw [wrap_id] <;> omega
    rw [hrdi, hrdj, w1, w2, w3]
    by_cases c1 : l[j] < l[i]
    · have c2 : ¬ l[j] = l[i] := by omega
      refine ev_pos c1 (ev_neg c2 ?_)
      simp only [c1, c2, decide_true, decide_false, if_true, Bool.false_eq_true, if_false, Nat.add_zero] at hrec
      exact hrec
    · by_cases c2 : l[j] = l[i]
      · refine ev_neg c1 (ev_pos c2 ?_)
        simp only [c1, c2, decide_true, decide_false, if_true, Bool.false_eq_true, if_false, Nat.add_zero] at hrec
        have c3 : ¬ l[i] < l[i] := by omega
        simp only [c3, decide_false, Bool.false_eq_true, if_false, Nat.add_zero] at hrec
        exact hrec
      · refine ev_neg c1 (ev_neg c2 ?_)
        simp only [c1, c2, decide_false, Bool.false_eq_true, if_false, Nat.add_zero] at hrec
        exact hrec
theorem middle_l0 (l : List Int) (hl : l.length ≤ 1000) : ∀ (d i : Nat), i + d = l.length → (∀ j (h : j < l.length), j < i → isMid l l[j] = false) →
    Ev (fun k => dropperref07_middle.l0 k l (i : Int)) (mid l) := by
  intro d
  induction d with
  | zero =>
    intro i hi hb
    refine Ev.step (fun k => by rw [dropperref07_middle.l0]) ?_
    refine ev_neg (by omega) (ev_const ?_)
    have : l.find? (isMid l) = none := by
      rw [List.find?_eq_none]
      intro x hx
      obtain ⟨j, hj, rfl⟩ := List.mem_iff_getElem.1 hx
      simp [hb j hj (by omega)]
    simp [mid, this]
  | succ d ih =>
    intro i hi hb
    have hi' : i < l.length := by omega
    refine Ev.step (fun k => by rw [dropperref07_middle.l0]) ?_
    refine ev_pos (by omega) ?_
    have w3 : wrap64 ((i : Int) + 1) = ((i + 1 : Nat) : Int) := by rw [wrap_id] <;> omega
    refine middle_l1 l i hl hi' (fun hno => ?_) (fun hyes => ?_) l.length 0 (by omega)
    · rw [w3]
      refine ih (i + 1) (by omega) (fun j hj hlt => ?_)
      by_cases hji : j < i
      · exact hb j hj hji
      · obtain rfl : j = i := by omega
        exact hno
    · have : l.find? (isMid l) = some l[i] := by
        rw [List.find?_eq_some_iff_getElem]
        exact ⟨hyes, i, hi', rfl, fun j hj => by simp [hb j (by omega) hj]⟩
      simp [mid, this]
theorem middle_ev (l : List Int) (hl : l.length ≤ 1000) : Ev (fun k => dropperref07_middle.f k l) (mid l) :=
  middle_l0 l hl l.length 0 (by omega) (fun _ _ h => by omega)
/-! ### the document's medians -/
def medR (l : List Int) (w : Nat) : List Int := (List.range l.length).map fun i => mid (win l w i)
def medRTo (l : List Int) (w i : Nat) : List Int := (List.range i).map fun i => mid (win l w i)
theorem medRTo_succ (l : List Int) (w i : Nat) : medRTo l w (i + 1) = medRTo l w i ++ [mid (win l w i)] := by simp [medRTo, List.range_succ]
theorem rmedian_l1 {r : List Int} (l : List Int) (w i : Nat) (acc : List Int) (h1 : 1 ≤ l.length) (h2 : l.length ≤ 40) (hi : i < l.length) (hw : w ≤ 10) (ha : acc.length ≤ 40)
    (hr : Ev (fun k => dropperref07_median.l0 k l (w : Int) (acc ++ [mid (win l w i)]) (wrap64 ((i : Int) + 1))) r) :
    ∀ (d j : Nat), j + d = 2 * w + 1 → Ev (fun k => dropperref07_median.l1 k l (w : Int) acc (i : Int) (winFrom l ((i : Int) - (w : Int)) j) ((i : Int) - (w : Int) + (j : Nat))) r := by
  intro d
  induction d with
  | zero =>
    intro j hj
    obtain rfl : j = 2 * w + 1 := by omega
    refine Ev.step (fun k => by rw [dropperref07_median.l1]) ?_
    have hs : wrap64 ((i : Int) + (w : Int)) = (i : Int) + (w : Int) := wrap_id (by omega) (by omega)
    refine ev_neg (by rw [hs]; omega) ?_
    have hlen : (winFrom l ((i : Int) - (w : Int)) (2 * w + 1)).length = 2 * w + 1 := win_len l w i
    exact Ev.bind (middle_ev (winFrom l ((i : Int) - (w : Int)) (2 * w + 1)) (by omega)) (ev_pos (by omega) hr)
  | succ d ih =>
    intro j hj
    refine Ev.step (fun k => by rw [dropperref07_median.l1]) ?_
    have hs : wrap64 ((i : Int) + (w : Int)) = (i : Int) + (w : Int) := wrap_id (by omega) (by omega)
    have hc := cl_in (l := l) ((i : Int) - (w : Int) + (j : Nat)) h1 h2
    have hlen : (winFrom l ((i : Int) - (w : Int)) j).length = j := by simp [winFrom]
    refine ev_pos (by rw [hs]; omega) (ev_pos hc.1 (ev_pos hc.2 (ev_pos (by omega) ?_)))
    have e : wrap64 ((i : Int) - (w : Int) + (j : Nat) + 1) = (i : Int) - (w : Int) + ((j + 1 : Nat) : Int) := by rw [wrap_id] <;> omega
    rw [e]
    have := ih (j + 1) (by omega)
    rw [winFrom_succ] at this
    exact this
theorem rmedian_l0 (l : List Int) (w : Nat) (h1 : 1 ≤ l.length) (h2 : l.length ≤ 40) (hw : w ≤ 10) : ∀ (d i : Nat), i + d = l.length →
    Ev (fun k => dropperref07_median.l0 k l (w : Int) (medRTo l w i) (i : Int)) (medR l w) := by
  intro d
  induction d with
  | zero =>
    intro i hi
    obtain rfl : i = l.length := by omega
    refine Ev.step (fun k => by rw [dropperref07_median.l0]) ?_
    exact ev_neg (by omega) (ev_const rfl)
  | succ d ih =>
    intro i hi
    refine Ev.step (fun k => by rw [dropperref07_median.l0]) ?_
    refine ev_pos (by omega) ?_
    have e0 : wrap64 ((i : Int) - (w : Int)) = (i : Int) - (w : Int) + ((0 : Nat) : Int) := by rw [wrap_id] <;> omega
    rw [e0]
    refine rmedian_l1 l w i (medRTo l w i) h1 h2 (by omega) hw (by simp [medRTo]; omega) ?_ (2 * w + 1) 0 (by omega)
    rw [← medRTo_succ, wrap_succ _ (by omega)]
    exact ih (i + 1) (by omega)
theorem rmedian_ev (l : List Int) (w : Nat) (h1 : 1 ≤ l.length) (h2 : l.length ≤ 40) (hw : w ≤ 10) : Ev (fun k => dropperref07_median.f k l (w : Int)) (medR l w) :=
  rmedian_l0 l w h1 h2 hw l.length 0 (by omega)

/-! ### the middle of a sorted row -/
theorem srt_perm (l : List Int) : (srt l).Perm l := List.mergeSort_perm _ _
theorem srt_len (l : List Int) : (srt l).length = l.length := (srt_perm l).length_eq
theorem srt_sorted (l : List Int) : (srt l).Pairwise (· ≤ ·) := by
  have h := List.pairwise_mergeSort (le := fun x y : Int => decide (x ≤ y)) (fun a b c h1 h2 => by simp at *; omega) (fun a b => by simp; omega) l
  exact h.imp (fun h => by simpa using h)
/-- In a sorted row: how many are less than what stands at a place. -/
theorem sorted_count (x : Int) : ∀ (s : List Int), s.Pairwise (· ≤ ·) → ∀ j (h : j < s.length), (s[j] < x ↔ j < s.countP fun y => decide (y < x)) ∧ (s[j] ≤ x ↔ j < s.countP fun y => decide (y ≤ x)) := by
  intro s
  induction s with
  | nil => intro _ j h; simp at h
  | cons a s ih =>
    intro hs j h
    rw [List.pairwise_cons] at hs
    have key1 : ¬ a < x → s.countP (fun y => decide (y < x)) = 0 := by
      intro hax
      rw [List.countP_eq_zero]
      intro y hy
      have := hs.1 y hy
      simp; omega
    have key2 : ¬ a ≤ x → s.countP (fun y => decide (y ≤ x)) = 0 := by
      intro hax
      rw [List.countP_eq_zero]
      intro y hy
      have := hs.1 y hy
      simp; omega
    cases j with
    | zero =>
      simp only [List.getElem_cons_zero, List.countP_cons, decide_eq_true_eq]
      constructor
      · by_cases c : a < x
        · simp [c]
        · simp [c, key1 c]
      · by_cases c : a ≤ x
        · simp [c]
        · simp [c, key2 c]
    | succ j =>
      have hj : j < s.length := by simpa using h
      obtain ⟨i1, i2⟩ := ih hs.2 j hj
      have hm := hs.1 s[j] (List.getElem_mem hj)
      simp only [List.getElem_cons_succ, List.countP_cons, decide_eq_true_eq]
      constructor
      · by_cases c : a < x
        · simp [c, i1]
        · simp only [c, if_false, Nat.add_zero, key1 c]
          constructor
          · intro h2; omega
          · intro h2; omega
      · by_cases c : a ≤ x
        · simp [c, i2]
        · simp only [c, if_false, Nat.add_zero, key2 c]
          constructor
          · intro h2; omega
          · intro h2; omega
theorem count_le_split (l : List Int) (x : Int) : (l.countP fun y => decide (y ≤ x)) = cntLt l x + cntEq l x := by
  unfold cntLt cntEq
  induction l with
  | nil => rfl
  | cons a l ih =>
    simp only [List.countP_cons, decide_eq_true_eq, ih]
    rcases Int.lt_trichotomy a x with h | h | h
    · have h1 : a ≤ x := by omega
      have h2 : ¬ a = x := by omega
      simp only [h, h1, h2, if_true, if_false]; omega
    · subst h; simp only [Int.le_refl, Int.lt_irrefl, if_true, if_false]; omega
    · have h1 : ¬ a ≤ x := by omega
      have h2 : ¬ a = x := by omega
      have h3 : ¬ a < x := by omega
      simp only [h1, h2, h3, if_false]; omega
theorem isMid_iff (l : List Int) (x : Int) (hl : 0 < l.length) : isMid l x = true ↔ (srt l)[l.length / 2]'(by rw [srt_len]; omega) = x := by
  have hj : l.length / 2 < (srt l).length := by rw [srt_len]; omega
  obtain ⟨h1, h2⟩ := sorted_count x (srt l) (srt_sorted l) (l.length / 2) hj
  have e1 : (srt l).countP (fun y => decide (y < x)) = cntLt l x := (srt_perm l).countP_eq _
  have e2 : (srt l).countP (fun y => decide (y ≤ x)) = cntLt l x + cntEq l x := ((srt_perm l).countP_eq _).trans (count_le_split l x)
  rw [e1] at h1
  rw [e2] at h2
  simp only [isMid, Bool.and_eq_true, decide_eq_true_eq]
  constructor
  · rintro ⟨a, b⟩
    have c1 := h2.2 b
    have c2 : ¬ (srt l)[l.length / 2] < x := fun h => by have := h1.1 h; omega
    omega
  · intro h
    have c1 := h2.1 (by omega)
    have c2 : ¬ l.length / 2 < cntLt l x := fun hh => by have := h1.2 hh; omega
    exact ⟨by omega, c1⟩
theorem mid_eq (l : List Int) (hl : 0 < l.length) : mid l = rd (srt l) ((l.length / 2 : Nat) : Int) := by
  have hj : l.length / 2 < (srt l).length := by rw [srt_len]; omega
  rw [rd_eq _ _ hj]
  have hm : (srt l)[l.length / 2] ∈ l := (srt_perm l).mem_iff.1 (List.getElem_mem hj)
  unfold mid
  cases hf : l.find? (isMid l) with
  | none =>
    rw [List.find?_eq_none] at hf
    exact absurd ((isMid_iff l _ hl).2 rfl) (hf _ hm)
  | some x =>
    have := List.find?_some hf
    rw [isMid_iff l x hl] at this
    simp [this]
theorem med_eq (l : List Int) (w : Nat) : medR l w = med l w := by
  unfold medR med
  apply List.map_congr_left
  intro i _
  rw [mid_eq _ (by rw [win_len]; omega), win_len]
  congr 2
  omega

theorem asked_ev (l : List Int) (w : Int) (hl : l.length ≤ 4000000000000000000) : Ev (fun k => dropperref07_asked.f k l w) (if ok l = true then (if 0 ≤ w ∧ w ≤ 10 then 0 else 2) else 70) := by
  unfold dropperref07_asked.f
  refine Ev.bind (refValid l hl) ?_
  by_cases h : ok l = true
  · refine ev_pos h ?_
    rw [if_pos h]
    by_cases h1 : w < 0
    · have e : (if 0 ≤ w ∧ w ≤ 10 then (0 : Int) else 2) = 2 := if_neg (by omega)
      rw [e]; exact ev_pos h1 (Ev.now _)
    · refine ev_neg h1 ?_
      by_cases h2 : w > 10
      · have e : (if 0 ≤ w ∧ w ≤ 10 then (0 : Int) else 2) = 2 := if_neg (by omega)
        rw [e]; exact ev_pos h2 (Ev.now _)
      · have e : (if 0 ≤ w ∧ w ≤ 10 then (0 : Int) else 2) = 0 := if_pos (by omega)
        rw [e]; exact ev_neg h2 (Ev.now _)
  · refine ev_neg h ?_
    rw [if_neg h]
    exact Ev.now _
theorem RMedian_ev (l : List Int) (w : Int) (hl : l.length ≤ 4000000000000000000) : Ev (fun k => dropperref07_Median.f k l w) (if ok l = true then (if 0 ≤ w ∧ w ≤ 10 then (med l w.toNat, 0) else ([], 2)) else ([], 70)) := by
  unfold dropperref07_Median.f
  refine Ev.bind (asked_ev l w hl) ?_
  by_cases h : ok l = true
  · have h' := (ok_iff l).1 h
    rw [if_pos h, if_pos h]
    by_cases hw : 0 ≤ w ∧ w ≤ 10
    · rw [if_pos hw, if_pos hw]
      refine ev_pos rfl ?_
      obtain ⟨n, rfl⟩ := Int.eq_ofNat_of_zero_le hw.1
      have := rmedian_ev l n h'.1 h'.2.1 (by omega)
      rw [med_eq] at this
      exact Ev.bind this (Ev.now _)
    · rw [if_neg hw, if_neg hw]
      exact ev_neg (by decide) (Ev.now _)
  · rw [if_neg h, if_neg h]
    exact ev_neg (by decide) (Ev.now _)

/-! ### the examples -/
theorem first_near : wear_Nearest.f 60 [1, 3, 2, 4] = some ([⟨1, 1⟩, ⟨5, 2⟩, ⟨5, 2⟩, ⟨4, 1⟩], 0) := by kernel_rfl
theorem first_med : med [1, 9, 2, 3] 1 = [1, 2, 3, 3] := by rw [← med_eq]; decide +kernel
theorem first_same : dropperlaw07_SameRatios.f 60 [⟨1, 1⟩, ⟨5, 2⟩, ⟨5, 2⟩, ⟨4, 1⟩] [⟨1, 1⟩, ⟨5, 2⟩, ⟨5, 2⟩, ⟨4, 1⟩] = some true := by kernel_rfl
theorem first_ev : Ev (fun k => dropperlaw07_First.f k) true := by
  unfold dropperlaw07_First.f
  refine Ev.bind (Ev.of (wear_Nearest.mono _) first_near) ?_
  have h1 := Median_ev [1, 9, 2, 3] 1
  rw [if_pos (by decide), if_pos (by decide)] at h1
  have h2 : med [1, 9, 2, 3] (1 : Int).toNat = [1, 2, 3, 3] := first_med
  rw [h2] at h1
  refine Ev.bind h1 ?_
  refine ev_pos rfl (ev_pos rfl ?_)
  refine Ev.bind (Ev.of (dropperlaw07_SameRatios.mono _ _) first_same) (ev_pos rfl ?_)
  exact Ev.bind (same [1, 2, 3, 3] [1, 2, 3, 3] (by decide)) (Ev.now _)
end Go.Proofs.Ytpdcpekjafcohaa.Plain
