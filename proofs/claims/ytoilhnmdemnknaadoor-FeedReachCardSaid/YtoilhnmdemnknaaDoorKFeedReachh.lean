-- Written by wip/pack.py of this repo: texts of this claim, put together.
import Derived.DataReads
import Derived.OpenShut
import Derived.ChangeArms
import Derived.Test.YtoilhnmdemnknaaDoorRows
import Derived.ProofKit
import Derived.LaidMore
import Derived.Stop.Joined
import Derived.Test.YtoilhnmdemnknaaDoorTie
import Derived.Test.YtoilhnmdemnknaaDoorCards
import Derived.SevenTiedAt
import Derived.WalkKit
import Derived.ShutString
import Derived.ChangeOld
import Derived.Below
import Derived.SizedLaws
import Derived.Test.YtoilhnmdemnknaaDoorKFeedReachg
/- Rules, orders and where they lead. -/
namespace Go.Proofs.YtoilhnmdemnknaaDoor.Plain
set_option linter.unusedVariables false
set_option linter.unusedSimpArgs false
open Go.RowKit Go.Proofs.YtoilhnmdemnknaaDoor.XFeed Go.Proofs.YtoilhnmdemnknaaDoorW.PrintWords Go.Proofs.YtoilhnmdemnknaaDoorW.PrintLast Go.Proofs.YtoilhnmdemnknaaDoorW.PrintMore
open Classical

theorem pred_nat {i : Nat} (h : (i : Int) > 0) (hi : i ≤ 4000000000000000000) : wrap64 ((i : Int) - 1) = ((i - 1 : Nat) : Int) := by rw [wrap_id (by omega) (by omega)]; omega
theorem cons_of {l : List Int} {i : Nat} (h : i < l.length) : l.drop i = l[i] :: l.drop (i + 1) := List.drop_eq_getElem_cons h
def KeepOk (n : Int) (keep : List Int) : Prop := (∀ v ∈ keep, 0 ≤ v ∧ v < n) ∧ keep.Pairwise (· < ·)
theorem pair_of_adj : ∀ (l : List Int), (∀ j (h : j + 1 < l.length), l[j] < l[j + 1]) → l.Pairwise (· < ·)
 | [], _ => List.Pairwise.nil
 | [_], _ => by simp
 | a :: b :: t, h => by
  have ih := pair_of_adj (b :: t) (fun j hj => by have := h (j + 1) (by simp at hj ⊢; omega); simpa using this)
  have hab : a < b := by have := h 0 (by simp); simpa using this
  refine List.pairwise_cons.2 ⟨fun x hx => ?_, ih⟩
  rcases List.mem_cons.1 hx with rfl | hx
  ·
   exact hab
  ·
   exact Int.lt_trans hab ((List.pairwise_cons.1 ih).1 x hx)
theorem adj_of_pair {l : List Int} (h : l.Pairwise (· < ·)) {j k : Nat} (hjk : j < k) (hk : k < l.length) : l[j] < l[k] := List.pairwise_iff_getElem.1 h j k (by omega) hk hjk
theorem kept_l0 (n : Nat) (hn : 1 ≤ n ∧ n ≤ 8) (sw : List S69) (fe : List S71) (l : List Int) (hl : l.length ≤ 4000000000000000000) : ∀ (d i : Nat), i + d = l.length → (∀ j (h : j + 1 < l.length), j + 1 < i → l[j] < l[j + 1]) →
  Ev (fun k => feed_rule_kept.l0 k l (l.length : Int) (i : Int) (n : Int) sw fe l) (if KeepOk (n : Int) l then 0 else 2) := by
 intro d
 induction d with
 | zero =>
  intro i hi hb
  obtain rfl : i = l.length := by omega
  refine Ev.step (fun k => by rw [feed_rule_kept.l0]) ?_
  refine ev_neg (by omega) (ev_const ?_)
  unfold feed_grid_section.f
  simp only [Option.bind_some]
  congr 1
  have hp := pair_of_adj l (fun j hj => hb j hj hj)
  by_cases hk : KeepOk (n : Int) l
  ·
   rw [if_pos hk, if_neg]
   intro ha
   obtain ⟨v, hv, hbv⟩ := List.any_eq_true.1 ha
   rw [bad_iff (by omega) (by omega), decide_eq_true (hk.1 v hv)] at hbv
   cases hbv
  ·
   rw [if_neg hk, if_pos]
   rw [List.any_eq_true]
   have : ¬ ∀ v ∈ l, 0 ≤ v ∧ v < (n : Int) := fun h => hk ⟨h, hp⟩
   simp only [not_forall] at this
   obtain ⟨v, hv, hnv⟩ := this
   exact ⟨v, hv, by rw [bad_iff (by omega) (by omega), decide_eq_false hnv]; rfl⟩
 | succ d ih =>
  intro i hi hb
  have hil : i < l.length := by omega
  refine Ev.step (fun k => by rw [feed_rule_kept.l0]) ?_
  rw [rd_get hil, wrap_succ i (by omega)]
  refine ev_pos (by omega) (ev_pos (by omega) (ev_pos (by omega) ?_))
  by_cases h0 : (i : Int) > 0
  ·
   refine ev_pos h0 ?_
   rw [pred_nat h0 (by omega), rd_get (show i - 1 < l.length by omega)]
   refine ev_pos (by omega) (ev_pos (by omega) ?_)
   by_cases hle : l[i] ≤ l[i - 1]
   ·
    refine ev_pos hle (ev_const (congrArg some ?_))
    rw [if_neg]
    intro hk
    have := adj_of_pair hk.2 (show i - 1 < i by omega) hil
    omega
   ·
    refine ev_neg hle (ih (i + 1) (by omega) (fun j hj hji => ?_))
    by_cases e : j + 1 < i
    ·
     exact hb j hj e
    ·
     have e2 : j = i - 1 := by omega
     have e3 : l[j] = l[i - 1] := by simp only [e2]
     have e4 : l[j + 1] = l[i] := by congr 1; omega
     omega
  ·
   exact ev_neg h0 (ih (i + 1) (by omega) (fun j hj hji => by omega))
theorem kept_val (n : Nat) (hn : 1 ≤ n ∧ n ≤ 8) (sw : List S69) (fe : List S71) (l : List Int) (hl : l.length ≤ 4000000000000000000) : Ev (fun k => feed_rule_kept.f k (n : Int) sw fe l) (if KeepOk (n : Int) l then 0 else 2) := by
 unfold feed_rule_kept.f
 exact kept_l0 n hn sw fe l hl l.length 0 (by omega) (fun j hj h0 => by omega)
theorem isKeep_l0 (n : Nat) (sw : List S69) (fe : List S71) (l : List Int) (hl : l.length ≤ 4000000000000000000) : ∀ (d i : Nat), i + d = l.length → (∀ j (h : j < l.length), j < i → 0 ≤ l[j] ∧ l[j] < (n : Int)) → (∀ j (h : j + 1 < l.length), j + 1 < i → l[j] < l[j + 1]) →
  Ev (fun k => dropperref05_IsKeep.l0 k l (i : Int) (n : Int) sw fe) (decide (KeepOk (n : Int) l)) := by
 intro d
 induction d with
 | zero =>
  intro i hi ha hb
  refine Ev.step (fun k => by rw [dropperref05_IsKeep.l0]) ?_
  refine ev_neg (by omega) (ev_const (congrArg some ?_))
  symm
  refine decide_eq_true ⟨fun v hv => ?_, pair_of_adj l (fun j hj => hb j hj (by omega))⟩
  obtain ⟨j, hj, rfl⟩ := List.mem_iff_getElem.1 hv
  exact ha j hj (by omega)
 | succ d ih =>
  intro i hi ha hb
  have hil : i < l.length := by omega
  refine Ev.step (fun k => by rw [dropperref05_IsKeep.l0]) ?_
  rw [rd_get hil, wrap_succ i (by omega), section_f]
  refine ev_pos (by omega) (ev_pos (by omega) (ev_some ?_))
  by_cases hr : 0 ≤ l[i] ∧ l[i] < (n : Int)
  ·
   refine ev_pos (decide_eq_true hr) ?_
   have ha' : ∀ j (h : j < l.length), j < i + 1 → 0 ≤ l[j] ∧ l[j] < (n : Int) := fun j hj hji => by
    by_cases e : j < i
    ·
     exact ha j hj e
    ·
     obtain rfl : j = i := by omega
     exact hr
   by_cases h0 : (i : Int) > 0
   ·
    refine ev_pos h0 ?_
    rw [pred_nat h0 (by omega), rd_get (show i - 1 < l.length by omega)]
    refine ev_pos (by omega) (ev_pos (by omega) ?_)
    by_cases hle : l[i] ≤ l[i - 1]
    ·
     refine ev_pos hle (ev_const (congrArg some ?_))
     symm
     refine decide_eq_false (fun hk => ?_)
     have := adj_of_pair hk.2 (show i - 1 < i by omega) hil
     omega
    ·
     refine ev_neg hle (ih (i + 1) (by omega) ha' (fun j hj hji => ?_))
     by_cases e : j + 1 < i
     ·
      exact hb j hj e
     ·
      have e2 : j = i - 1 := by omega
      have e3 : l[j] = l[i - 1] := by simp only [e2]
      have e4 : l[j + 1] = l[i] := by congr 1; omega
      omega
   ·
    exact ev_neg h0 (ih (i + 1) (by omega) ha' (fun j hj hji => by omega))
  ·
   refine ev_neg (by simpa using hr) (ev_const (congrArg some ?_))
   symm
   exact decide_eq_false (fun hk => hr (hk.1 _ (List.getElem_mem hil)))
theorem isKeep_val (n : Nat) (sw : List S69) (fe : List S71) (l : List Int) (hl : l.length ≤ 4000000000000000000) : Ev (fun k => dropperref05_IsKeep.f k (n : Int) sw fe l) (decide (KeepOk (n : Int) l)) := by
 unfold dropperref05_IsKeep.f
 exact isKeep_l0 n sw fe l hl l.length 0 (by omega) (fun j hj h0 => by omega) (fun j hj h0 => by omega)

noncomputable def goodB (sw : List S69) (n : Nat) (fe : List S71) (keep : List Int) (st : Nat) : Bool := rightB sw st n fe && !(keep.any fun i => rd (marks sw st n fe) i == 0)
section
variable {n : Nat} {sw : List S69} {fe : List S71} (h : GridOk (n : Int) sw fe) {keep : List Int} (hk : KeepOk (n : Int) keep) (hkl : keep.length ≤ 4000000000000000000)
include h hk
theorem keeps_val {st : Nat} (hst : st < 2 ^ sw.length) : Ev (fun k => feed_rule_keeps.f k (n : Int) sw fe keep (st : Int)) (goodB sw n fe keep st) := by
 have hp := pow_le10 h
 have hn := h.2.1
 obtain ⟨t, h1, h2, h3⟩ := fed_ev n (by omega) sw h.sw8 (by have := h.2.2.1; omega) fe h.fe (by have := h.2.2.2.1; omega) st (by omega)
 have e : ∀ i ∈ keep, (rd t i == 0) = (rd (marks sw st n fe) i == 0) := fun i hi => by
  obtain ⟨a, b⟩ := hk.1 i hi
  obtain ⟨i, rfl⟩ := Int.eq_ofNat_of_zero_le a
  obtain ⟨m, e, hm⟩ := h3 i (by omega)
  obtain ⟨m', e', hm'⟩ := (marks_mark h hst).2 i (by omega)
  obtain rfl := mask_unique hm hm'
  have hz := lv_zero m hm.1 (mask_zero (n := n) h.fe hm)
  rw [e, e', Bool.eq_iff_iff, beq_iff_eq, beq_iff_eq, hz]
  omega
 have hany : keep.any (feed_rule_keeps.p t) = keep.any (fun i => rd (marks sw st n fe) i == 0) := by
  rw [Bool.eq_iff_iff, List.any_eq_true, List.any_eq_true]
  constructor
  ·
   rintro ⟨x, hx, hb⟩; exact ⟨x, hx, by rw [← e x hx]; exact hb⟩
  ·
   rintro ⟨x, hx, hb⟩; exact ⟨x, hx, by show (rd t x == 0) = true; rw [e x hx]; exact hb⟩
 have hall : (keep.all fun x => decide (0 ≤ x) && decide (x < (t.length : Int))) = true := by
  rw [List.all_eq_true]
  intro x hx
  have := hk.1 x hx
  rw [h2]
  simp; omega
 unfold feed_rule_keeps.f goodB
 refine Ev.bind h1 (Ev.bind (rightB_val h hst) ?_)
 cases hr : rightB sw st n fe with
 | true =>
  refine ev_pos rfl (ev_pos hall (ev_const (congrArg some ?_)))
  rw [hany]; rfl
 | false => exact ev_neg (by simp) (Ev.now _)
include hkl
theorem good_l0 {st : Nat} (hst : st < 2 ^ sw.length) : ∀ (d i : Nat), i + d = keep.length → (∀ j (h : j < keep.length), j < i → rd (marks sw st n fe) keep[j] ≠ 0) →
  Ev (fun k => dropperref05_Good.l0 k keep (marks sw st n fe) (i : Int)) (!(keep.any fun i => rd (marks sw st n fe) i == 0)) := by
 have hml := marks_len h hst
 intro d
 induction d with
 | zero =>
  intro i hi hb
  refine Ev.step (fun k => by rw [dropperref05_Good.l0]) ?_
  refine ev_neg (by omega) (ev_const (congrArg some ?_))
  have : (keep.any fun i => rd (marks sw st n fe) i == 0) = false := by
   rw [List.any_eq_false]
   intro v hv
   obtain ⟨j, hj, rfl⟩ := List.mem_iff_getElem.1 hv
   have := hb j hj (by omega)
   simpa using this
  rw [this]; rfl
 | succ d ih =>
  intro i hi hb
  have hil : i < keep.length := by omega
  obtain ⟨a, b⟩ := hk.1 _ (List.getElem_mem hil)
  refine Ev.step (fun k => by rw [dropperref05_Good.l0]) ?_
  rw [rd_get hil, wrap_succ i (by omega), hml]
  refine ev_pos (by omega) (ev_pos (by omega) (ev_pos a (ev_pos b ?_)))
  by_cases hz : rd (marks sw st n fe) keep[i] = 0
  ·
   refine ev_pos hz (ev_const (congrArg some ?_))
   have : (keep.any fun i => rd (marks sw st n fe) i == 0) = true := List.any_eq_true.2 ⟨_, List.getElem_mem hil, by simpa using hz⟩
   rw [this]; rfl
  ·
   refine ev_neg hz (ih (i + 1) (by omega) (fun j hj hji => ?_))
   by_cases e : j < i
   ·
    exact hb j hj e
   ·
    obtain rfl : j = i := by omega
    exact hz
theorem good_val (st : Int) : Ev (fun k => dropperref05_Good.f k (n : Int) sw fe st keep) (decide (0 ≤ st ∧ st < ((2 ^ sw.length : Nat) : Int)) && goodB sw n fe keep st.toNat) := by
 have hlen := h.2.2.1
 have no : Ev (fun k => dropperref05_Good.j0 k st keep true (n : Int) sw fe) false := by
  refine Ev.step (fun k => by rw [dropperref05_Good.j0]) ?_
  exact ev_pos rfl (Ev.now _)
 unfold dropperref05_Good.f dropperref05_IsState.f
 rw [shl_one _ (by omega)]
 by_cases h0 : st ≥ 0
 ·
  obtain ⟨s, rfl⟩ := Int.eq_ofNat_of_zero_le h0
  rw [Int.toNat_natCast]
  by_cases h1 : (s : Int) < ((2 ^ sw.length : Nat) : Int)
  ·
   have hst : s < 2 ^ sw.length := by omega
   rw [decide_eq_true (p := 0 ≤ (s : Int) ∧ (s : Int) < ((2 ^ sw.length : Nat) : Int)) ⟨h0, h1⟩, Bool.true_and]
   rw [if_pos h0, decide_eq_true h1]
   refine ev_some (ev_pos rfl (Ev.bind (rrightB_val h hst) ?_))
   unfold goodB
   cases hr : rightB sw s n fe with
   | true =>
    refine Ev.step (fun k => by rw [dropperref05_Good.j0]) (ev_neg (by simp) (Ev.bind (rlive_val h hst) ?_))
    rw [Bool.true_and]
    exact good_l0 h hk hkl hst keep.length 0 (by omega) (fun j hj h0 => by omega)
   | false =>
    refine Ev.step (fun k => by rw [dropperref05_Good.j0]) ?_
    exact ev_pos rfl (Ev.now _)
  ·
   rw [decide_eq_false (p := 0 ≤ (s : Int) ∧ (s : Int) < ((2 ^ sw.length : Nat) : Int)) (fun e => h1 e.2), Bool.false_and]
   rw [if_pos h0, decide_eq_false h1]
   exact ev_some (ev_neg (by simp) no)
 ·
  rw [decide_eq_false (p := 0 ≤ st ∧ st < ((2 ^ sw.length : Nat) : Int)) (fun e => h0 e.1), Bool.false_and]
  rw [if_neg h0]
  exact ev_some (ev_neg (by simp) no)
end
noncomputable def begE (N : Int) (sw : List S69) (fe : List S71) (keep : List Int) (st : Int) : Int :=
 if GridOk N sw fe then (if KeepOk N keep then (if (0 ≤ st ∧ st < ((2 ^ sw.length : Nat) : Int)) ∧ goodB sw N.toNat fe keep st.toNat = true then 0 else 51) else 2) else 50
theorem begE_nat {N : Int} {sw : List S69} {fe : List S71} {keep : List Int} {st : Int} (h : begE N sw fe keep st = 0) :
  ∃ n s : Nat, N = (n : Int) ∧ st = (s : Int) ∧ GridOk (n : Int) sw fe ∧ KeepOk (n : Int) keep ∧ s < 2 ^ sw.length ∧ goodB sw n fe keep s = true := by
 unfold begE at h
 by_cases hg : GridOk N sw fe
 ·
  rw [if_pos hg] at h
  by_cases hk : KeepOk N keep
  ·
   rw [if_pos hk] at h
   by_cases hs : (0 ≤ st ∧ st < ((2 ^ sw.length : Nat) : Int)) ∧ goodB sw N.toNat fe keep st.toNat = true
   ·
    obtain ⟨n, rfl⟩ := Int.eq_ofNat_of_zero_le (show 0 ≤ N by have := hg.1; omega)
    obtain ⟨s, rfl⟩ := Int.eq_ofNat_of_zero_le hs.1.1
    rw [Int.toNat_natCast, Int.toNat_natCast] at hs
    exact ⟨n, s, rfl, rfl, hg, hk, by omega, hs.2⟩
   ·
    rw [if_neg hs] at h; cases h
  ·
   rw [if_neg hk] at h; cases h
 ·
  rw [if_neg hg] at h; cases h
theorem ruled_val (N : Int) (sw : List S69) (fe : List S71) (keep : List Int) (hkl : keep.length ≤ 4000000000000000000) (st : Int) :
  Ev (fun k => feed_ruled.f k N sw fe st keep) (N, begE N sw fe keep st) ∧ Ev (fun k => dropperref05_begun.f k N sw fe st keep) (begE N sw fe keep st) := by
 unfold feed_ruled.f dropperref05_begun.f begE
 rw [valid_f]
 by_cases hg : GridOk N sw fe
 ·
  rw [if_pos hg]
  have hrv := rvalid_ev N sw fe
  obtain ⟨n, rfl⟩ := Int.eq_ofNat_of_zero_le (show 0 ≤ N by have := hg.1; omega)
  have hn := hg.1
  have hn8 := hg.2.1
  have hp := pow_le10 hg
  rw [decide_eq_true hg, Int.toNat_natCast, all_f _ _ _ hg.2.2.1]
  have kv := kept_val n (by omega) sw fe keep hkl
  have iv := isKeep_val n sw fe keep hkl
  by_cases hk : KeepOk (n : Int) keep
  ·
   rw [if_pos hk] at kv ⊢
   rw [decide_eq_true hk] at iv
   have gv := good_val hg hk hkl st
   by_cases hr : 0 ≤ st ∧ st < ((2 ^ sw.length : Nat) : Int)
   ·
    obtain ⟨s, rfl⟩ := Int.eq_ofNat_of_zero_le hr.1
    have hs : s < 2 ^ sw.length := by omega
    rw [decide_eq_true hr, Bool.true_and] at gv
    rw [Int.toNat_natCast] at gv ⊢
    have kp := keeps_val hg hk hs
    cases hgd : goodB sw n fe keep s with
    | true =>
     rw [hgd] at gv kp
     rw [if_pos ⟨hr, rfl⟩]
     constructor
     ·
      refine ev_some (ev_pos rfl (Ev.bind kv (ev_pos rfl (ev_some ?_))))
      generalize 2 ^ sw.length = P at *
      rw [wrap_id (by omega) (by omega), within_f]
      exact ev_some (ev_pos (decide_eq_true (by omega)) (Ev.bind kp (ev_pos rfl (Ev.now _))))
     ·
      exact Ev.bind hrv (ev_pos (decide_eq_true hg) (Ev.bind iv (ev_pos rfl (Ev.bind gv (ev_pos rfl (Ev.now _))))))
    | false =>
     rw [hgd] at gv kp
     rw [if_neg (fun e => by cases e.2)]
     constructor
     ·
      refine ev_some (ev_pos rfl (Ev.bind kv (ev_pos rfl (ev_some ?_))))
      generalize 2 ^ sw.length = P at *
      rw [wrap_id (by omega) (by omega), within_f]
      exact ev_some (ev_pos (decide_eq_true (by omega)) (Ev.bind kp (ev_neg (by simp) (Ev.now _))))
     ·
      exact Ev.bind hrv (ev_pos (decide_eq_true hg) (Ev.bind iv (ev_pos rfl (Ev.bind gv (ev_neg (by simp) (Ev.now _))))))
   ·
    rw [decide_eq_false hr, Bool.false_and] at gv
    rw [if_neg (fun e => hr e.1)]
    constructor
    ·
     refine ev_some (ev_pos rfl (Ev.bind kv (ev_pos rfl (ev_some ?_))))
     generalize 2 ^ sw.length = P at *
     rw [wrap_id (by omega) (by omega), within_f]
     exact ev_some (ev_neg (by simp only [decide_eq_true_eq]; omega) (Ev.now _))
    ·
     exact Ev.bind hrv (ev_pos (decide_eq_true hg) (Ev.bind iv (ev_pos rfl (Ev.bind gv (ev_neg (by simp) (Ev.now _))))))
  ·
   rw [if_neg hk] at kv ⊢
   rw [decide_eq_false hk] at iv
   constructor
   ·
    exact ev_some (ev_pos rfl (Ev.bind kv (ev_neg (by decide) (Ev.now _))))
   ·
    exact Ev.bind hrv (ev_pos (decide_eq_true hg) (Ev.bind iv (ev_neg (by simp) (Ev.now _))))
 ·
  rw [if_neg hg, decide_eq_false hg]
  constructor
  ·
   exact ev_some (ev_neg (by simp) (Ev.now _))
  ·
   exact Ev.bind (rvalid_ev N sw fe) (ev_neg (by simpa using hg) (Ev.now _))

/-! one switch more, or less -/
theorem flip_lt {st v len : Nat} (h : st < 2 ^ len) (hv : v < len) : st ^^^ 2 ^ v < 2 ^ len := Nat.xor_lt_two_pow h (Nat.pow_lt_pow_right (by decide) hv)
theorem flip_i {st v : Nat} (h : st < 2 ^ 62) (hv : v ≤ 20) : Go.bits .xor .i64 (st : Int) (shl .i64 1 (v : Int)) = ((st ^^^ 2 ^ v : Nat) : Int) := by
 have : 2 ^ v ≤ 2 ^ 20 := Nat.pow_le_pow_right (by decide) hv
 rw [shl_one v hv, xor_i h (by omega)]
noncomputable def stepOf (sw : List S69) (n : Nat) (fe : List S71) (keep : List Int) (st i : Nat) : Int := if goodB sw n fe keep (st ^^^ 2 ^ i) = true then ((st ^^^ 2 ^ i : Nat) : Int) else -1
noncomputable def stepsL (sw : List S69) (n : Nat) (fe : List S71) (keep : List Int) (st m : Nat) : List Int := (List.range m).map (stepOf sw n fe keep st)
theorem stepsL_len {sw : List S69} {n : Nat} {fe : List S71} {keep : List Int} {st m : Nat} : (stepsL sw n fe keep st m).length = m := by simp [stepsL]
theorem stepsL_succ {sw : List S69} {n : Nat} {fe : List S71} {keep : List Int} {st m : Nat} : stepsL sw n fe keep st (m + 1) = stepsL sw n fe keep st m ++ [stepOf sw n fe keep st m] := by simp [stepsL, List.range_succ]
section
variable {n : Nat} {sw : List S69} {fe : List S71} (h : GridOk (n : Int) sw fe) {keep : List Int} (hk : KeepOk (n : Int) keep)
include h hk
theorem steps_l0 {st : Nat} (hst : st < 2 ^ sw.length) : ∀ (d i : Nat), i + d = sw.length →
  Ev (fun k => feed_rule_steps.l0 k (st : Int) (stepsL sw n fe keep st i) (sw.length : Int) (i : Int) (n : Int) sw fe keep) (stepsL sw n fe keep st sw.length) := by
 have hp := pow_le10 h
 have hlen := h.2.2.1
 intro d
 induction d with
 | zero =>
  intro i hi
  obtain rfl : i = sw.length := by omega
  refine Ev.step (fun k => by rw [feed_rule_steps.l0]) ?_
  exact ev_neg (by omega) (Ev.now _)
 | succ d ih =>
  intro i hi
  have hsl := stepsL_len (sw := sw) (n := n) (fe := fe) (keep := keep) (st := st) (m := i)
  have i1 := ih (i + 1) (by omega)
  rw [stepsL_succ, stepOf] at i1
  refine Ev.step (fun k => by rw [feed_rule_steps.l0]) ?_
  rw [wrap_succ i (by omega), flip_i (by omega) (by omega), hsl]
  refine ev_pos (by omega) (ev_pos (by omega) (Ev.bind (keeps_val h hk (flip_lt hst (by omega))) ?_))
  cases hg : goodB sw n fe keep (st ^^^ 2 ^ i) with
  | true => rw [hg, if_pos rfl] at i1; exact ev_pos rfl (ev_pos (by omega) i1)
  | false => rw [hg, if_neg (by simp)] at i1; exact ev_neg (by simp) (ev_pos (by omega) i1)
theorem steps_val {st : Nat} (hst : st < 2 ^ sw.length) : Ev (fun k => feed_rule_steps.f k (n : Int) sw fe keep (st : Int)) (stepsL sw n fe keep st sw.length) := by
 unfold feed_rule_steps.f
 exact steps_l0 h hk hst sw.length 0 (by omega)
end
/-! lists of switches -/
section
variable {n : Nat} {sw : List S69} {fe : List S71} (h : GridOk (n : Int) sw fe) {keep : List Int} (hk : KeepOk (n : Int) keep) (hkl : keep.length ≤ 4000000000000000000)
include h hk hkl
end
end Go.Proofs.YtoilhnmdemnknaaDoor.Plain

/- Breadth first search over states that are masks of at most len bits: each state found with the first of the shortest orders that lead to it. Plain Lean, no program in sight. -/
namespace Go.Proofs.YtoilhnmdemnknaaDoor.Plain.Bfs
set_option linter.unusedVariables false
set_option linter.unusedSimpArgs false

def nb (s k : Nat) : Nat := s ^^^ 2 ^ k
theorem nb_lt {s k len : Nat} (h : s < 2 ^ len) (hk : k < len) : nb s k < 2 ^ len := Nat.xor_lt_two_pow h (Nat.pow_lt_pow_right (by decide) hk)
/-! ### shortlex -/
def lx : List Nat → List Nat → Prop
 | a :: u, b :: v => a < b ∨ (a = b ∧ lx u v)
 | _, _ => False
theorem lx_snoc : ∀ {u v : List Nat} (x y : Nat), lx u v → lx (u ++ [x]) (v ++ [y])
 | [], _, _, _, h => h.elim
 | _ :: _, [], _, _, h => h.elim
 | a :: u, b :: v, x, y, h => by
  rcases h with h | ⟨rfl, h⟩
  ·
   exact .inl h
  ·
   exact .inr ⟨rfl, lx_snoc x y h⟩
theorem lx_same : ∀ {u : List Nat} {x y : Nat}, x < y → lx (u ++ [x]) (u ++ [y])
 | [], _, _, h => .inl h
 | _ :: u, _, _, h => .inr ⟨rfl, lx_same h⟩
def sl (u v : List Nat) : Prop := u.length < v.length ∨ (u.length = v.length ∧ lx u v)
def sle (u v : List Nat) : Prop := u = v ∨ sl u v
theorem sl_snoc {u v : List Nat} (x y : Nat) (h : sl u v) : sl (u ++ [x]) (v ++ [y]) := by
 rcases h with h | ⟨h, h'⟩
 ·
  exact .inl (by simp; omega)
 ·
  exact .inr ⟨by simp; omega, lx_snoc x y h'⟩
theorem sl_nil (u : List Nat) (x : Nat) : sl [] (u ++ [x]) := .inl (by simp)
/-! ### walks -/
section
variable (G : Nat → Bool) (len : Nat)
def Walk : Nat → List Nat → Prop
 | _, [] => True
 | s, k :: w => k < len ∧ G (nb s k) = true ∧ Walk (nb s k) w
def fin : Nat → List Nat → Nat
 | s, [] => s
 | s, k :: w => fin (nb s k) w
theorem fin_append : ∀ (s : Nat) (u v : List Nat), fin s (u ++ v) = fin (fin s u) v
 | _, [], _ => rfl
 | s, k :: u, v => fin_append (nb s k) u v
variable {G len}
theorem walk_append : ∀ {s : Nat} {u v : List Nat}, Walk G len s (u ++ v) ↔ Walk G len s u ∧ Walk G len (fin s u) v
 | _, [], _ => by simp [Walk, fin]
 | s, k :: u, v => by
  show (k < len ∧ G (nb s k) = true ∧ Walk G len (nb s k) (u ++ v)) ↔ _
  rw [walk_append]
  show _ ↔ (k < len ∧ G (nb s k) = true ∧ Walk G len (nb s k) u) ∧ _
  constructor
  ·
   rintro ⟨a, b, c, d⟩; exact ⟨⟨a, b, c⟩, d⟩
  ·
   rintro ⟨⟨a, b, c⟩, d⟩; exact ⟨a, b, c, d⟩
def Best (G : Nat → Bool) (len : Nat) (a t : Nat) (w : List Nat) : Prop := Walk G len a w ∧ fin a w = t ∧ ∀ v, Walk G len a v → fin a v = t → sle w v
end
/-! ### the search -/
def has (q : List (Nat × List Nat)) (s : Nat) : Bool := q.any fun p => p.1 == s
theorem has_true {q : List (Nat × List Nat)} {s : Nat} (h : has q s = true) : ∃ p ∈ q, p.1 = s := by
 obtain ⟨p, hp, e⟩ := List.any_eq_true.1 h
 exact ⟨p, hp, by simpa using e⟩
theorem has_false {q : List (Nat × List Nat)} {s : Nat} (h : has q s = false) : ∀ p ∈ q, p.1 ≠ s := fun p hp e => by
 have := List.any_eq_false.1 h p hp
 simp [e] at this
section
variable (G : Nat → Bool) (len : Nat)
def stp (s : Nat) (w : List Nat) (k : Nat) (q : List (Nat × List Nat)) : List (Nat × List Nat) := if G (nb s k) = true ∧ has q (nb s k) = false then q ++ [(nb s k, w ++ [k])] else q
def inn (s : Nat) (w : List Nat) : List Nat → List (Nat × List Nat) → List (Nat × List Nat)
 | [], q => q
 | k :: ks, q => inn s w ks (stp G s w k q)
def bfs : Nat → Nat → List (Nat × List Nat) → List (Nat × List Nat)
 | 0, _, q => q
 | f + 1, i, q => if h : i < q.length then bfs f (i + 1) (inn G q[i].1 q[i].2 (List.range len) q) else q
def Dn (i k j k' : Nat) : Prop := j < i ∨ (j = i ∧ k' < k)
structure Inv (a i k : Nat) (q : List (Nat × List Nat)) : Prop where
 first : (a, []) ∈ q
 walk : ∀ p ∈ q, Walk G len a p.2 ∧ fin a p.2 = p.1
 good : ∀ p ∈ q, p.1 < 2 ^ len ∧ G p.1 = true
 nodup : (q.map Prod.fst).Nodup
 sorted : q.Pairwise fun p r => sl p.2 r.2
 short : ∀ j (h : j < q.length), q[j].2.length ≤ j
 done : ∀ j k', Dn i k j k' → (h : j < q.length) → k' < len → G (nb q[j].1 k') = true → ∃ p ∈ q, p.1 = nb q[j].1 k' ∧ sle p.2 (q[j].2 ++ [k'])
 old : ∀ p ∈ q, p.2 = [] ∨ ∃ j k', ∃ h : j < q.length, p.2 = q[j].2 ++ [k'] ∧ k' < len ∧ Dn i k j k'
 here : i ≤ q.length
variable {G len}
variable {a i k : Nat} {q : List (Nat × List Nat)}
theorem Inv.start (ha : a < 2 ^ len) (hg : G a = true) : Inv G len a 0 0 [(a, [])] where
 first := by simp
 walk := fun p hp => by rw [List.mem_singleton] at hp; subst hp; exact ⟨trivial, rfl⟩
 good := fun p hp => by rw [List.mem_singleton] at hp; subst hp; exact ⟨ha, hg⟩
 nodup := by simp
 sorted := by simp
 short := fun j h => by simp at h; subst h; simp
 done := fun j k' h => by rcases h with h | ⟨_, h⟩ <;> omega
 old := fun p hp => by rw [List.mem_singleton] at hp; subst hp; exact .inl rfl
 here := by simp
theorem Inv.below (h : Inv G len a i k q) (hi : i < q.length) : ∀ p ∈ q, sl p.2 (q[i].2 ++ [k]) := fun p hp => by
 rcases h.old p hp with e | ⟨j, k', hj, e, _, hd⟩
 ·
  rw [e]; exact sl_nil _ _
 ·
  rw [e]
  rcases hd with hd | ⟨rfl, hd⟩
  ·
   exact sl_snoc _ _ (List.pairwise_iff_getElem.1 h.sorted j i hj hi hd)
  ·
   exact .inr ⟨by simp, lx_same hd⟩
theorem Inv.step (h : Inv G len a i k q) (hi : i < q.length) (hk : k < len) : Inv G len a i (k + 1) (stp G q[i].1 q[i].2 k q) := by
 have hq := h.walk _ (List.getElem_mem hi)
 unfold stp
 by_cases hc : G (nb q[i].1 k) = true ∧ has q (nb q[i].1 k) = false
 ·
  rw [if_pos hc]
  have hmem : ∀ p, p ∈ q ++ [(nb q[i].1 k, q[i].2 ++ [k])] → p ∈ q ∨ p = (nb q[i].1 k, q[i].2 ++ [k]) := fun p hp => by
   rcases List.mem_append.1 hp with hp | hp
   ·
    exact .inl hp
   ·
    exact .inr (List.mem_singleton.1 hp)
  have hget : ∀ j (hj : j < q.length), (q ++ [(nb q[i].1 k, q[i].2 ++ [k])])[j]'(by simp; omega) = q[j] := fun j hj => List.getElem_append_left hj
  refine ⟨List.mem_append_left _ h.first, fun p hp => ?_, fun p hp => ?_, ?_, ?_, fun j hj => ?_, fun j k' hd hj hk' hg => ?_, fun p hp => ?_, by simp; omega⟩
  ·
   rcases hmem p hp with hp | rfl
   ·
    exact h.walk p hp
   ·
    refine ⟨walk_append.2 ⟨hq.1, ?_⟩, ?_⟩
    ·
     rw [hq.2]; exact ⟨hk, hc.1, trivial⟩
    ·
     show fin a (q[i].2 ++ [k]) = _
     rw [fin_append, hq.2]; rfl
  ·
   rcases hmem p hp with hp | rfl
   ·
    exact h.good p hp
   ·
    exact ⟨nb_lt (h.good _ (List.getElem_mem hi)).1 hk, hc.1⟩
  ·
   rw [List.map_append]
   refine List.nodup_append.2 ⟨h.nodup, by simp, fun x hx y hy e => ?_⟩
   obtain ⟨p, hp, rfl⟩ := List.mem_map.1 hx
   simp at hy
   exact has_false hc.2 p hp (e.trans hy)
  ·
   refine List.pairwise_append.2 ⟨h.sorted, by simp, fun p hp r hr => ?_⟩
   rw [List.mem_singleton] at hr; subst hr
   exact h.below hi p hp
  ·
   by_cases hjq : j < q.length
   ·
    rw [hget j hjq]; exact h.short j hjq
   ·
    have : j = q.length := by simp at hj; omega
    subst this
    rw [List.getElem_append_right (Nat.le_refl _)]
    have := h.short i hi
    simp
    omega
  ·
   have hjq : j < q.length := by
    rcases hd with hd | ⟨rfl, _⟩ <;> omega
   rw [hget j hjq] at hg ⊢
   by_cases e : j = i ∧ k' = k
   ·
    obtain ⟨rfl, rfl⟩ := e
    exact ⟨_, List.mem_append_right _ (List.mem_singleton.2 rfl), rfl, .inl rfl⟩
   ·
    obtain ⟨p, hp, h1, h2⟩ := h.done j k' (hd.elim .inl (fun hd => .inr ⟨hd.1, by omega⟩)) hjq hk' hg
    exact ⟨p, List.mem_append_left _ hp, h1, h2⟩
  ·
   rcases hmem p hp with hp | rfl
   ·
    rcases h.old p hp with e | ⟨j, k', hj, e, h1, hd⟩
    ·
     exact .inl e
    ·
     refine .inr ⟨j, k', by simp; omega, by rw [hget j hj]; exact e, h1, ?_⟩
     rcases hd with hd | ⟨hd, hd'⟩
     ·
      exact .inl hd
     ·
      exact .inr ⟨hd, by omega⟩
   ·
    exact .inr ⟨i, k, by simp; omega, by rw [hget i hi], hk, .inr ⟨rfl, by omega⟩⟩
 ·
  rw [if_neg hc]
  refine ⟨h.first, h.walk, h.good, h.nodup, h.sorted, h.short, fun j k' hd hj hk' hg => ?_, fun p hp => ?_, h.here⟩
  ·
   by_cases e : j = i ∧ k' = k
   ·
    obtain ⟨rfl, rfl⟩ := e
    have ht : has q (nb q[j].1 k') = true := by
     cases hh : has q (nb q[j].1 k') with
     | true => rfl
     | false => exact absurd ⟨hg, hh⟩ hc
    obtain ⟨p, hp, h1⟩ := has_true ht
    exact ⟨p, hp, h1, .inr (h.below hi p hp)⟩
   ·
    exact h.done j k' (hd.elim .inl (fun hd => .inr ⟨hd.1, by omega⟩)) hj hk' hg
  ·
   rcases h.old p hp with e | ⟨j, k', hj, e, h1, hd⟩
   ·
    exact .inl e
   ·
    refine .inr ⟨j, k', hj, e, h1, ?_⟩
    rcases hd with hd | ⟨hd, hd'⟩
    ·
     exact .inl hd
    ·
     exact .inr ⟨hd, by omega⟩
theorem stp_keeps (s : Nat) (w : List Nat) (k : Nat) (q : List (Nat × List Nat)) (j : Nat) (hj : j < q.length) : ∃ h : j < (stp G s w k q).length, (stp G s w k q)[j] = q[j] := by
 unfold stp
 split
 ·
  exact ⟨by simp; omega, List.getElem_append_left hj⟩
 ·
  exact ⟨hj, rfl⟩
theorem Inv.inn : ∀ (d k : Nat) (q : List (Nat × List Nat)) (s : Nat) (w : List Nat), k + d = len → Inv G len a i k q → (∃ hi : i < q.length, q[i] = (s, w)) → Inv G len a i len (inn G s w (List.range' k d) q)
 | 0, k, q, s, w, hd, h, _ => by
  obtain rfl : k = len := by omega
  exact h
 | d + 1, k, q, s, w, hd, h, ⟨hi, e⟩ => by
  rw [List.range'_succ]
  have h1 := h.step hi (by omega)
  rw [e] at h1
  obtain ⟨h2, h3⟩ := stp_keeps (G := G) s w k q i hi
  exact Inv.inn d (k + 1) _ s w (by omega) h1 ⟨h2, h3.trans e⟩
theorem Inv.next (h : Inv G len a i len q) (hi : i < q.length) : Inv G len a (i + 1) 0 q :=
 ⟨h.first, h.walk, h.good, h.nodup, h.sorted, h.short, fun j k' hd hj hk' hg => h.done j k' (by
   rcases hd with hd | ⟨_, hd⟩
   ·
    by_cases e : j = i
    ·
     exact .inr ⟨e, hk'⟩
    ·
     exact .inl (by omega)
   ·
    omega) hj hk' hg, fun p hp => by
  rcases h.old p hp with e | ⟨j, k', hj, e, h1, hd⟩
  ·
   exact .inl e
  ·
   refine .inr ⟨j, k', hj, e, h1, .inl ?_⟩
   rcases hd with hd | ⟨hd, _⟩ <;> omega, by omega⟩
theorem Inv.round (h : Inv G len a i 0 q) (hi : i < q.length) : Inv G len a (i + 1) 0 (Bfs.inn G q[i].1 q[i].2 (List.range len) q) := by
 rw [List.range_eq_range']
 have h1 := Inv.inn len 0 q q[i].1 q[i].2 (by omega) h ⟨hi, rfl⟩
 refine h1.next ?_
 have : ∀ (ks : List Nat) (q' : List (Nat × List Nat)) (s : Nat) (w : List Nat), q'.length ≤ (Bfs.inn G s w ks q').length := by
  intro ks
  induction ks with
  | nil => intro q' s w; exact Nat.le_refl _
  | cons k ks ih =>
   intro q' s w
   refine Nat.le_trans ?_ (ih _ s w)
   unfold stp
   split
   ·
    simp
   ·
    exact Nat.le_refl _
 exact Nat.lt_of_lt_of_le hi (this _ _ _ _)
theorem nodup_le : ∀ (n : Nat) (l : List Nat), l.Nodup → (∀ x ∈ l, x < n) → l.length ≤ n
 | 0, l, _, h => by
  cases l with
  | nil => exact Nat.le_refl _
  | cons x l => exact absurd (h x (by simp)) (by omega)
 | n + 1, l, hn, h => by
  have h1 := nodup_le n (l.filter fun x => decide (x ≠ n)) (hn.filter _) (fun x hx => by
   obtain ⟨h1, h2⟩ := List.mem_filter.1 hx
   have := h x h1
   simp at h2
   omega)
  have h2 : l.length ≤ (l.filter fun x => decide (x ≠ n)).length + 1 := by
   clear h1 h
   induction l with
   | nil => simp
   | cons y l ih =>
    obtain ⟨h3, h4⟩ := List.nodup_cons.1 hn
    by_cases e : y = n
    ·
     subst e
     have : (l.filter fun x => decide (x ≠ y)) = l := List.filter_eq_self.2 (fun x hx => by simp; exact fun e => h3 (e ▸ hx))
     rw [List.filter_cons_of_neg (by simp), this]
     simp
    ·
     have := ih h4
     rw [List.filter_cons_of_pos (by simpa using e)]
     simp only [List.length_cons]
     omega
  omega
theorem Inv.size (h : Inv G len a i k q) : q.length ≤ 2 ^ len := by
 have := nodup_le (2 ^ len) (q.map Prod.fst) h.nodup (fun x hx => by
  obtain ⟨p, hp, rfl⟩ := List.mem_map.1 hx
  exact (h.good p hp).1)
 simpa using this
theorem Inv.bfs : ∀ (f i : Nat) (q : List (Nat × List Nat)), Inv G len a i 0 q → 2 ^ len < f + i → Inv G len a (bfs G len f i q).length 0 (bfs G len f i q)
 | 0, i, q, h, hf => by
  have := h.size; have := h.here; omega
 | f + 1, i, q, h, hf => by
  rw [Bfs.bfs]
  by_cases hi : i < q.length
  ·
   rw [dif_pos hi]
   exact Inv.bfs f (i + 1) _ (h.round hi) (by omega)
  ·
   rw [dif_neg hi]
   obtain rfl : i = q.length := by have := h.here; omega
   exact h
theorem Inv.uniq (h : Inv G len a i k q) {p r : Nat × List Nat} (hp : p ∈ q) (hr : r ∈ q) (e : p.1 = r.1) : p = r := by
 obtain ⟨j, hj, rfl⟩ := List.mem_iff_getElem.1 hp
 obtain ⟨j', hj', rfl⟩ := List.mem_iff_getElem.1 hr
 have : j = j' := by
  have h1 := List.pairwise_iff_getElem.1 h.nodup
  rcases Nat.lt_trichotomy j j' with hl | hl | hl
  ·
   exact absurd (by rw [List.getElem_map, List.getElem_map]; exact e) (h1 j j' (by simpa using hj) (by simpa using hj') hl)
  ·
   exact hl
  ·
   exact absurd (by rw [List.getElem_map, List.getElem_map]; exact e.symm) (h1 j' j (by simpa using hj') (by simpa using hj) hl)
 subst this; rfl
end
/-! ### how far -/
def far (q : List (Nat × List Nat)) (s : Nat) : Int := match q.find? (fun p => p.1 == s) with | some p => (p.2.length : Int) | none => -1
theorem far_cases (q : List (Nat × List Nat)) (s : Nat) : (∃ p ∈ q, p.1 = s ∧ far q s = (p.2.length : Int)) ∨ ((∀ p ∈ q, p.1 ≠ s) ∧ far q s = -1) := by
 unfold far
 cases hf : q.find? (fun p => p.1 == s) with
 | some p =>
  have h1 := List.find?_some (p := fun (p : Nat × List Nat) => p.1 == s) hf
  exact .inl ⟨p, List.mem_of_find?_eq_some hf, by simpa using h1, rfl⟩
 | none =>
  refine .inr ⟨fun p hp e => ?_, rfl⟩
  have := List.find?_eq_none.1 hf p hp
  simp [e] at this
section
variable {G : Nat → Bool} {len t : Nat} {q : List (Nat × List Nat)}
end
end Go.Proofs.YtoilhnmdemnknaaDoor.Plain.Bfs

/- The program's search and the reference's: both are the one breadth first search. -/
namespace Go.Proofs.YtoilhnmdemnknaaDoor.Plain
set_option linter.unusedVariables false
set_option linter.unusedSimpArgs false
open Go.RowKit Go.Proofs.YtoilhnmdemnknaaDoor.XFeed Go.Proofs.YtoilhnmdemnknaaDoorW.PrintWords Go.Proofs.YtoilhnmdemnknaaDoorW.PrintLast Go.Proofs.YtoilhnmdemnknaaDoorW.PrintMore
open Bfs (nb Walk fin Best Inv bfs inn stp has far)

def toI (q : List (Nat × List Nat)) : List (Int × List Int) := q.map fun p => ((p.1 : Int), p.2.map fun k : Nat => (k : Int))
theorem toI_len (q : List (Nat × List Nat)) : (toI q).length = q.length := by simp [toI]
theorem toI_has (q : List (Nat × List Nat)) (s : Nat) : hasKey (toI q) (s : Int) = has q s := by
 unfold hasKey has toI
 rw [List.any_map]
 congr 1
 funext p
 show ((p.1 : Int) == (s : Int)) = (p.1 == s)
 rw [Bool.eq_iff_iff, beq_iff_eq, beq_iff_eq]
 constructor <;> intro e <;> omega
section
variable {n : Nat} {sw : List S69} {fe : List S71} (h : GridOk (n : Int) sw fe) {keep : List Int}
include h
theorem inner_val {s : Nat} (hs : s < 2 ^ sw.length) (w : List Nat) (hw : w.length < 100000) : ∀ (d k : Nat) (q : List (Nat × List Nat)), k + d ≤ sw.length → q.length + d < 1000000 →
  feed_rule_reach.inner ((List.range' k d).map (stepOf sw n fe keep s)) (k : Int) (w.map fun k : Nat => (k : Int)) (toI q) = some (toI (inn (goodB sw n fe keep) s w (List.range' k d) q)) := by
 have hp := pow_le10 h
 intro d
 induction d with
 | zero => intro k q _ _; rfl
 | succ d ih =>
  intro k q hk hq
  rw [List.range'_succ, List.map_cons, feed_rule_reach.inner]
  have ht : nb s k < 2 ^ sw.length := Bfs.nb_lt hs (by omega)
  have hwf : feed_rule_reach.wf (stepOf sw n fe keep s k) := by
   unfold feed_rule_reach.wf stepOf
   have : s ^^^ 2 ^ k < 2 ^ sw.length := ht
   split <;> omega
  rw [if_pos ⟨hwf, by rw [toI_len]; omega, by rw [List.length_map]; omega⟩]
  have hk1 : (k : Int) + 1 = ((k + 1 : Nat) : Int) := by omega
  show _ = some (toI (inn _ s w (List.range' (k + 1) d) (stp _ s w k q)))
  have hsl : (stp (goodB sw n fe keep) s w k q).length ≤ q.length + 1 := by unfold stp; split <;> simp
  rw [hk1]
  have ih' := ih (k + 1) (stp (goodB sw n fe keep) s w k q) (by omega) (by omega)
  by_cases hg : goodB sw n fe keep (nb s k) = true
  ·
   have e : stepOf sw n fe keep s k = ((nb s k : Nat) : Int) := by unfold stepOf; exact if_pos hg
   rw [e, toI_has]
   cases hh : has q (nb s k) with
   | true =>
    rw [if_neg (by simp)]
    have e2 : stp (goodB sw n fe keep) s w k q = q := by unfold stp; rw [if_neg (by rw [hh]; simp)]
    rw [e2] at ih' ⊢
    exact ih'
   | false =>
    rw [if_pos ⟨by omega, rfl⟩]
    have e2 : stp (goodB sw n fe keep) s w k q = q ++ [(nb s k, w ++ [k])] := by unfold stp; rw [if_pos ⟨hg, hh⟩]
    rw [e2] at ih' ⊢
    rw [← ih']
    simp [toI]
  ·
   have e : stepOf sw n fe keep s k = -1 := by unfold stepOf; exact if_neg hg
   rw [e, if_neg (by omega)]
   have e2 : stp (goodB sw n fe keep) s w k q = q := by unfold stp; rw [if_neg (fun e => hg e.1)]
   rw [e2] at ih' ⊢
   exact ih'
variable (hk : KeepOk (n : Int) keep)
include hk
theorem reach_go {a : Nat} : ∀ (f i : Nat) (q : List (Nat × List Nat)), Inv (goodB sw n fe keep) sw.length a i 0 q → 2 ^ sw.length < f + i →
  Ev (fun k => feed_rule_reach.go k (n : Int) sw fe keep i (toI q)) (toI (bfs (goodB sw n fe keep) sw.length f i q)) := by
 have hp := pow_le10 h
 have hlen := h.2.2.1
 intro f
 induction f with
 | zero => intro i q hi hf; have := hi.size; have := hi.here; omega
 | succ f ih =>
  intro i q hi hf
  refine Ev.step (fun k => by rw [feed_rule_reach.go]) ?_
  rw [bfs]
  by_cases hl : i < q.length
  ·
   have hl' : i < (toI q).length := by rw [toI_len]; exact hl
   simp only [dif_pos hl', dif_pos hl]
   have e : (toI q)[i] = ((q[i].1 : Int), q[i].2.map fun k : Nat => (k : Int)) := by simp [toI]
   rw [e]
   have hgd := hi.good _ (List.getElem_mem hl)
   refine Ev.bind (steps_val h hk hgd.1) ?_
   have h1 := inner_val h hgd.1 (keep := keep) q[i].2 (by have := hi.short i hl; have := hi.size; omega) sw.length 0 q (by omega) (by have := hi.size; omega)
   unfold stepsL
   rw [List.range_eq_range']
   rw [show ((0 : Nat) : Int) = 0 from rfl] at h1
   rw [h1]
   have h2 := ih (i + 1) _ (hi.round hl) (by omega)
   rw [List.range_eq_range'] at h2
   exact ev_some h2
  ·
   have hl' : ¬ i < (toI q).length := by rw [toI_len]; exact hl
   simp only [dif_neg hl', dif_neg hl]
   exact Ev.now _
end
noncomputable def search (sw : List S69) (n : Nat) (fe : List S71) (keep : List Int) (a : Nat) : List (Nat × List Nat) := bfs (goodB sw n fe keep) sw.length (2 ^ sw.length + 1) 0 [(a, [])]
theorem search_inv {n : Nat} {sw : List S69} {fe : List S71} {keep : List Int} {a : Nat} (ha : a < 2 ^ sw.length) (hg : goodB sw n fe keep a = true) :
  Inv (goodB sw n fe keep) sw.length a (search sw n fe keep a).length 0 (search sw n fe keep a) := Inv.bfs _ _ _ (Inv.start ha hg) (by omega)
theorem reach_val {n : Nat} {sw : List S69} {fe : List S71} (h : GridOk (n : Int) sw fe) {keep : List Int} (hk : KeepOk (n : Int) keep) {a : Nat} (ha : a < 2 ^ sw.length) (hg : goodB sw n fe keep a = true) :
  Ev (fun k => feed_rule_reach.f k (n : Int) sw fe keep (a : Int)) (toI (search sw n fe keep a)) := by
 have hp := pow_le10 h
 unfold feed_rule_reach.f
 exact ev_pos (by unfold feed_rule_reach.wf; omega) (reach_go h hk (2 ^ sw.length + 1) 0 [(a, [])] (Inv.start ha hg) (by omega))

/-! ### the reference's search -/
def arr {α : Type} (g : Nat → α) (m : Nat) : List α := (List.range m).map g
theorem arr_len {α : Type} (g : Nat → α) (m : Nat) : (arr g m).length = m := by simp [arr]
theorem arr_rd (g : Nat → Int) {m j : Nat} (hj : j < m) : rd (arr g m) (j : Int) = g j := by simp [rd, arr, List.getD_eq_getElem?_getD, hj]
theorem arr_rdb (g : Nat → Bool) {m j : Nat} (hj : j < m) : rdOf false (arr g m) (j : Int) = g j := by simp [rdOf, arr, List.getD_eq_getElem?_getD, hj]
theorem arr_set {α : Type} (g : Nat → α) (m j : Nat) (v : α) : (arr g m).set j v = arr (fun x => if x = j then v else g x) m := by
 apply List.ext_getElem?
 intro i
 rw [List.getElem?_set]
 simp only [arr, List.getElem?_map, List.length_map, List.length_range]
 by_cases hi : i < m
 ·
  rw [List.getElem?_range hi]
  by_cases e : j = i
  ·
   subst e; simp [hi]
  ·
   simp [e, Ne.symm e]
 ·
  rw [List.getElem?_eq_none (by simpa using hi)]
  by_cases e : j = i
  ·
   subst e; simp [hi]
  ·
   simp [e]
theorem arr_snoc {α : Type} (g : Nat → α) (m : Nat) : arr g m ++ [g m] = arr g (m + 1) := by simp [arr, List.range_succ]
theorem arr_congr {α : Type} {g g' : Nat → α} {m : Nat} (e : ∀ j, j < m → g j = g' j) : arr g m = arr g' m := List.map_congr_left (fun j hj => e j (List.mem_range.1 hj))
theorem far_snoc {q : List (Nat × List Nat)} {t : Nat} {w : List Nat} (hh : has q t = false) : far (q ++ [(t, w)]) = fun x => if x = t then (w.length : Int) else far q x := by
 funext x
 unfold far
 rw [List.find?_append]
 by_cases e : x = t
 ·
  subst e
  rw [if_pos rfl]
  have : q.find? (fun p => p.1 == x) = none := List.find?_eq_none.2 (fun p hp => by simpa using Bfs.has_false hh p hp)
  rw [this]
  simp
 ·
  rw [if_neg e]
  cases q.find? (fun p => p.1 == x) with
  | some p => rfl
  | none => simp [show ¬ t = x from fun e' => e e'.symm]
def stsI (q : List (Nat × List Nat)) : List Int := q.map fun p => (p.1 : Int)
theorem stsI_len (q : List (Nat × List Nat)) : (stsI q).length = q.length := by simp [stsI]
theorem stsI_rd {q : List (Nat × List Nat)} {i : Nat} (hi : i < q.length) : rd (stsI q) (i : Int) = (q[i].1 : Int) := by simp [rd, stsI, List.getD_eq_getElem?_getD, hi]
section
variable {n : Nat} {sw : List S69} {fe : List S71} (h : GridOk (n : Int) sw fe) {keep : List Int} (hk : KeepOk (n : Int) keep) (hkl : keep.length ≤ 4000000000000000000)
include h hk hkl
theorem good_go : ∀ (d i : Nat), i + d = 2 ^ sw.length → Ev (fun k => dropperref05_good.l0 k keep (arr (goodB sw n fe keep) i) (i : Int) (n : Int) sw fe) (arr (goodB sw n fe keep) (2 ^ sw.length)) := by
 have hp := pow_le10 h
 have hlen := h.2.2.1
 intro d
 induction d with
 | zero =>
  intro i hi
  obtain rfl : i = 2 ^ sw.length := by omega
  refine Ev.step (fun k => by rw [dropperref05_good.l0]) ?_
  rw [shl_one _ (by omega)]
  exact ev_neg (by omega) (Ev.now _)
 | succ d ih =>
  intro i hi
  have h1 := ih (i + 1) (by omega)
  have gv := good_val h hk hkl (i : Int)
  rw [decide_eq_true (show 0 ≤ (i : Int) ∧ (i : Int) < ((2 ^ sw.length : Nat) : Int) by omega), Bool.true_and, Int.toNat_natCast] at gv
  refine Ev.step (fun k => by rw [dropperref05_good.l0]) ?_
  rw [shl_one _ (by omega), wrap_succ i (by omega), arr_len]
  refine ev_pos (by omega) (Ev.bind gv (ev_pos (by omega) ?_))
  rw [arr_snoc]
  exact h1
theorem rgood_val : Ev (fun k => dropperref05_good.f k (n : Int) sw fe keep) (arr (goodB sw n fe keep) (2 ^ sw.length)) := by
 unfold dropperref05_good.f
 exact good_go h hk hkl (2 ^ sw.length) 0 (by omega)
end
theorem far_mem {G : Nat → Bool} {len a i k : Nat} {q : List (Nat × List Nat)} (hi : Inv G len a i k q) {p : Nat × List Nat} (hp : p ∈ q) : far q p.1 = (p.2.length : Int) := by
 rcases Bfs.far_cases q p.1 with ⟨r, hr, e, e2⟩ | ⟨hn, _⟩
 ·
  rw [e2, hi.uniq hr hp e]
 ·
  exact absurd rfl (hn p hp)
theorem far_neg {q : List (Nat × List Nat)} {t : Nat} : far q t < 0 ↔ has q t = false := by
 rcases Bfs.far_cases q t with ⟨r, hr, e, e2⟩ | ⟨hn, e⟩
 ·
  rw [e2]
  constructor
  ·
   intro h; omega
  ·
   intro hh; exact absurd e (Bfs.has_false hh r hr)
 ·
  rw [e]
  refine ⟨fun _ => List.any_eq_false.2 (fun p hp => by simpa using hn p hp), fun _ => by omega⟩
section
variable {n : Nat} {sw : List S69} {fe : List S71} (h : GridOk (n : Int) sw fe) {keep : List Int}
include h
theorem steps_l2 {a i : Nat} {R : List Int} {s : Nat} {w : List Nat} : ∀ (d k : Nat) (q : List (Nat × List Nat)), k + d = sw.length → Inv (goodB sw n fe keep) sw.length a i k q → (∃ hi : i < q.length, q[i] = (s, w)) →
  Ev (fun κ => dropperref05_steps.l1 κ (arr (goodB sw n fe keep) (2 ^ sw.length)) (arr (far (inn (goodB sw n fe keep) s w (List.range' k d) q)) (2 ^ sw.length)) (stsI (inn (goodB sw n fe keep) s w (List.range' k d) q)) ((i + 1 : Nat) : Int) (n : Int) sw fe) R →
  Ev (fun κ => dropperref05_steps.l2 κ (arr (goodB sw n fe keep) (2 ^ sw.length)) (arr (far q) (2 ^ sw.length)) (stsI q) (i : Int) (k : Int) (n : Int) sw fe) R := by
 have hp := pow_le10 h
 have hlen := h.2.2.1
 intro d
 induction d with
 | zero =>
  intro k q hkd hi hs hR
  have := hi.size
  have := hi.here
  obtain rfl : k = sw.length := by omega
  refine Ev.step (fun k => by rw [dropperref05_steps.l2]) ?_
  rw [wrap_succ i (by omega)]
  exact ev_neg (by omega) hR
 | succ d ih =>
  intro k q hkd hi ⟨hl, hs⟩ hR
  have hsz := hi.size
  have hmem : (s, w) ∈ q := hs ▸ List.getElem_mem hl
  have hgd := hi.good _ hmem
  have hst : s < 2 ^ sw.length := hgd.1
  have ht : nb s k < 2 ^ sw.length := Bfs.nb_lt hst (by omega)
  have hrs : rd (stsI q) (i : Int) = (s : Int) := by rw [stsI_rd hl, hs]
  have hst1 := hi.step hl (show k < sw.length by omega)
  rw [hs] at hst1
  obtain ⟨hl2, hs2⟩ := Bfs.stp_keeps (G := goodB sw n fe keep) s w k q i hl
  have h1 := ih (k + 1) _ (by omega) hst1 ⟨hl2, hs2.trans hs⟩ hR
  refine Ev.step (fun κ => by rw [dropperref05_steps.l2]) ?_
  rw [hrs, flip_i (by omega) (by omega), show s ^^^ 2 ^ k = nb s k from rfl, wrap_succ k (by omega), stsI_len, arr_len, arr_len, arr_rdb _ ht, arr_rd _ ht, arr_rd _ hst, Int.toNat_natCast]
  refine ev_pos (by omega) (ev_pos (by omega) (ev_pos (by omega) (ev_pos (by omega) (ev_pos (by omega) (ev_pos (by omega) ?_)))))
  cases hg : goodB sw n fe keep (nb s k) with
  | true =>
   refine ev_pos rfl (ev_pos (by omega) ?_)
   cases hh : has q (nb s k) with
   | true =>
    have e2 : stp (goodB sw n fe keep) s w k q = q := by unfold stp; rw [if_neg (by rw [hh]; simp)]
    rw [e2] at h1
    exact ev_neg (fun e => by rw [far_neg.1 e] at hh; cases hh) h1
   | false =>
    have e2 : stp (goodB sw n fe keep) s w k q = q ++ [(nb s k, w ++ [k])] := by unfold stp; rw [if_pos ⟨hg, hh⟩]
    have hfm : far q s = (w.length : Int) := far_mem hi hmem
    have hwl : w.length ≤ i := by have := hi.short i hl; rw [hs] at this; exact this
    rw [e2, far_snoc hh] at h1
    refine ev_pos (far_neg.2 hh) (ev_pos (by omega) (ev_pos (by omega) (ev_pos (by omega) ?_)))
    rw [hfm, wrap_succ _ (by omega), arr_set]
    rw [show (w ++ [k]).length = w.length + 1 by simp, show stsI (q ++ [(nb s k, w ++ [k])]) = stsI q ++ [(nb s k : Int)] by simp [stsI]] at h1
    exact h1
  | false =>
   have e2 : stp (goodB sw n fe keep) s w k q = q := by unfold stp; rw [if_neg (by rw [hg]; simp)]
   rw [e2] at h1
   exact ev_neg (by simp) h1
theorem steps_l1 {a : Nat} : ∀ (f i : Nat) (q : List (Nat × List Nat)), Inv (goodB sw n fe keep) sw.length a i 0 q → 2 ^ sw.length < f + i →
  Ev (fun κ => dropperref05_steps.l1 κ (arr (goodB sw n fe keep) (2 ^ sw.length)) (arr (far q) (2 ^ sw.length)) (stsI q) (i : Int) (n : Int) sw fe) (arr (far (bfs (goodB sw n fe keep) sw.length f i q)) (2 ^ sw.length)) := by
 intro f
 induction f with
 | zero => intro i q hi hf; have := hi.size; have := hi.here; omega
 | succ f ih =>
  intro i q hi hf
  refine Ev.step (fun k => by rw [dropperref05_steps.l1]) ?_
  rw [bfs, stsI_len]
  by_cases hl : i < q.length
  ·
   rw [dif_pos hl]
   have h1 := ih (i + 1) _ (hi.round hl) (by omega)
   rw [List.range_eq_range'] at h1 ⊢
   exact ev_pos (by omega) (steps_l2 h sw.length 0 q (by omega) hi ⟨hl, rfl⟩ h1)
  ·
   rw [dif_neg hl]
   exact ev_neg (by omega) (Ev.now _)
theorem steps_start {g : Nat} (hg : g < 2 ^ sw.length) : ∀ (d i : Nat), i + d = 2 ^ sw.length →
  Ev (fun κ => dropperref05_steps.l0 κ (g : Int) (arr (goodB sw n fe keep) (2 ^ sw.length)) (arr (fun x => if x < i then -1 else 0) (2 ^ sw.length)) (i : Int) (n : Int) sw fe)
   (if goodB sw n fe keep g = true then arr (far (search sw n fe keep g)) (2 ^ sw.length) else arr (fun _ => -1) (2 ^ sw.length)) := by
 have hp := pow_le10 h
 intro d
 induction d with
 | zero =>
  intro i hi
  obtain rfl : i = 2 ^ sw.length := by omega
  refine Ev.step (fun k => by rw [dropperref05_steps.l0]) ?_
  have e : arr (fun x => if x < 2 ^ sw.length then (-1 : Int) else 0) (2 ^ sw.length) = arr (fun _ => -1) (2 ^ sw.length) := arr_congr (fun j hj => if_pos hj)
  rw [e, arr_len, arr_len, arr_rdb _ hg]
  refine ev_neg (by omega) (ev_pos (by omega) (ev_pos (by omega) ?_))
  by_cases hgd : goodB sw n fe keep g = true
  ·
   rw [if_pos hgd]
   refine ev_pos hgd (ev_pos (by omega) ?_)
   have h1 := steps_l1 h (keep := keep) (2 ^ sw.length + 1) 0 [(g, [])] (Inv.start hg hgd) (by omega)
   rw [Int.toNat_natCast, arr_set]
   have e2 : (fun x => if x = g then (0 : Int) else -1) = far [(g, [])] := by
    funext x
    unfold far
    by_cases ex : x = g
    ·
     subst ex; simp
    ·
     simp [ex, show ¬ g = x from fun e' => ex e'.symm]
   rw [e2]
   exact h1
  ·
   rw [if_neg hgd]
   exact ev_neg hgd (Ev.now _)
 | succ d ih =>
  intro i hi
  refine Ev.step (fun k => by rw [dropperref05_steps.l0]) ?_
  rw [arr_len, Int.toNat_natCast, arr_set, wrap_succ i (by omega)]
  refine ev_pos (by omega) (ev_pos (by omega) ?_)
  have h1 := ih (i + 1) (by omega)
  rw [arr_congr (g := fun x => if x < i + 1 then (-1 : Int) else 0) (g' := fun x => if x = i then -1 else if x < i then -1 else 0) (fun j hj => by
   by_cases e : j = i
   ·
    rw [if_pos e, if_pos (by omega)]
   ·
    rw [if_neg e]
    by_cases e2 : j < i
    ·
     rw [if_pos e2, if_pos (by omega)]
    ·
     rw [if_neg e2, if_neg (by omega)])] at h1
  exact h1
end
theorem rsteps_val {n : Nat} {sw : List S69} {fe : List S71} (h : GridOk (n : Int) sw fe) {keep : List Int} (hk : KeepOk (n : Int) keep) (hkl : keep.length ≤ 4000000000000000000) {g : Nat} (hg : g < 2 ^ sw.length) :
  Ev (fun κ => dropperref05_steps.f κ (n : Int) sw fe (g : Int) keep) (if goodB sw n fe keep g = true then arr (far (search sw n fe keep g)) (2 ^ sw.length) else arr (fun _ => -1) (2 ^ sw.length)) := by
 have hp := pow_le10 h
 unfold dropperref05_steps.f
 refine Ev.bind (rgood_val h hk hkl) ?_
 rw [arr_len, Int.toNat_natCast]
 refine ev_pos (by omega) (ev_pos (by omega) ?_)
 have e : List.replicate (2 ^ sw.length) (0 : Int) = arr (fun x => if x < 0 then (-1 : Int) else 0) (2 ^ sw.length) := by
  apply List.ext_getElem
  ·
   simp [arr_len]
  ·
   intro j h1 h2
   simp [arr]
 rw [e]
 exact steps_start h hg (2 ^ sw.length) 0 (by omega)
end Go.Proofs.YtoilhnmdemnknaaDoor.Plain

namespace Go.Proofs.YtoilhnmdemnknaaDoor.Plain
open Go.RowKit Go.Proofs.YtoilhnmdemnknaaDoor.XFeed Go.Proofs.YtoilhnmdemnknaaDoorW.PrintWords Go.Proofs.YtoilhnmdemnknaaDoorW.PrintLast Go.Proofs.YtoilhnmdemnknaaDoorW.PrintMore
theorem first_at : dropperlaw05_First.f 200 = some true := by kernel_rfl
theorem first_ev : Ev (fun k => dropperlaw05_First.f k) true := Ev.of (dropperlaw05_First.mono) first_at
end Go.Proofs.YtoilhnmdemnknaaDoor.Plain

/- The states that feed.Reach answers are those that the reference's search finds, and feed.IsShut answers as the reference does. No condition but the statement's own. -/
namespace Go.Proofs.YtoilhnmdemnknaaDoor.Pure
set_option linter.unusedVariables false
set_option linter.unusedSimpArgs false
open Go.RowKit Go.Proofs.YtoilhnmdemnknaaDoor.XFeed Go.Proofs.YtoilhnmdemnknaaDoorW.PrintWords Go.Proofs.YtoilhnmdemnknaaDoorW.PrintLast Go.Proofs.YtoilhnmdemnknaaDoorW.PrintMore
open Go.Proofs.YtoilhnmdemnknaaDoor.Plain
open Bfs (nb Walk fin Best Inv bfs inn stp has far)
open Classical

def found (q : List (Nat × List Nat)) (m : Nat) : List Int := ((List.range m).filter fun s => decide (0 ≤ far q s)).map fun s : Nat => (s : Int)
theorem found_len (q : List (Nat × List Nat)) (m : Nat) : (found q m).length ≤ m := by
 unfold found
 rw [List.length_map]
 exact Nat.le_trans (List.length_filter_le _ _) (by simp)
theorem reach_l0 {q : List (Nat × List Nat)} {m : Nat} (hm : m ≤ 1024) : ∀ (d i : Nat), i + d = m → Ev (fun k => dropperref05_Reach.l0 k (arr (far q) m) (found q i) (i : Int)) (found q m, 0) := by
 intro d
 induction d with
 | zero =>
  intro i hi
  obtain rfl : i = m := by omega
  refine Ev.step (fun k => by rw [dropperref05_Reach.l0]) ?_
  rw [arr_len]
  exact ev_neg (by omega) (Ev.now _)
 | succ d ih =>
  intro i hi
  have h1 := ih (i + 1) (by omega)
  have hl := found_len q i
  refine Ev.step (fun k => by rw [dropperref05_Reach.l0]) ?_
  rw [arr_len, arr_rd _ (by omega), wrap_succ i (by omega)]
  refine ev_pos (by omega) (ev_pos (by omega) ?_)
  by_cases hf : 0 ≤ far q i
  ·
   have e : found q (i + 1) = found q i ++ [(i : Int)] := by simp [found, List.range_succ, List.filter_append, hf]
   rw [e] at h1
   exact ev_pos (by omega) (ev_pos (by omega) h1)
  ·
   have e : found q (i + 1) = found q i := by simp [found, List.range_succ, List.filter_append, hf]
   rw [e] at h1
   exact ev_neg (by omega) h1
theorem found_sorted {G : Nat → Bool} {len a : Nat} {q : List (Nat × List Nat)} (h : Inv G len a q.length 0 q) : (((toI q).map Prod.fst).mergeSort fun x y => decide (x ≤ y)) = found q (2 ^ len) := by
 have hn1 : ((toI q).map Prod.fst).Nodup := by
  have e : (toI q).map Prod.fst = (q.map Prod.fst).map (fun s : Nat => (s : Int)) := by simp [toI]
  rw [e]
  exact List.pairwise_map.2 (h.nodup.imp (fun hne e => hne (by omega)))
 have hp2 : (found q (2 ^ len)).Pairwise (fun x y => x < y) := by
  unfold found
  exact List.pairwise_map.2 ((List.pairwise_lt_range.filter _).imp (fun hl => by omega))
 have hn2 : (found q (2 ^ len)).Nodup := hp2.imp (fun hl e => by omega)
 have hperm : ((toI q).map Prod.fst).Perm (found q (2 ^ len)) := by
  refine (List.perm_ext_iff_of_nodup hn1 hn2).2 fun x => ?_
  constructor
  ·
   intro hx
   obtain ⟨r, hr, rfl⟩ := List.mem_map.1 hx
   obtain ⟨p, hp, rfl⟩ := List.mem_map.1 hr
   refine List.mem_map.2 ⟨p.1, List.mem_filter.2 ⟨List.mem_range.2 (h.good p hp).1, ?_⟩, rfl⟩
   rw [decide_eq_true_eq, far_mem h hp]
   omega
  ·
   intro hx
   obtain ⟨s, hs, rfl⟩ := List.mem_map.1 hx
   obtain ⟨_, hf⟩ := List.mem_filter.1 hs
   rw [decide_eq_true_eq] at hf
   rcases Bfs.far_cases q s with ⟨p, hp, e, _⟩ | ⟨_, e⟩
   ·
    refine List.mem_map.2 ⟨_, List.mem_map.2 ⟨p, hp, rfl⟩, ?_⟩
    show (p.1 : Int) = _
    rw [e]
   ·
    omega
 rw [mergeSort_int_perm hperm]
 exact List.mergeSort_of_pairwise (hp2.imp (fun hl => by simp only [decide_eq_true_eq]; omega))
noncomputable def ansR (N : Int) (sw : List S69) (fe : List S71) (keep : List Int) (a : Int) : List Int × Int :=
 if begE N sw fe keep a = 0 then (found (search sw N.toNat fe keep a.toNat) (2 ^ sw.length), 0) else ([], begE N sw fe keep a)
theorem reachR_val (N : Int) (sw : List S69) (fe : List S71) (keep : List Int) (hkl : keep.length ≤ 4000000000000000000) (a : Int) :
  Ev (fun k => feed_Reach.f k N sw fe a keep) (ansR N sw fe keep a) ∧ Ev (fun k => dropperref05_Reach.f k N sw fe a keep) (ansR N sw fe keep a) ∧ (ansR N sw fe keep a).1.length ≤ 4000000000000000000 := by
 obtain ⟨r1, r2⟩ := ruled_val N sw fe keep hkl a
 unfold feed_Reach.f dropperref05_Reach.f ansR
 by_cases h : begE N sw fe keep a = 0
 ·
  have hz := h
  obtain ⟨n, s, rfl, rfl, hg, hk, hs, hgd⟩ := begE_nat h
  have hp := pow_le10 hg
  rw [if_pos hz, Int.toNat_natCast, Int.toNat_natCast]
  have hinv := search_inv (sw := sw) (n := n) (fe := fe) (keep := keep) hs hgd
  refine ⟨?_, ?_, ?_⟩
  ·
   refine Ev.bind r1 (ev_pos hz (Ev.bind (reach_val hg hk hs hgd) ?_))
   rw [found_sorted hinv]
   refine ev_pos ⟨?_, ?_, ?_⟩ (Ev.now _)
   ·
    intro e
    have h1 := hinv.first
    rw [List.map_eq_nil_iff.1 e] at h1
    cases h1
   ·
    have := hinv.size
    rw [toI_len]
    omega
   ·
    have e : (toI (search sw n fe keep s)).map Prod.fst = ((search sw n fe keep s).map Prod.fst).map (fun s : Nat => (s : Int)) := by simp [toI]
    rw [e]
    exact List.pairwise_map.2 (hinv.nodup.imp (fun hne e => hne (by omega)))
  ·
   refine Ev.bind r2 (ev_pos hz (Ev.bind (rsteps_val hg hk hkl hs) ?_))
   rw [if_pos hgd]
   have h1 := reach_l0 (q := search sw n fe keep s) (m := 2 ^ sw.length) (by omega) (2 ^ sw.length) 0 (by omega)
   exact h1
  ·
   exact Nat.le_trans (found_len _ _) (by omega)
 ·
  rw [if_neg h]
  exact ⟨Ev.bind r1 (ev_neg h (Ev.now _)), Ev.bind r2 (ev_neg h (Ev.now _)), Nat.zero_le _⟩

/-! ### shut sets -/
section
variable {n : Nat} {sw : List S69} {fe : List S71} (h : GridOk (n : Int) sw fe) {keep : List Int} (hk : KeepOk (n : Int) keep) (hkl : keep.length ≤ 4000000000000000000) {set : List Int} (hsl : set.length ≤ 4000000000000000000)
noncomputable def B1 (sw : List S69) (n : Nat) (fe : List S71) (keep : List Int) : Option Int → List Int → Bool
 | _, [] => true
 | p, s :: t => (decide (0 ≤ s ∧ s < ((2 ^ sw.length : Nat) : Int)) && goodB sw n fe keep s.toNat && !feed_IsShut.before p s) && B1 sw n fe keep (some s) t
noncomputable def bad (sw : List S69) (n : Nat) (fe : List S71) (keep set : List Int) (s : Nat) (ks : List Nat) : Bool := ks.any fun k => goodB sw n fe keep (nb s k) && !decide (((nb s k : Nat) : Int) ∈ set)
noncomputable def B2 (sw : List S69) (n : Nat) (fe : List S71) (keep set : List Int) (l : List Int) : Bool := l.all fun s => !bad sw n fe keep set s.toNat (List.range sw.length)
theorem B1_mem : ∀ {p : Option Int} {l : List Int}, B1 sw n fe keep p l = true → ∀ v ∈ l, 0 ≤ v ∧ v < ((2 ^ sw.length : Nat) : Int)
 | _, [], _, v, hv => by cases hv
 | p, s :: t, hb, v, hv => by
  rw [B1, Bool.and_eq_true, Bool.and_eq_true, Bool.and_eq_true, decide_eq_true_eq] at hb
  rcases List.mem_cons.1 hv with rfl | hv
  ·
   exact hb.1.1.1
  ·
   exact B1_mem hb.2 v hv
include h hk
theorem go1_val : ∀ (l : List Int) (p : Option Int), Ev (fun k => feed_IsShut.go1 k (n : Int) sw fe keep ((2 ^ sw.length : Nat) : Int) p l) (B1 sw n fe keep p l)
 | [], p => by unfold B1; exact Ev.congr (fun k => by rw [feed_IsShut.go1]) (Ev.now _)
 | s :: t, p => by
  have hp := pow_le10 h
  have hp0 : 0 < 2 ^ sw.length := Nat.two_pow_pos _
  have ih := go1_val t (some s)
  refine Ev.congr (fun k => by rw [feed_IsShut.go1]) ?_
  rw [wrap_id (by omega) (by omega), within_f, B1]
  by_cases hs : 0 ≤ s ∧ s < ((2 ^ sw.length : Nat) : Int)
  ·
   refine ev_some (ev_pos (decide_eq_true (by omega)) ?_)
   rw [decide_eq_true hs, Bool.true_and]
   cases hb : feed_IsShut.before p s with
   | true => rw [Bool.not_true, Bool.and_false, Bool.false_and]; exact ev_pos rfl (Ev.now _)
   | false =>
    obtain ⟨s, rfl⟩ := Int.eq_ofNat_of_zero_le hs.1
    rw [Bool.not_false, Bool.and_true, Int.toNat_natCast]
    refine ev_neg (by simp) (Ev.bind (keeps_val h hk (st := s) (by omega)) ?_)
    cases hg : goodB sw n fe keep s with
    | true => rw [Bool.true_and]; exact ev_pos rfl ih
    | false => rw [Bool.false_and]; exact ev_neg (by simp) (Ev.now _)
  ·
   rw [decide_eq_false hs, Bool.false_and, Bool.false_and, Bool.false_and]
   exact ev_some (ev_neg (by simp only [decide_eq_true_eq]; omega) (Ev.now _))
theorem go2_val : ∀ (l : List Int), (∀ v ∈ l, 0 ≤ v ∧ v < ((2 ^ sw.length : Nat) : Int)) → Ev (fun k => feed_IsShut.go2 k (n : Int) sw fe keep set l) (B2 sw n fe keep set l)
 | [], _ => by rw [show B2 sw n fe keep set [] = true from rfl]; exact Ev.congr (fun k => by rw [feed_IsShut.go2]) (Ev.now _)
 | s :: t, hl => by
  have hp := pow_le10 h
  have ih := go2_val t (fun v hv => hl v (List.mem_cons_of_mem _ hv))
  have hs := hl s (by simp)
  obtain ⟨s, rfl⟩ := Int.eq_ofNat_of_zero_le hs.1
  refine Ev.congr (fun k => by rw [feed_IsShut.go2]) ?_
  refine Ev.bind (steps_val h hk (st := s) (by omega)) ?_
  have e : (stepsL sw n fe keep s sw.length).any (feed_IsShut.p set) = bad sw n fe keep set s (List.range sw.length) := by
   unfold stepsL bad
   rw [List.any_map]
   congr 1
   funext k
   show feed_IsShut.p set (stepOf sw n fe keep s k) = _
   unfold feed_IsShut.p stepOf
   rw [show s ^^^ 2 ^ k = nb s k from rfl]
   cases hg : goodB sw n fe keep (nb s k) with
   | true =>
    rw [if_pos rfl, decide_eq_true (show (0 : Int) ≤ ((nb s k : Nat) : Int) by omega)]
   | false => rw [if_neg (by simp)]; rfl
  rw [e]
  have e2 : B2 sw n fe keep set ((s : Int) :: t) = (!bad sw n fe keep set s (List.range sw.length) && B2 sw n fe keep set t) := by unfold B2; rw [List.all_cons, Int.toNat_natCast]
  rw [e2]
  cases hb : bad sw n fe keep set s (List.range sw.length) with
  | true => exact ev_pos rfl (Ev.now _)
  | false => rw [Bool.not_false, Bool.true_and]; exact ev_neg (by simp) ih
include hkl
theorem shut_l2 {i : Nat} {s : Nat} (hsl : set.length ≤ 4000000000000000000) (hi : i < set.length) (hs : set[i] = (s : Int)) (hst : s < 2 ^ sw.length) {b : Bool} (hR : Ev (fun κ => dropperref05_IsShut.l1 κ keep set (arr (fun x => decide ((x : Int) ∈ set)) (2 ^ sw.length)) ((i + 1 : Nat) : Int) (n : Int) sw fe) (b, 0)) : ∀ (d k : Nat), k + d = sw.length →
  Ev (fun κ => dropperref05_IsShut.l2 κ keep set (arr (fun x => decide ((x : Int) ∈ set)) (2 ^ sw.length)) (i : Int) (k : Int) (n : Int) sw fe) (!bad sw n fe keep set s (List.range' k d) && b, 0) := by
 have hp := pow_le10 h
 have hlen := h.2.2.1
 intro d
 induction d with
 | zero =>
  intro k hkd
  refine Ev.step (fun κ => by rw [dropperref05_IsShut.l2]) ?_
  rw [wrap_succ i (by omega)]
  exact ev_neg (by omega) hR
 | succ d ih =>
  intro k hkd
  have ht : nb s k < 2 ^ sw.length := Bfs.nb_lt hst (by omega)
  have hrs : rd set (i : Int) = (s : Int) := by rw [rd_get hi]; exact hs
  have h1 := ih (k + 1) (by omega)
  have gv := good_val h hk hkl ((nb s k : Nat) : Int)
  rw [decide_eq_true (show 0 ≤ ((nb s k : Nat) : Int) ∧ ((nb s k : Nat) : Int) < ((2 ^ sw.length : Nat) : Int) by omega), Bool.true_and, Int.toNat_natCast] at gv
  refine Ev.step (fun κ => by rw [dropperref05_IsShut.l2]) ?_
  rw [hrs, flip_i (by omega) (by omega), show s ^^^ 2 ^ k = nb s k from rfl, arr_len, arr_rdb _ ht, wrap_succ k (by omega)]
  refine ev_pos (by omega) (ev_pos (by omega) (ev_pos (by omega) (ev_pos (by omega) (ev_pos (by omega) (ev_pos (by omega) ?_)))))
  have e2 : bad sw n fe keep set s (List.range' k (d + 1)) = ((goodB sw n fe keep (nb s k) && !decide (((nb s k : Nat) : Int) ∈ set)) || bad sw n fe keep set s (List.range' (k + 1) d)) := by
   unfold bad; rw [List.range'_succ, List.any_cons]
  rw [e2]
  by_cases hin : ((nb s k : Nat) : Int) ∈ set
  ·
   rw [decide_eq_true hin, Bool.not_true, Bool.and_false, Bool.false_or]
   exact ev_pos rfl h1
  ·
   rw [decide_eq_false hin, Bool.not_false, Bool.and_true]
   refine ev_neg (by simp) (Ev.bind gv ?_)
   cases hg : goodB sw n fe keep (nb s k) with
   | true => exact ev_pos rfl (Ev.now _)
   | false => rw [Bool.false_or]; exact ev_neg (by simp) h1
theorem shut_l1 (hsl : set.length ≤ 4000000000000000000) (hs : ∀ v ∈ set, 0 ≤ v ∧ v < ((2 ^ sw.length : Nat) : Int)) : ∀ (d i : Nat), i + d = set.length →
  Ev (fun κ => dropperref05_IsShut.l1 κ keep set (arr (fun x => decide ((x : Int) ∈ set)) (2 ^ sw.length)) (i : Int) (n : Int) sw fe) (B2 sw n fe keep set (set.drop i), 0) := by
 intro d
 induction d with
 | zero =>
  intro i hi
  refine Ev.step (fun κ => by rw [dropperref05_IsShut.l1]) ?_
  rw [List.drop_eq_nil_of_le (by omega)]
  exact ev_neg (by omega) (Ev.now _)
 | succ d ih =>
  intro i hi
  have hil : i < set.length := by omega
  have hv := hs _ (List.getElem_mem hil)
  obtain ⟨s, e⟩ := Int.eq_ofNat_of_zero_le hv.1
  refine Ev.step (fun κ => by rw [dropperref05_IsShut.l1]) ?_
  refine ev_pos (by omega) ?_
  have h2 := shut_l2 h hk hkl (s := s) hsl hil e (by omega) (ih (i + 1) (by omega)) sw.length 0 (by omega)
  rw [cons_of hil, e]
  have e2 : B2 sw n fe keep set ((s : Int) :: set.drop (i + 1)) = (!bad sw n fe keep set s (List.range sw.length) && B2 sw n fe keep set (set.drop (i + 1))) := by unfold B2; rw [List.all_cons, Int.toNat_natCast]
  rw [e2, List.range_eq_range']
  exact h2
omit h hk hkl in
theorem prev_cases (l : List Int) (i : Nat) (hi : i < l.length) : (i = 0 ∧ feed_IsShut.prev l (i : Int) = none) ∨ (0 < i ∧ feed_IsShut.prev l (i : Int) = some (rd l ((i - 1 : Nat) : Int))) := by
 unfold feed_IsShut.prev
 by_cases h0 : i = 0
 ·
  subst h0; exact .inl ⟨rfl, if_neg (by omega)⟩
 ·
  exact .inr ⟨by omega, by rw [if_pos (by omega), show (i : Int) - 1 = ((i - 1 : Nat) : Int) by omega]⟩
theorem shut_l0 (hsl : set.length ≤ 4000000000000000000) : ∀ (d i : Nat), i + d = set.length → (∀ v ∈ set.take i, 0 ≤ v ∧ v < ((2 ^ sw.length : Nat) : Int)) →
  Ev (fun κ => dropperref05_IsShut.l0 κ keep set (arr (fun x => decide ((x : Int) ∈ set.take i)) (2 ^ sw.length)) (i : Int) (n : Int) sw fe) (B1 sw n fe keep (feed_IsShut.prev set (i : Int)) (set.drop i) && B2 sw n fe keep set set, 0) := by
 have hp := pow_le10 h
 intro d
 induction d with
 | zero =>
  intro i hi hb
  obtain rfl : i = set.length := by omega
  rw [List.take_length] at hb ⊢
  refine Ev.step (fun κ => by rw [dropperref05_IsShut.l0]) ?_
  rw [List.drop_eq_nil_of_le (by omega), B1, Bool.true_and]
  have h1 := shut_l1 h hk hkl hsl hb set.length 0 (by omega)
  rw [List.drop_zero] at h1
  exact ev_neg (by omega) h1
 | succ d ih =>
  intro i hi hb
  have hil : i < set.length := by omega
  have gv := good_val h hk hkl set[i]
  have hrd := rd_get (l := set) hil
  refine Ev.step (fun κ => by rw [dropperref05_IsShut.l0]) ?_
  rw [hrd, cons_of hil, B1, wrap_succ i (by omega), arr_len]
  refine ev_pos (by omega) (ev_pos (by omega) (Ev.bind gv ?_))
  cases hg : (decide (0 ≤ set[i] ∧ set[i] < ((2 ^ sw.length : Nat) : Int)) && goodB sw n fe keep (set[i]).toNat) with
  | false => rw [Bool.false_and, Bool.false_and]; exact ev_neg (by simp) (Ev.now _)
  | true =>
   have hv : 0 ≤ set[i] ∧ set[i] < ((2 ^ sw.length : Nat) : Int) := by
    rw [Bool.and_eq_true, decide_eq_true_eq] at hg; exact hg.1
   have h1 := ih (i + 1) (by omega) (fun v hv2 => by
    rw [← List.take_append_getElem hil] at hv2
    rcases List.mem_append.1 hv2 with hv2 | hv2
    ·
     exact hb v hv2
    ·
     rw [List.mem_singleton] at hv2; subst hv2; exact hv)
   have hpv : feed_IsShut.prev set ((i + 1 : Nat) : Int) = some set[i] := by
    unfold feed_IsShut.prev
    rw [if_pos (by omega), show ((i + 1 : Nat) : Int) - 1 = (i : Int) by omega, hrd]
   rw [hpv] at h1
   have hset : (arr (fun x => decide ((x : Int) ∈ set.take i)) (2 ^ sw.length)).set (set[i]).toNat true = arr (fun x => decide ((x : Int) ∈ set.take (i + 1))) (2 ^ sw.length) := by
    rw [arr_set]
    refine arr_congr (fun j hj => ?_)
    rw [← List.take_append_getElem hil]
    by_cases e : j = (set[i]).toNat
    ·
     rw [if_pos e]
     symm
     exact decide_eq_true (List.mem_append_right _ (List.mem_singleton.2 (by omega)))
    ·
     rw [if_neg e, decide_eq_decide]
     constructor
     ·
      exact fun hm => List.mem_append_left _ hm
     ·
      intro hm
      rcases List.mem_append.1 hm with hm | hm
      ·
       exact hm
      ·
       rw [List.mem_singleton] at hm; omega
   rw [hset, Bool.true_and]
   refine ev_pos rfl ?_
   rcases prev_cases set i hil with ⟨h0, e⟩ | ⟨h0, e⟩
   ·
    rw [e, show feed_IsShut.before none set[i] = false from rfl, Bool.not_false, Bool.true_and]
    exact ev_neg (by omega) (ev_pos (by omega) (ev_pos (by omega) h1))
   ·
    rw [e, pred_nat (by omega) (by omega)]
    refine ev_pos (by omega) (ev_pos (by omega) (ev_pos (by omega) ?_))
    by_cases hle : set[i] ≤ rd set ((i - 1 : Nat) : Int)
    ·
     rw [show feed_IsShut.before (some (rd set ((i - 1 : Nat) : Int))) set[i] = true from decide_eq_true hle, Bool.not_true, Bool.false_and, Bool.false_and]
     exact ev_pos hle (Ev.now _)
    ·
     rw [show feed_IsShut.before (some (rd set ((i - 1 : Nat) : Int))) set[i] = false from decide_eq_false hle, Bool.not_false, Bool.true_and]
     exact ev_neg hle (ev_pos (by omega) (ev_pos (by omega) h1))
end
noncomputable def ansS (N : Int) (sw : List S69) (fe : List S71) (keep set : List Int) : Bool × Int :=
 if GridOk N sw fe then (if KeepOk N keep then (B1 sw N.toNat fe keep none set && B2 sw N.toNat fe keep set set, 0) else (false, 2)) else (false, 50)
theorem shut_val (N : Int) (sw : List S69) (fe : List S71) (keep : List Int) (hkl : keep.length ≤ 4000000000000000000) (set : List Int) (hsl : set.length ≤ 4000000000000000000) :
  Ev (fun k => feed_IsShut.f k N sw fe keep set) (ansS N sw fe keep set) ∧ Ev (fun k => dropperref05_IsShut.f k N sw fe keep set) (ansS N sw fe keep set) := by
 unfold feed_IsShut.f dropperref05_IsShut.f ansS
 rw [valid_f]
 by_cases hg : GridOk N sw fe
 ·
  have hrv := rvalid_ev N sw fe
  obtain ⟨n, rfl⟩ := Int.eq_ofNat_of_zero_le (show 0 ≤ N by have := hg.1; omega)
  have hn := hg.1
  have hn8 := hg.2.1
  have hlen := hg.2.2.1
  have hp := pow_le10 hg
  have hp0 : 0 < 2 ^ sw.length := Nat.two_pow_pos _
  have kv := kept_val n (by omega) sw fe keep hkl
  have iv := isKeep_val n sw fe keep hkl
  rw [if_pos hg, decide_eq_true hg, all_f _ _ _ hlen, Int.toNat_natCast]
  rw [decide_eq_true hg] at hrv
  by_cases hk : KeepOk (n : Int) keep
  ·
   rw [if_pos hk] at kv ⊢
   rw [decide_eq_true hk] at iv
   constructor
   ·
    refine ev_some (ev_pos rfl (Ev.bind kv (ev_pos rfl (ev_some (Ev.bind (go1_val hg hk set none) ?_)))))
    cases hb : B1 sw n fe keep none set with
    | true => exact ev_pos rfl (Ev.bind (go2_val hg hk set (B1_mem hb)) (Ev.now _))
    | false => exact ev_neg (by simp) (Ev.now _)
   ·
    refine Ev.bind hrv (ev_pos rfl (Ev.bind iv (ev_pos rfl ?_)))
    rw [shl_one _ (by omega), Int.toNat_natCast]
    refine ev_pos (by omega) (ev_pos (by omega) ?_)
    have h1 := shut_l0 hg hk hkl hsl set.length 0 (by omega) (fun v hv => by simp at hv)
    have e : arr (fun x => decide ((x : Int) ∈ set.take 0)) (2 ^ sw.length) = List.replicate (2 ^ sw.length) false := by
     apply List.ext_getElem
     ·
      simp [arr_len]
     ·
      intro j h1 h2
      simp [arr]
    rw [e] at h1
    exact h1
  ·
   rw [if_neg hk] at kv ⊢
   rw [decide_eq_false hk] at iv
   constructor
   ·
    exact ev_some (ev_pos rfl (Ev.bind kv (ev_neg (by decide) (Ev.now _))))
   ·
    exact Ev.bind hrv (ev_pos rfl (Ev.bind iv (ev_neg (by simp) (Ev.now _))))
 ·
  have hrv := rvalid_ev N sw fe
  rw [decide_eq_false hg] at hrv ⊢
  rw [if_neg hg]
  exact ⟨ev_some (ev_neg (by simp) (Ev.now _)), Ev.bind hrv (ev_neg (by simp) (Ev.now _))⟩
theorem FeedReach : dropperlaw05_FeedReach.Pure := by
 intro N sw fe a keep l hN hsw hfe ha hkl hll
 refine Ev.rounds ?_
 have yes : Ev (fun k => dropperlaw05_FeedReach.j0 k a true N sw fe keep l) true := by
  refine Ev.step (fun k => by rw [dropperlaw05_FeedReach.j0]) ?_
  exact ev_pos rfl (Ev.bind first_ev (Ev.now _))
 unfold dropperlaw05_FeedReach.f
 rw [large_f]
 by_cases hl : 20 < sw.length ∨ 20 < fe.length ∨ 1100 < keep.length
 ·
  exact ev_some (ev_pos (decide_eq_true hl) yes)
 refine ev_some (ev_neg (by simpa using hl) ?_)
 by_cases hl2 : (l.length : Int) > 1100
 ·
  rw [decide_eq_true hl2]; exact yes
 rw [decide_eq_false hl2]
 obtain ⟨o1, o2, ol⟩ := reachR_val N sw fe keep (by omega) a
 obtain ⟨s1, s2⟩ := shut_val N sw fe keep (by omega) l (by omega)
 refine Ev.step (fun k => by rw [dropperlaw05_FeedReach.j0]) ?_
 exact ev_neg (by simp) (Ev.bind o1 (Ev.bind o2 (Ev.bind s1 (Ev.bind s2 (Ev.bind (same_ev _ ol) (ev_pos rfl (ev_pos rfl (ev_pos (by simp) (ev_pos rfl (Ev.bind first_ev (Ev.now _)))))))))))
end Go.Proofs.YtoilhnmdemnknaaDoor.Pure

namespace Go.Proofs.YtoilhnmdemnknaaDoor.Open
open Go.RowKit Go.Proofs.YtoilhnmdemnknaaDoorW.PrintWords Go.Proofs.YtoilhnmdemnknaaDoorW.PrintLast Go.Proofs.YtoilhnmdemnknaaDoorW.PrintMore
set_option linter.unusedVariables false
set_option linter.unusedSimpArgs false
/-! What an argument of a type reads as, in the print's kinds. -/
def Opens {α : Type} (P : Program) (t : TypeId) (kd : Kd α) (G : α → Prop) : Prop :=
 ∀ (H : Type) (enc : TypeId × Value → H) (W : World) (fuel : Nat) (cs : List Value) (x : DataW H × List MemPlace), DataW.trod enc P W 0 (fun _ => true) true fuel t cs = some x → ∃ a, kd.K W a cs ∧ G a
section
variable {P : Program} {t e : TypeId} {α β : Type} {kd : Kd α} {G : α → Prop}
theorem opens_int {k : IntKind} (hu : P.underlying t = some (.int k)) : Opens P t (Kd.int k) (fun n => (Lit.int k n).wf = true) := by
 intro H enc W fuel cs x h
 obtain ⟨n, rfl, _, hw⟩ := DataW.trod_int hu h
 exact ⟨n, rfl, hw⟩
theorem exists_list {Q : Nat → α → Prop} : ∀ n, (∀ i, i < n → ∃ x, Q i x) → ∃ xs : List α, xs.length = n ∧ ∀ i x, xs[i]? = some x → Q i x := by
 intro n
 induction n with
 | zero => intro _; exact ⟨[], rfl, fun i x h => by simp at h⟩
 | succ n ih =>
  intro h
  obtain ⟨xs, hl, hq⟩ := ih (fun i hi => h i (by omega))
  obtain ⟨x, hx⟩ := h n (by omega)
  refine ⟨xs ++ [x], by simp [hl], fun i y hy => ?_⟩
  by_cases hi : i < n
  ·
   rw [List.getElem?_append_left (by omega)] at hy
   exact hq i y hy
  ·
   rw [List.getElem?_append_right (by omega)] at hy
   have : i - xs.length = 0 := by
    have := (List.getElem?_eq_some_iff.1 hy).1
    simp at this; omega
   rw [this] at hy
   have hin : i = n := by omega
   subst hin
   simp at hy
   subst hy
   exact hx
theorem add_add (a : Addr) (m n : Nat) : (a.add m).add n = a.add (m + n) := by
 unfold Addr.add
 by_cases h1 : m = 0
 ·
  subst h1; simp
 ·
  by_cases h2 : n = 0
  ·
   subst h2; simp [h1]
  ·
   have : ¬ m + n = 0 := by omega
   simp [h1, h2, this, Nat.add_assoc]
theorem opens_slice (hu : P.underlying t = some (.slice e)) (he : Opens P e kd G) (hc : P.cellsOf e = kd.sz) : Opens P t (Kd.slice e kd) (fun l => l.length ≤ 9223372036854775807 ∧ ∀ x ∈ l, G x) := by
 intro H enc W fuel cs x h
 rcases DataW.trod_slice hu h with ⟨rfl, _⟩ | ⟨a, len, cap, elems, rest, n, _, rfl, _, hb, hl, hm, hlen, hel, _, _⟩
 ·
  exact ⟨[], ⟨none, 0, rfl, Nat.le_refl _, rfl, by simp, fun h => absurd h (by simp)⟩, by simp, fun x hx => by simp at hx⟩
 ·
  have hx : ∀ i, i < len → ∃ y : α, (∃ c, c.length = kd.sz ∧ kd.K W y c ∧ ∀ j u, c[j]? = some u → W.cell? (a.add (i * kd.sz + j)) = some u) ∧ G y := by
   intro i hi
   have h1 := hel i hi
   rw [List.getElem?_eq_getElem (by omega)] at h1
   obtain ⟨c, hc1, hc2⟩ := Option.bind_eq_some_iff.1 h1
   obtain ⟨y, hk, hg⟩ := he H enc W n c _ hc2
   obtain ⟨_, hcl, hcell⟩ := World.cells?_some hc1
   refine ⟨y, ⟨c, kd.K_len hk, hk, fun j u hj => ?_⟩, hg⟩
   rw [hc] at hcell
   have := hcell j (by have := (List.getElem?_eq_some_iff.1 hj).1; have := kd.K_len hk; omega)
   rw [← add_add, this, hj]
  obtain ⟨xs, hxl, hxq⟩ := exists_list len hx
  have hmax : len ≤ 9223372036854775807 := by unfold maxLen at hm; omega
  refine ⟨xs, ⟨some a, cap, by rw [hxl], by omega, rfl, by omega, fun _ => ⟨a, rfl, fun j p hj => (hxq j p hj).1⟩⟩, by omega, fun y hy => ?_⟩
  obtain ⟨i, hi, rfl⟩ := List.mem_iff_getElem.1 hy
  exact (hxq i xs[i] (List.getElem?_eq_getElem hi)).2
def OpensF (P : Program) (fs : List Field) (off : Nat) (kd : Kd α) (G : α → Prop) : Prop :=
 ∀ (H : Type) (enc : TypeId × Value → H) (W : World) (fuel : Nat) (cs : List Value) (xs : List (DataW H × List MemPlace)), xs.length = fs.length → cs.length = off + kd.sz →
  (∀ (i : Nat) (f : Field), fs[i]? = some f → DataW.trod enc P W 0 (fun _ => true) true fuel f.type ((cs.drop f.offset).take (P.cellsOf f.type)) = xs[i]?) → ∃ a, kd.K W a (cs.drop off) ∧ G a
theorem opensF_one {f : Field} {off : Nat} (ho : f.offset = off) (hc : P.cellsOf f.type = kd.sz) (h : Opens P f.type kd G) : OpensF P [f] off kd G := by
 intro H enc W fuel cs xs hl hcs hx
 have h0 := hx 0 f rfl
 rw [List.getElem?_eq_getElem (by rw [hl]; simp), ho, hc, List.take_of_length_le (by rw [List.length_drop]; omega)] at h0
 exact h H enc W fuel _ _ h0
theorem opensF_cons {f : Field} {fs : List Field} {off : Nat} {ka : Kd α} {kb : Kd β} {Ga : α → Prop} {Gb : β → Prop} (ho : f.offset = off) (hc : P.cellsOf f.type = ka.sz) (h : Opens P f.type ka Ga) (hr : OpensF P fs (off + ka.sz) kb Gb) :
  OpensF P (f :: fs) off (Kd.pair ka kb) (fun p => Ga p.1 ∧ Gb p.2) := by
 intro H enc W fuel cs xs hl hcs hx
 have hcs' : cs.length = off + (ka.sz + kb.sz) := hcs
 match xs, hl with
 | x0 :: xs', hl =>
  have h0 := hx 0 f rfl
  rw [ho, hc] at h0
  obtain ⟨a, ha, hga⟩ := h H enc W fuel _ x0 h0
  obtain ⟨b, hb, hgb⟩ := hr H enc W fuel cs xs' (by simpa using hl) (by omega) (fun i f' hf' => hx (i + 1) f' (by simpa using hf'))
  refine ⟨(a, b), ⟨_, _, ?_, ha, hb⟩, hga, hgb⟩
  rw [← List.drop_drop, List.take_append_drop]
theorem opens_struct {fs : Array Field} (hu : P.underlying t = some (.struct fs)) (hc : P.cellsOf t = kd.sz) (h : OpensF P fs.toList 0 kd G) : Opens P t kd G := by
 intro H enc W fuel cs x hx
 obtain ⟨xs, n, _, _, hl, hxl, hf⟩ := DataW.trod_struct hu hx
 obtain ⟨a, ha, hg⟩ := h H enc W n cs xs (by rw [hxl]; simp) (by omega) (fun i f hf' => hf i f (by simpa using hf'))
 exact ⟨a, ha, hg⟩
theorem opens_iso {f : β → α} (g : α → β) (hfg : ∀ y, f (g y) = y) (h : Opens P t kd G) : Opens P t (Kd.iso kd f) (fun b => G (f b)) := by
 intro H enc W fuel cs x hx
 obtain ⟨a, ha, hg⟩ := h H enc W fuel cs x hx
 exact ⟨g a, by show kd.K W (f (g a)) cs; rw [hfg]; exact ha, by show G (f (g a)); rw [hfg]; exact hg⟩
theorem agg_of {cs : Array Value} {l : List Value} (h : (Value.agg cs).cells.toList = l) : cs = l.toArray := by
 have h' : cs.toList = l := h
 rw [← h']
end
end Go.Proofs.YtoilhnmdemnknaaDoor.Open

/- From the rows' condition on the laid tables of math/bits to the table in the world. -/
namespace Go.Proofs.YtoilhnmdemnknaaDoor.Laid
open Go.ChangeShapes Go.WideShapes Go.ChangeAt Go.WideMaps Go.WideElems Go.RowKit Go.Proofs.YtoilhnmdemnknaaDoor

abbrev laid2 : List (String × DataW Unit) := [("math/bits.deBruijn32tab", Rows.laid_math_bits_deBruijn32tab), ("math/bits.deBruijn64tab", Rows.laid_math_bits_deBruijn64tab)]
theorem g64 : Tryd.prog.globalNamed "math/bits.deBruijn64tab" = some 1 := by kernel_rfl
theorem t64 : (Tryd.prog.globals[1]?).map (·.type) = some 142 := by kernel_rfl
theorem door_met (os : Os) (args : Array Value) : laidMetH Tryd.prog laid2 ((World.doorLaid Tryd.prog 4000 os).forCall (fun _ _ => 0) ⟨#[], args, []⟩).memory :=
 laidMetH_of_parts3 (fuel := 100) (laidMet_of_run' 100 (by kernel_rfl) (by kernel_rfl)) (by kernel_rfl) (by kernel_rfl)
theorem tabs_of {W : World} (h : laidMetH Tryd.prog laid2 W) : Tab.Tabs W := by
 rw [MakeChecks.laidMetH_plain _ _ _ (by kernel_rfl)] at h
 obtain ⟨ps, ⟨g0, t0, cs0, f0, p0, q0, hg0, ht0, hv0, hd0, ⟨g1, t1, cs1, f1, p1, q1, hg1, ht1, hv1, hd1, _, _⟩, _⟩, _, _⟩ := h
 obtain rfl := Option.some.inj (g64.symm.trans hg1)
 obtain rfl := Option.some.inj (t64.symm.trans ht1)
 obtain ⟨xs, m1, rfl, hx1, hlen, hn3, hel⟩ := DataW.trod_array Tryd.underlying142 hd1
 have hT : (Rows.laid_math_bits_deBruijn64tab : DataW Unit) = DataW.agg (Tab.tab64.map fun n => DataW.lit (.int .u8 n)) := rfl
 rw [hT] at hx1
 simp only [Prod.mk.injEq, DataW.agg.injEq] at hx1
 have c5 : Tryd.prog.cellsOf 5 = 1 := by kernel_rfl
 intro i hi
 have hix : i < xs.length := by omega
 have hlt : i < Tab.tab64.length := by show i < 64; exact hi
 have hi1 := hel i hi
 rw [List.getElem?_eq_getElem hix] at hi1
 obtain ⟨k, e1, e2, _⟩ := DataW.trod_int Tryd.underlying5 hi1
 have hk : (Tab.tab64.map fun n => (DataW.lit (.int .u8 n) : DataW Unit))[i]? = (xs.map fun x => x.1)[i]? := by rw [hx1.1]
 rw [List.getElem?_map, List.getElem?_map, List.getElem?_eq_getElem hix, List.getElem?_eq_getElem hlt, e2] at hk
 have hk2 : Tab.tab64[i] = k := by simpa using hk
 have hc := World.var?_cell hg1 hv1 i
 rw [hc, List.getD_eq_getElem?_getD, List.getElem?_eq_getElem hlt, hk2]
 rw [c5, Nat.mul_one] at e1
 have hd : cs1.toList[i]? = some (.int .u8 k) := by
  have h0 := congrArg (fun l => l[0]?) e1
  simpa [List.getElem?_take, List.getElem?_drop] using h0
 simpa using hd
end Go.Proofs.YtoilhnmdemnknaaDoor.Laid

-- Written by wip/xprint.py of this repo, over the kit's print.py: out of the translation; the oracles in it are by hand. Not trusted: Lean checks it.
namespace Go.Proofs.YtoilhnmdemnknaaDoor.feedReach
open Go.ChangeShapes Go.WideShapes Go.ChangeAt Go.RowKit Go.Proofs.YtoilhnmdemnknaaDoor.Open Go.Proofs.YtoilhnmdemnknaaDoor.XFeed Go.Proofs.YtoilhnmdemnknaaDoorW.PrintWords Go.Proofs.YtoilhnmdemnknaaDoorW.PrintLast Go.Proofs.YtoilhnmdemnknaaDoorW.PrintMore
open Go.ChangeMaps (open_string shut_string)
set_option linter.unusedVariables false
set_option linter.unusedSimpArgs false
theorem own : ownKnob Tryd.prog.godebug = none := by kernel_rfl
theorem laidOut : laidOutB Tryd.prog = true := by kernel_rfl
set_option maxRecDepth 100000 in
theorem lifted (os : Os) (started : os.Started) (H : Type) (enc : TypeId × Value → H) :
  ReturnsInHanded {} Tryd.checked os 10 .any (fun w args => (Rows.feedReachSpec.pre enc Tryd.prog Tryd.f10 [] false w args ∧ laidMetH Tryd.prog Laid.laid2 w) ∧ sizedMet enc Tryd.prog Tryd.f10 (OpenSpec.ofChange Rows.feedReachSpec) false w args) (Rows.feedReachSpec.post enc Tryd.prog Tryd.f10 false true false false) := by
 refine returnsInHanded_of_change_and (C := Tryd.checked) (X := fun w _ => laidMetH Tryd.prog Laid.laid2 w) (fun _ _ _ hh h => h.of_heap hh) own started (by kernel_rfl) Tryd.func10
  (ChangeSpec.witness_shaped (enc := enc) (C := Tryd.checked) (os := os) (X := fun w _ => laidMetH Tryd.prog Laid.laid2 w) false (World.doorLaid Tryd.prog 4000 os) #[.agg #[.int .i64 0, .slice none 0 0, .slice none 0 0], .int .i64 0, .agg #[.slice none 0 0, .slice none 0 0]] 8 rfl (World.shaped_of_RefB (by kernel_rfl) (by kernel_rfl)) (by kernel_rfl) (by kernel_rfl) (by kernel_rfl) (Laid.door_met os _)) ?_
 intro W base args ds gs before hval0 hW hcnd hsz0 hL _
 have hval : ∀ (j : Nat) t v, Tryd.f10.params[j]? = some t → args[j]? = some v → Value.okWide Tryd.prog W .any base t v := hval0
 have hW' := hW
 obtain ⟨p, q, hA0, hV, rfl, hfz, hnd⟩ := hW
 have hA : DataW.TrodAll enc Tryd.prog W 0 (fun _ => true) true Tryd.f10.params.toList args.toList ds p := hA0
 rw [Tryd.params10] at hA hval
 obtain ⟨v0, vs0, d0, ds0, p0, q0, hargs, rfl, rfl, h0, r0⟩ := trodAll_cons hA
 obtain ⟨v1, vs1, d1, ds1, p1, q1, rfl, rfl, rfl, h1, r1⟩ := trodAll_cons r0
 obtain ⟨v2, vs2, d2, ds2, p2, q2, rfl, rfl, rfl, h2, r2⟩ := trodAll_cons r1
 obtain ⟨rfl, rfl, rfl⟩ := trodAll_nil r2
 obtain rfl : args = #[v0, v1, v2] := by cases args; simp_all
 obtain ⟨rfl, rfl⟩ := trodVars_none hV
 obtain ⟨cs0, rfl, hz0⟩ := okWide_struct Tryd.underlying25 (hval 0 25 v0 rfl rfl)
 have k0 := h0
 have lt0 : ∀ x ∈ p0, x.block < W.heap.size := by obtain ⟨m, hm⟩ := k0; exact DataW.trod_lt m _ _ _ hm
 obtain ⟨fuel0, hf0⟩ := h0
 obtain ⟨⟨u0_0, u0_1, u0_2⟩, hK0, hG0⟩ := (opens_struct Tryd.underlying25 (by kernel_rfl) (opensF_cons rfl (by kernel_rfl) (opens_int Tryd.underlying3) (opensF_cons rfl (by kernel_rfl) (opens_slice Tryd.underlying22 (opens_iso (f := fun x : S69 => (x.f0, x.f1)) (fun p => ⟨p.1, p.2⟩) (fun _ => rfl) (opens_struct Tryd.underlying69 (by kernel_rfl) (opensF_cons rfl (by kernel_rfl) (opens_int Tryd.underlying3) (opensF_one rfl (by kernel_rfl) (opens_int Tryd.underlying3))))) (by kernel_rfl)) (opensF_one rfl (by kernel_rfl) (opens_slice Tryd.underlying23 (opens_iso (f := fun x : S71 => (x.f0, x.f1)) (fun p => ⟨p.1, p.2⟩) (fun _ => rfl) (opens_struct Tryd.underlying71 (by kernel_rfl) (opensF_cons rfl (by kernel_rfl) (opens_int Tryd.underlying3) (opensF_one rfl (by kernel_rfl) (opens_int Tryd.underlying3))))) (by kernel_rfl)))))) H enc W fuel0 _ _ hf0
 obtain ⟨c0_0, r0_0, e0_0, hk0_0, c0_1, r0_1, e0_1, hk0_1, hk0_2⟩ := hK0
 obtain ⟨g0_0, g0_1, g0_2⟩ := hG0
 have hq0_0 := hk0_0
 obtain ⟨A0_1, q0_1, hq0_1, hc0_1, hr0_1⟩ := hk0_1
 obtain ⟨A0_2, q0_2, hq0_2, hc0_2, hr0_2⟩ := hk0_2
 have hq0_0' : c0_0 = _ := hq0_0
 have hq0_1' : c0_1 = _ := hq0_1
 obtain rfl : cs0 = #[.int .i64 u0_0, .slice A0_1 u0_1.length q0_1, .slice A0_2 u0_2.length q0_2] := by
  have h_ := agg_of (l := [.int .i64 u0_0, .slice A0_1 u0_1.length q0_1, .slice A0_2 u0_2.length q0_2]) (cs := cs0) (by rw [e0_0, hq0_0', e0_1, hq0_1', hq0_2]; rfl)
  exact h_
 obtain ⟨a1, rfl, rfl, rfl, w1⟩ := open_int Tryd.underlying3 (hval 1 3 v1 rfl rfl) h1
 obtain ⟨cs2, rfl, hz2⟩ := okWide_struct Tryd.underlying54 (hval 2 54 v2 rfl rfl)
 have k2 := h2
 have lt2 : ∀ x ∈ p2, x.block < W.heap.size := by obtain ⟨m, hm⟩ := k2; exact DataW.trod_lt m _ _ _ hm
 obtain ⟨fuel2, hf2⟩ := h2
 obtain ⟨⟨u2_0, u2_1⟩, hK2, hG2⟩ := (opens_struct Tryd.underlying54 (by kernel_rfl) (opensF_cons rfl (by kernel_rfl) (opens_slice Tryd.underlying28 (opens_int Tryd.underlying3) (by kernel_rfl)) (opensF_one rfl (by kernel_rfl) (opens_slice Tryd.underlying28 (opens_int Tryd.underlying3) (by kernel_rfl))))) H enc W fuel2 _ _ hf2
 obtain ⟨c2_0, r2_0, e2_0, hk2_0, hk2_1⟩ := hK2
 obtain ⟨g2_0, g2_1⟩ := hG2
 obtain ⟨A2_0, q2_0, hq2_0, hc2_0, hr2_0⟩ := hk2_0
 obtain ⟨A2_1, q2_1, hq2_1, hc2_1, hr2_1⟩ := hk2_1
 have hq2_0' : c2_0 = _ := hq2_0
 obtain rfl : cs2 = #[.slice A2_0 u2_0.length q2_0, .slice A2_1 u2_1.length q2_1] := by
  have h_ := agg_of (l := [.slice A2_0 u2_0.length q2_0, .slice A2_1 u2_1.length q2_1]) (cs := cs2) (by rw [e2_0, hq2_0', hq2_1]; rfl)
  exact h_
 clear hA0 hval0 hsz0
 obtain ⟨k, h⟩ := Pure.FeedReach u0_0 u0_1 u0_2 a1 u2_0 u2_1 g0_0 g0_1 g0_2 w1 g2_0 g2_1
 refine (dropperlaw05_FeedReach.calls k u0_0 _ _ u0_1 _ _ u0_2 a1 _ _ u2_0 _ _ u2_1 true W hr0_1 hc0_1 hr0_2 hc0_2 hr2_0 hc2_0 hr2_1 hc2_1 (Laid.tabs_of hL) h).mono fun e W' ⟨he, bel0⟩ => ?_
 have bel : Below W.heap.size W W' := bel0
 subst he
 exact ⟨_, rfl, _, _, _, [], _, [], hW', trodAll_mk1 (shut_bool Tryd.underlying4 _), (trodAll_cons_mk (Below.trod laidOut (by kernel_rfl) (of_decide_eq_true (by kernel_rfl)) k0 bel lt0) (trodAll_cons_mk (shut_int Tryd.underlying3 w1) (trodAll_cons_mk (Below.trod laidOut (by kernel_rfl) (of_decide_eq_true (by kernel_rfl)) k2 bel lt2) trodAll_mk0))), rfl, bel.frame _, fun h => by cases h⟩
theorem over : Rows.feedReachRow.holds Tryd.pinned (OpenSpec.ofChange Rows.feedReachSpec) :=
 OpenClaim.holds_of_wide 10 Tryd.f10 rfl rfl rfl rfl rfl rfl rfl ⟨rfl, rfl, rfl, rfl, rfl⟩ rfl rfl rfl rfl rfl (by kernel_rfl) Tryd.func10 (by kernel_rfl)
  (of_decide_eq_true (by kernel_rfl)) (by unfold Func.isWrapper; first | (rw [if_pos (by decide +kernel)]; kernel_rfl) | (rw [if_neg (by decide +kernel)]; exact ⟨rfl, rfl⟩))
  (fun os started H enc _ => lifted os started H enc)
theorem card_holds : Rows.FeedReachCardSaid :=
 Claim7.holds_tied_plain_at .later [] [.data, .data] true (true, "93285ac14de4f79fe65648c4cc717cd0c2c76f26ec07f4016cc2c3bd3ccdb537") false
  over (fun _ h => by cases h) (by kernel_rfl) (fun _ h => by cases h) feedReach_row_tie rfl ⟨rfl, rfl⟩ (by kernel_rfl) rfl
  (fun f fn hf hfn => by
   obtain rfl : f = 10 := Option.some.inj ((show Tryd.prog.funcNamed "dropper/dropperlaw05.FeedReach" = some 10 by kernel_rfl).symm.trans hf) |>.symm
   obtain rfl : fn = Tryd.f10 := (Option.some.inj (Tryd.func10.symm.trans hfn)).symm
   exact ⟨by kernel_rfl, fun j t ht => by
    rw [Tryd.params10] at ht
    have hall : ∀ t ∈ (#[25, 3, 54] : Array TypeId), Tryd.prog.wantsStandIn t = false := by decide +kernel
    exact hall t (Array.mem_of_getElem? ht)⟩)
  (by kernel_rfl)
#print axioms card_holds
end Go.Proofs.YtoilhnmdemnknaaDoor.feedReach
namespace Go.Proofs.YtoilhnmdemnknaaDoor
theorem feedReach_holds : Rows.FeedReachCardSaid := feedReach.card_holds
end Go.Proofs.YtoilhnmdemnknaaDoor
