-- Written by wip/pack.py of this repo: texts of this claim, put together.
import Derived.DataReads
import Derived.OpenShut
import Derived.ChangeArms
import Derived.Test.YtpdcpekjafcohaaRows
import Derived.WalkKit
import Derived.ProofKit
import Derived.ShutString
import Derived.ChangeOld
import Derived.Below
import Derived.SizedLaws
import Derived.Test.YtpdcpekjafcohaaKWearPassesc
/- Runs: what program and document add up for each span, the span with the most, the spans over a limit. -/
namespace Go.Proofs.Ytpdcpekjafcohaa.Plain
set_option linter.unusedVariables false
set_option linter.unusedSimpArgs false
open Go.RowKit Go.Proofs.Ytpdcpekjafcohaa.XWear Go.Proofs.YtpdcpekjafcohaaW.PrintWords Go.Proofs.YtpdcpekjafcohaaW.PrintLast Go.Proofs.YtpdcpekjafcohaaW.PrintMore

def ROk (x : S55) : Prop := 0 ≤ x.f0 ∧ x.f0 ≤ x.f1 ∧ x.f1 < 60 ∧ 1 ≤ x.f2 ∧ x.f2 ≤ 1000000
instance (x : S55) : Decidable (ROk x) := inferInstanceAs (Decidable (_ ∧ _))
def Runs (l : List S55) : Prop := l.length ≤ 40 ∧ ∀ x ∈ l, ROk x
instance (l : List S55) : Decidable (Runs l) := inferInstanceAs (Decidable (_ ∧ _))
def rone (x : S55) (k : Int) : Int := if x.f0 ≤ k ∧ k ≤ x.f1 then x.f2 else 0
def rval : List S55 → Int → Int
 | [], _ => 0
 | x :: t, k => rone x k + rval t k
def tabl (n : Nat) (g : Nat → Int) : List Int := (List.range n).map g
def rtot (l : List S55) : List Int := tabl 60 fun k => rval l (k : Int)

theorem tabl_len (n : Nat) (g : Nat → Int) : (tabl n g).length = n := by simp [tabl]
theorem rd_tabl (n : Nat) (g : Nat → Int) (i : Nat) (h : i < n) : rd (tabl n g) (i : Int) = g i := by
 rw [rd_eq _ i (by rw [tabl_len]; exact h)]
 simp [tabl]
theorem tabl_congr {n : Nat} {g h : Nat → Int} (e : ∀ j, j < n → g j = h j) : tabl n g = tabl n h := by
 unfold tabl
 refine List.map_congr_left fun j hj => e j (List.mem_range.1 hj)
theorem tabl_set (n : Nat) (g : Nat → Int) (i : Nat) (v : Int) : (tabl n g).set i v = tabl n fun j => if j = i then v else g j := by
 refine List.ext_getElem (by simp [tabl]) fun j h1 h2 => ?_
 rw [List.getElem_set]
 simp only [tabl, List.getElem_map, List.getElem_range]
 by_cases h : i = j
 ·
  rw [if_pos h, if_pos h.symm]
 ·
  rw [if_neg h, if_neg (fun e => h e.symm)]
theorem tabl_succ (n : Nat) (g : Nat → Int) : tabl (n + 1) g = tabl n g ++ [g n] := by simp [tabl, List.range_succ]
theorem tabl_take (n i : Nat) (g : Nat → Int) (h : i ≤ n) : (tabl n g).take i = tabl i g := by
 unfold tabl
 rw [← List.map_take, List.take_range, Nat.min_eq_left h]

theorem rone_bd {x : S55} (h : ROk x) (k : Int) : 0 ≤ rone x k ∧ rone x k ≤ 1000000 := by
 obtain ⟨h0, h1, h2, h3, h4⟩ := h
 unfold rone
 split <;> omega
theorem rval_bd : ∀ {l : List S55} (h : ∀ x ∈ l, ROk x) (k : Int), 0 ≤ rval l k ∧ rval l k ≤ 1000000 * (l.length : Int)
 | [], _, _ => by simp [rval]
 | x :: t, h, k => by
  have a := rone_bd (h x (by simp)) k
  have b := rval_bd (l := t) (fun y hy => h y (by simp [hy])) k
  rw [rval, List.length_cons]
  omega
theorem rval_append : ∀ (a b : List S55) (k : Int), rval (a ++ b) k = rval a k + rval b k
 | [], b, k => by simp [rval]
 | x :: t, b, k => by rw [List.cons_append, rval, rval, rval_append]; omega

/-! ### the program's check -/
theorem bad_ok (x : S55) : wear_validRuns.bad x = !decide (ROk x) := by
 unfold wear_validRuns.bad
 by_cases h : ROk x
 ·
  obtain ⟨h0, h1, h2, h3, h4⟩ := id h
  rw [decide_eq_true h, decide_eq_true h0, decide_eq_true h1, decide_eq_true h3, decide_eq_true h4, decide_eq_false (show ¬ x.f1 ≥ 60 by omega)]
  rfl
 ·
  rw [decide_eq_false h]
  by_cases h0 : 0 ≤ x.f0
  ·
   by_cases h1 : x.f0 ≤ x.f1
   ·
    by_cases h2 : x.f1 ≥ 60
    ·
     rw [decide_eq_true h2]; simp
    ·
     by_cases h3 : 1 ≤ x.f2
     ·
      by_cases h4 : x.f2 ≤ 1000000
      ·
       exact absurd ⟨h0, h1, by omega, h3, h4⟩ h
      ·
       rw [decide_eq_false h4]; simp
     ·
      rw [decide_eq_false h3]; simp
   ·
    rw [decide_eq_false h1]; simp
  ·
   rw [decide_eq_false h0]; simp
theorem valid_runs (l : List S55) : wear_validRuns.f l = some (decide (Runs l)) := by
 unfold wear_validRuns.f
 congr 1
 have e : (!(l.any wear_validRuns.bad)) = decide (∀ x ∈ l, ROk x) := by
  by_cases h : ∀ x ∈ l, ROk x
  ·
   rw [decide_eq_true h, Bool.not_eq_true', List.any_eq_false]
   intro x hx
   rw [bad_ok, decide_eq_true (h x hx)]
   simp
  ·
   rw [decide_eq_false h, Bool.not_eq_false', List.any_eq_true]
   simp only [Classical.not_forall] at h
   obtain ⟨x, hx, hb⟩ := h
   exact ⟨x, hx, by rw [bad_ok, decide_eq_false hb]; rfl⟩
 rw [e]
 by_cases h : l.length ≤ 40
 ·
  rw [decide_eq_true (show (l.length : Int) ≤ 40 by omega), Bool.true_and, decide_eq_decide]
  exact ⟨fun h2 => ⟨h, h2⟩, fun h2 => h2.2⟩
 ·
  rw [decide_eq_false (show ¬ (l.length : Int) ≤ 40 by omega), Bool.false_and, decide_eq_false (fun h2 : Runs l => h h2.1)]

/-! ### the program's sums -/
def rdif (x : S55) (j : Nat) : Int := (if (j : Int) = x.f0 then x.f2 else 0) - (if (j : Int) = x.f1 + 1 then x.f2 else 0)
def rdifs : List S55 → Nat → Int
 | [], _ => 0
 | x :: t, j => rdif x j + rdifs t j
theorem rdif_bd {x : S55} (h : ROk x) (j : Nat) : -1000000 ≤ rdif x j ∧ rdif x j ≤ 1000000 := by
 obtain ⟨h0, h1, h2, h3, h4⟩ := h
 unfold rdif
 split <;> split <;> omega
theorem step_tabl {x : S55} (h : ROk x) (g : Nat → Int) (hg : ∀ j, -1000000000 ≤ g j ∧ g j ≤ 1000000000) :
  wear_totals.step x (tabl 61 g) = some (tabl 61 fun j => g j + rdif x j) := by
 obtain ⟨h0, h1, h2, h3, h4⟩ := h
 obtain ⟨p, hp⟩ : ∃ p : Nat, (p : Int) = x.f0 := ⟨x.f0.toNat, by omega⟩
 obtain ⟨q, hq⟩ : ∃ q : Nat, (q : Int) = x.f1 := ⟨x.f1.toNat, by omega⟩
 have hw : wrap64 (x.f1 + 1) = ((q + 1 : Nat) : Int) := by rw [wrap_id] <;> omega
 have hpq : p ≤ q := by omega
 have hp61 : p < 61 := by omega
 have hq61 : q + 1 < 61 := by omega
 unfold wear_totals.step
 rw [hw, ← hp, if_pos ⟨by omega, by omega, by omega, by omega⟩, Int.toNat_natCast, Int.toNat_natCast, rd_tabl _ _ _ hp61]
 have b1 := hg p
 have b2 := hg (q + 1)
 have e1 : wrap64 (g p + x.f2) = g p + x.f2 := by rw [wrap_id] <;> omega
 rw [e1, tabl_set, rd_tabl _ _ _ hq61, if_neg (show ¬ (q + 1 = p) by omega)]
 have e2 : wrap64 (g (q + 1) - x.f2) = g (q + 1) - x.f2 := by rw [wrap_id] <;> omega
 rw [e2, tabl_set]
 congr 1
 refine tabl_congr fun j hj => ?_
 unfold rdif
 rw [← hp, ← hq]
 by_cases c1 : j = q + 1
 ·
  subst c1
  rw [if_pos rfl, if_neg (by omega), if_pos (by omega)]
  omega
 ·
  rw [if_neg c1]
  by_cases c2 : j = p
  ·
   subst c2
   rw [if_pos rfl, if_pos rfl, if_neg (by omega)]
   omega
  ·
   rw [if_neg c2, if_neg (by omega), if_neg (by omega)]
   omega
theorem steps_tabl : ∀ (l : List S55) (h : ∀ x ∈ l, ROk x) (g : Nat → Int) (B : Int) (hg : ∀ j, -B ≤ g j ∧ g j ≤ B) (hB : B + 1000000 * (l.length : Int) ≤ 100000000),
  wear_totals.steps l (tabl 61 g) = some (tabl 61 fun j => g j + rdifs l j)
 | [], _, g, B, hg, hB => by
  rw [wear_totals.steps]
  congr 1
  exact tabl_congr fun j _ => by rw [rdifs]; omega
 | x :: t, h, g, B, hg, hB => by
  rw [List.length_cons] at hB
  have hx := h x (by simp)
  rw [wear_totals.steps, step_tabl hx g (fun j => by have := hg j; omega), Option.bind_some,
   steps_tabl t (fun y hy => h y (by simp [hy])) _ (B + 1000000) (fun j => by have := hg j; have := rdif_bd hx j; omega) (by omega)]
  congr 1
  exact tabl_congr fun j _ => by rw [rdifs]; omega
theorem sums_tabl (g P : Nat → Int) (h0 : P 0 = 0) (hs : ∀ i, i < 60 → P (i + 1) = P i + g i) (hb : ∀ i, i ≤ 60 → 0 ≤ P i ∧ P i ≤ 1000000000) : ∀ i, i ≤ 60 →
  wear_totals.sums (tabl i g) 0 = tabl i (fun k => P (k + 1)) ∧ wear_totals.acc (tabl i g) 0 = P i
 | 0, _ => ⟨rfl, h0.symm⟩
 | i + 1, hi => by
  obtain ⟨a, b⟩ := sums_tabl g P h0 hs hb i (by omega)
  have e := hs i (by omega)
  have c := hb (i + 1) hi
  have w : wrap64 (P i + g i) = P (i + 1) := by rw [← e, wrap_id] <;> omega
  rw [tabl_succ, wear_totals.sums_snoc, wear_totals.acc_snoc, a, b, w, tabl_succ]
  exact ⟨rfl, rfl⟩
theorem rone_step {x : S55} (h : ROk x) (i : Nat) : rone x (i : Int) = rone x ((i : Int) - 1) + rdif x i := by
 obtain ⟨h0, h1, h2, h3, h4⟩ := h
 unfold rone rdif
 by_cases c1 : x.f0 ≤ (i : Int) ∧ (i : Int) ≤ x.f1
 ·
  rw [if_pos c1, if_neg (show ¬ (i : Int) = x.f1 + 1 by omega)]
  by_cases c2 : (i : Int) = x.f0
  ·
   rw [if_pos c2, if_neg (by omega)]; omega
  ·
   rw [if_neg c2, if_pos (by omega)]; omega
 ·
  rw [if_neg c1, if_neg (show ¬ (i : Int) = x.f0 by omega)]
  by_cases c2 : (i : Int) = x.f1 + 1
  ·
   rw [if_pos c2, if_pos (by omega)]; omega
  ·
   rw [if_neg c2, if_neg (by omega)]; omega
theorem rval_step : ∀ {l : List S55} (h : ∀ x ∈ l, ROk x) (i : Nat), rval l (i : Int) = rval l ((i : Int) - 1) + rdifs l i
 | [], _, _ => rfl
 | x :: t, h, i => by
  rw [rval, rval, rdifs, rone_step (h x (by simp)) i, rval_step (fun y hy => h y (by simp [hy])) i]
  omega
theorem rval_neg : ∀ {l : List S55} (h : ∀ x ∈ l, ROk x), rval l (-1) = 0
 | [], _ => rfl
 | x :: t, h => by
  obtain ⟨h0, h1, h2, h3, h4⟩ := h x (by simp)
  rw [rval, rval_neg (fun y hy => h y (by simp [hy])), rone, if_neg (by omega)]
  rfl
theorem totals_f {l : List S55} (h : Runs l) : wear_totals.f l = some (rtot l) := by
 obtain ⟨h1, h2⟩ := h
 unfold wear_totals.f
 have e : List.replicate 61 (0 : Int) = tabl 61 fun _ => 0 := by decide
 rw [e, steps_tabl l h2 (fun _ => 0) 0 (fun _ => ⟨by omega, by omega⟩) (by omega), Option.map_some, tabl_take _ _ _ (by decide)]
 congr 1
 refine (sums_tabl _ (fun i => rval l ((i : Int) - 1)) ?_ (fun i _ => ?_) (fun i _ => ?_) 60 (Nat.le_refl _)).1.trans (tabl_congr fun j _ => ?_)
 ·
  exact rval_neg h2
 ·
  have := rval_step h2 i
  have e : (((i + 1 : Nat) : Int) - 1) = (i : Int) := by omega
  show rval l (((i + 1 : Nat) : Int) - 1) = _
  rw [e, this]
  omega
 ·
  have := rval_bd h2 ((i : Int) - 1)
  omega
 ·
  show rval l (((j + 1 : Nat) : Int) - 1) = _
  rw [show (((j + 1 : Nat) : Int) - 1) = (j : Int) by omega]
theorem rtot_len (l : List S55) : (rtot l).length = 60 := tabl_len _ _
theorem Totals_f (l : List S55) : wear_Totals.f l = some (if Runs l then (rtot l, 0) else ([], 71)) := by
 unfold wear_Totals.f
 rw [valid_runs, Option.bind_some]
 by_cases h : Runs l
 ·
  rw [if_pos (decide_eq_true h), totals_f h, if_pos h]; rfl
 ·
  rw [if_neg (by simpa using h), if_neg h]
/-! ### the document's -/
theorem rd_run (l : List S55) (i : Nat) (h : i < l.length) : rd_T55 l (i : Int) = l[i] := by simp [rd_T55, List.getD_eq_getElem?_getD, h]
theorem rruns_l0 (l : List S55) (hl : l.length ≤ 9223372036854775807) : ∀ (d i : Nat), i + d = l.length → (∀ j (h : j < l.length), j < i → ROk l[j]) →
  Ev (fun k => dropperref07_Runs.l0 k l (i : Int)) (decide (Runs l)) := by
 intro d
 induction d with
 | zero =>
  intro i hi hb
  refine Ev.step (fun k => by rw [dropperref07_Runs.l0]) ?_
  refine ev_neg (by omega) (ev_const ?_)
  congr 1
  rw [decide_eq_decide]
  refine ⟨fun h => ⟨by omega, fun x hx => ?_⟩, fun h => by have := h.1; omega⟩
  obtain ⟨j, hj, rfl⟩ := List.getElem_of_mem hx
  exact hb j hj (by omega)
 | succ d ih =>
  intro i hi hb
  have hil : i < l.length := by omega
  refine Ev.step (fun k => by rw [dropperref07_Runs.l0]) ?_
  refine ev_pos (by omega) (ev_pos (by omega) ?_)
  rw [rd_run l i hil]
  have no : ¬ ROk l[i] → decide (Runs l) = false := fun h => decide_eq_false fun hr => h (hr.2 _ (List.getElem_mem hil))
  by_cases c1 : l[i].f0 < 0
  ·
   refine ev_pos c1 (ev_const ?_)
   rw [no (fun h => by have := h.1; omega)]
  refine ev_neg c1 ?_
  by_cases c2 : l[i].f0 > l[i].f1
  ·
   refine ev_pos c2 (ev_const ?_)
   rw [no (fun h => by have := h.2.1; omega)]
  refine ev_neg c2 ?_
  by_cases c3 : l[i].f1 ≥ 60
  ·
   refine ev_pos c3 (ev_const ?_)
   rw [no (fun h => by have := h.2.2.1; omega)]
  refine ev_neg c3 ?_
  by_cases c4 : l[i].f2 < 1
  ·
   refine ev_pos c4 (ev_const ?_)
   rw [no (fun h => by have := h.2.2.2.1; omega)]
  refine ev_neg c4 ?_
  by_cases c5 : l[i].f2 > 1000000
  ·
   refine ev_pos c5 (ev_const ?_)
   rw [no (fun h => by have := h.2.2.2.2; omega)]
  refine ev_neg c5 ?_
  have e : wrap64 ((i : Int) + 1) = ((i + 1 : Nat) : Int) := by rw [wrap_id] <;> omega
  rw [e]
  refine ih (i + 1) (by omega) fun j hj h => ?_
  by_cases hji : j = i
  ·
   subst hji
   exact ⟨by omega, by omega, by omega, by omega, by omega⟩
  ·
   exact hb j hj (by omega)
theorem rruns (l : List S55) (hl : l.length ≤ 9223372036854775807) : Ev (fun k => dropperref07_Runs.f k l) (decide (Runs l)) := rruns_l0 l hl l.length 0 (by omega) (fun _ _ h => by omega)
end Go.Proofs.Ytpdcpekjafcohaa.Plain

namespace Go.Proofs.Ytpdcpekjafcohaa.XWear
open Go.RowKit Go.Proofs.YtpdcpekjafcohaaW.PrintWords Go.Proofs.YtpdcpekjafcohaaW.PrintLast Go.Proofs.YtpdcpekjafcohaaW.PrintMore
attribute [local go_sem] max2_int min2_int max_two min_two max_three min_three max_four min_four   -- for this text's walks alone
set_option linter.unusedVariables false
set_option linter.unusedSimpArgs false
/-! ### dropperlaw07_Long: function 14 -/
def dropperlaw07_Long.f (l0 : List Int) (l1 : List (S35)) : Option (Bool) := if (l0.length : Int) > 100 then (some true) else (some (decide ((l1.length : Int) > 100)))
/-! ### wear_Due: function 31 -/

def wear_Due.due (lim : Int) (x : S35) : Bool := decide (wrap64 (lim * x.f1) ≤ x.f0)
def wear_Due.idxFrom (p : S35 → Bool) (l : List S35) : Int := if l.any p then (l.findIdx p : Int) else -1
theorem wear_Due.idxFrom_at {p : S35 → Bool} {l : List S35} {i : Nat} (hi : i < l.length) (hp : p l[i] = true) (hb : ∀ j (h : j < l.length), j < i → p l[j] = false) : wear_Due.idxFrom p l = i := by
 have ha : l.any p = true := List.any_eq_true.2 ⟨l[i], List.getElem_mem hi, hp⟩
 have hf : l.findIdx p = i := by
  rw [List.findIdx_eq hi]
  exact ⟨hp, fun j hj => hb j _ hj⟩
 simp [wear_Due.idxFrom, ha, hf]
theorem wear_Due.idxFrom_none {p : S35 → Bool} {l : List S35} (hb : ∀ j (h : j < l.length), j < l.length → p l[j] = false) : wear_Due.idxFrom p l = -1 := by
 have ha : l.any p = false := by
  rw [List.any_eq_false]
  intro x hx
  obtain ⟨j, hj, rfl⟩ := List.mem_iff_getElem.1 hx
  simp [hb j hj hj]
 simp [wear_Due.idxFrom, ha]
theorem wear_Due.rd_get (l : List S35) (x : Int) (h0 : 0 ≤ x) (h1 : x < (l.length : Int)) : ∃ h : x.toNat < l.length, rd_T35 l x = l[x.toNat] := by
 have h : x.toNat < l.length := by omega
 exact ⟨h, by simp [rd_T35, List.getD_eq_getElem?_getD, h]⟩
theorem wear_Due.idx_ge (p : S35 → Bool) (l : List S35) : decide (0 ≤ wear_Due.idxFrom p l) = l.any p := by
 unfold wear_Due.idxFrom
 by_cases h : l.any p = true
 ·
  simp [h]
 ·
  have h2 : l.any p = false := by simpa using h
  simp [h2]

def wear_Due.f (k : Nat) (l0 : List Int) (a1 : Int) : Option (Int × Int) := (wear_Valid.f l0).bind fun t => if t = true then ((wear_within.f 0 a1 10000).bind fun t2 => if t2 = true then ((wear_nearest.f k l0).bind fun t3 => if wear_Due.idxFrom (wear_Due.due a1) t3 < 0 then some (0, 5) else some (wear_Due.idxFrom (wear_Due.due a1) t3, 0)) else some (0, 2)) else some (0, 70)
/-! ### dropperref07_Since: function 33 -/
mutual
def dropperref07_Since.l0 : Nat → List Int → List Int → Int → Option (List Int × Int)
 | 0, _, _, _ => none
 | k + 1, x0, x4, x5 => if x5 < (x0.length : Int) then (if 0 ≤ x5 then (if (rd x0 x5) < 0 then (dropperref07_Since.j1 k x0 x4 x5 true) else (dropperref07_Since.j1 k x0 x4 x5 (decide ((rd x0 x5) > 1000000000)))) else (none)) else (some (x4, 0))
def dropperref07_Since.j1 : Nat → List Int → List Int → Int → Bool → Option (List Int × Int)
 | 0, _, _, _, _ => none
 | k + 1, x0, x4, x5, x26 => if x26 = true then (some (([] : List Int), 2)) else (if x5 = 0 then (if 0 ≤ x5 then (if x5 < (x0.length : Int) then (if x4.length < 17592186044416 then (dropperref07_Since.l0 k x0 (x4 ++ [rd x0 x5]) (wrap64 (x5 + 1))) else (none)) else (none)) else (none)) else (if 0 ≤ x5 then (if x5 < (x0.length : Int) then (if 0 ≤ (wrap64 (x5 - 1)) then (if (wrap64 (x5 - 1)) < (x0.length : Int) then (if x4.length < 17592186044416 then (dropperref07_Since.l0 k x0 (x4 ++ [wrap64 ((rd x0 x5) - (rd x0 (wrap64 (x5 - 1))))]) (wrap64 (x5 + 1))) else (none)) else (none)) else (none)) else (none)) else (none)))
end
def dropperref07_Since.f (k : Nat) (l0 : List Int) : Option (List Int × Int) := if (l0.length : Int) = 60 then (dropperref07_Since.l0 k l0 ([] : List Int) 0) else (some (([] : List Int), 2))
/-! ### dropperref07_Less: function 21 -/
def dropperref07_Less.f (a0_0 : Int) (a0_1 : Int) (a1_0 : Int) (a1_1 : Int) : Option (Bool) := some (decide ((wrap64 (a0_0 * a1_1)) < (wrap64 (a1_0 * a0_1))))
/-! ### dropperref07_divisor: function 72 -/
def dropperref07_divisor.l0 : Nat → Int → Int → Option (Int)
 | 0, _, _ => none
 | k + 1, x0, x1 => if x1 = 0 then (some (mx x0 1)) else (dropperref07_divisor.l0 k x1 (Int.tmod x0 x1))
def dropperref07_divisor.f (k : Nat) (a0 : Int) (a1 : Int) : Option (Int) := dropperref07_divisor.l0 k (mx a0 (wrap64 (-a0))) (mx a1 (wrap64 (-a1)))
/-! ### dropperref07_ratio: function 73 -/
def dropperref07_ratio.f (k : Nat) (a0 : Int) (a1 : Int) : Option (Int × Int) := (dropperref07_divisor.f k a0 a1).bind fun t290 => (if t290 = 0 then (none) else (some (wrap64 (Int.tdiv a0 t290), wrap64 (Int.tdiv a1 t290))))
def dropperref07_ratio.T2 : Bool × List (List Nat × List Nat) := (true, [([], []), ([], []), ([0, 1], [0, 1]), ([], []), ([], []), ([3, 4], [3, 4]), ([2, 5], [2, 5]), ([6, 0, 1, 2, 3, 4, 5, 6], [6])])
def dropperref07_ratio.B2 : List Nat := [0, 0, 3, 0, 0, 24, 63, 127]
theorem dropperref07_ratio.tab2 : rtab .any (opsOf Try.f73 2) = dropperref07_ratio.T2 := by kernel_rfl
theorem dropperref07_ratio.bits2 : waitsOk dropperref07_ratio.T2.2 dropperref07_ratio.B2 = true := by kernel_rfl
/-! ### dropperref07_mean: function 77 -/
def dropperref07_mean.l0 : Nat → List Int → Int → Int → Option (Int × Int)
 | 0, _, _, _ => none
 | k + 1, x0, x3, x4 => if x4 < (x0.length : Int) then (if 0 ≤ x4 then (dropperref07_mean.l0 k x0 (wrap64 (x3 + (rd x0 x4))) (wrap64 (x4 + 1))) else (none)) else ((dropperref07_ratio.f k x3 (x0.length : Int)).bind fun bt293 => (some (bt293.1, bt293.2)))
def dropperref07_mean.f (k : Nat) (l0 : List Int) : Option (Int × Int) := dropperref07_mean.l0 k l0 0 0
/-! ### dropperref07_between: function 57 -/
mutual
def dropperref07_between.l0 : Nat → List Int → Int → Int → Int → Int → Option (Int × Int)
 | 0, _, _, _, _, _ => none
 | k + 1, x0, x1, x6, x297000, x297001 => if x6 ≤ x1 then (if 0 ≤ x6 then (if x6 ≤ (wrap64 (x1 + 1)) then (if (wrap64 (x1 + 1)) ≤ (x0.length : Int) then ((dropperref07_mean.f k ((x0.take ((wrap64 (x1 + 1)) : Int).toNat).drop (x6 : Int).toNat)).bind fun bt298 => (dropperref07_between.l1 k x0 x1 x6 x1 x297000 x297001 bt298.1 bt298.2)) else (none)) else (none)) else (none)) else (some (x297000, x297001))
def dropperref07_between.l1 : Nat → List Int → Int → Int → Int → Int → Int → Int → Int → Option (Int × Int)
 | 0, _, _, _, _, _, _, _, _ => none
 | k + 1, x0, x1, x6, x8, x297000, x297001, x301000, x301001 => if x8 < (x0.length : Int) then (if 0 ≤ x6 then (if x6 ≤ (wrap64 (x8 + 1)) then (if (wrap64 (x8 + 1)) ≤ (x0.length : Int) then ((dropperref07_mean.f k ((x0.take ((wrap64 (x8 + 1)) : Int).toNat).drop (x6 : Int).toNat)).bind fun bt303 => ((dropperref07_Less.f bt303.1 bt303.2 x301000 x301001).bind fun t306 => (if t306 = true then (dropperref07_between.l1 k x0 x1 x6 (wrap64 (x8 + 1)) x297000 x297001 bt303.1 bt303.2) else (dropperref07_between.l1 k x0 x1 x6 (wrap64 (x8 + 1)) x297000 x297001 x301000 x301001)))) else (none)) else (none)) else (none)) else (if x6 = 0 then (dropperref07_between.l0 k x0 x1 (wrap64 (x6 + 1)) x301000 x301001) else ((dropperref07_Less.f x297000 x297001 x301000 x301001).bind fun t301 => (if t301 = true then (dropperref07_between.l0 k x0 x1 (wrap64 (x6 + 1)) x301000 x301001) else (dropperref07_between.l0 k x0 x1 (wrap64 (x6 + 1)) x297000 x297001))))
end
def dropperref07_between.f (k : Nat) (l0 : List Int) (a1 : Int) : Option (Int × Int) := dropperref07_between.l0 k l0 a1 0 0 0
/-! ### dropperref07_Nearest: function 24 -/
def dropperref07_Nearest.l0 : Nat → List Int → List (S35) → Int → Option ((List (S35)) × Int)
 | 0, _, _, _ => none
 | k + 1, x0, x4, x5 => if x5 < (x0.length : Int) then ((dropperref07_between.f k x0 x5).bind fun bt308 => (if x4.length < 8796093022208 then (dropperref07_Nearest.l0 k x0 (x4 ++ [(⟨bt308.1, bt308.2⟩ : S35)]) (wrap64 (x5 + 1))) else (none))) else (some (x4, 0))
def dropperref07_Nearest.f (k : Nat) (l0 : List Int) : Option ((List (S35)) × Int) := (dropperref07_Valid.f k l0).bind fun t307 => (if t307 = true then (dropperref07_Nearest.l0 k l0 ([] : List (S35)) 0) else (some (([] : List (S35)), 70)))
/-! ### dropperref07_Due: function 34 -/
mutual
def dropperref07_Due.j0 : Nat → Int → List (S35) → Int → Bool → Option (Int × Int)
 | 0, _, _, _, _ => none
 | k + 1, x1, x6, x7, x23 => if x23 = true then (dropperref07_Due.j1 k x1 x6 2) else (dropperref07_Due.j1 k x1 x6 x7)
def dropperref07_Due.j1 : Nat → Int → List (S35) → Int → Option (Int × Int)
 | 0, _, _, _ => none
 | k + 1, x1, x6, x7 => if x7 = 0 then (dropperref07_Due.l0 k x1 x6 0) else (some (0, x7))
def dropperref07_Due.l0 : Nat → Int → List (S35) → Int → Option (Int × Int)
 | 0, _, _, _ => none
 | k + 1, x1, x6, x8 => if x8 < (x6.length : Int) then (if 0 ≤ x8 then (if ((rd_T35 x6 x8).f0) ≥ (wrap64 (x1 * ((rd_T35 x6 x8).f1))) then (some (x8, 0)) else (dropperref07_Due.l0 k x1 x6 (wrap64 (x8 + 1)))) else (none)) else (some (0, 5))
end
def dropperref07_Due.f (k : Nat) (l0 : List Int) (a1 : Int) : Option (Int × Int) := (dropperref07_Nearest.f k l0).bind fun bt455 => (if bt455.2 = 0 then (if a1 < 0 then (dropperref07_Due.j0 k a1 bt455.1 bt455.2 true) else (dropperref07_Due.j0 k a1 bt455.1 bt455.2 (decide (a1 > 10000)))) else (dropperref07_Due.j0 k a1 bt455.1 bt455.2 false))
/-! ### dropperlaw07_WearSince: function 9 -/
def dropperlaw07_WearSince.j0 : Nat → List Int → List Int → Int → Bool → Option (Bool)
 | 0, _, _, _, _ => none
 | k + 1, x0, x1, x2, x21 => if x21 = true then ((dropperlaw07_First.f k).bind fun t462 => (some t462)) else ((wear_Since.f k x0).bind fun bt463 => ((dropperref07_Since.f k x0).bind fun bt467 => ((wear_Due.f k x1 x2).bind fun bt471 => ((dropperref07_Due.f k x1 x2).bind fun bt473 => ((dropperlaw07_SameInts.f k bt463.1 bt467.1).bind fun t475 => (if t475 = true then (if bt463.2 = bt467.2 then (if bt471.1 = bt473.1 then (if bt471.2 = bt473.2 then ((dropperlaw07_First.f k).bind fun t476 => (some t476)) else (none)) else (none)) else (none)) else (none)))))))
def dropperlaw07_WearSince.f (k : Nat) (l0 : List Int) (l1 : List Int) (a2 : Int) : Option (Bool) := if (l0.length : Int) > 100 then (dropperlaw07_WearSince.j0 k l0 l1 a2 true) else ((dropperlaw07_Long.f l1 ([] : List (S35))).bind fun t461 => (dropperlaw07_WearSince.j0 k l0 l1 a2 t461))
def dropperlaw07_WearSince.Pure : Prop := ∀ (l0 : List Int) (l1 : List Int) (a2 : Int), l0.length ≤ maxLen → l0.length * 8 ≤ 140737488351232 → (∀ x ∈ l0, (Lit.int .i64 x).wf = true) → l1.length ≤ maxLen → l1.length * 8 ≤ 140737488351232 → (∀ x ∈ l1, (Lit.int .i64 x).wf = true) → (Lit.int .i64 a2).wf = true → ∃ k, dropperlaw07_WearSince.f k l0 l1 a2 = some true
end Go.Proofs.Ytpdcpekjafcohaa.XWear
namespace Go.Proofs.Ytpdcpekjafcohaa.Plain
set_option linter.unusedVariables false
set_option linter.unusedSimpArgs false
open Go.RowKit Go.Proofs.Ytpdcpekjafcohaa.XWear Go.Proofs.YtpdcpekjafcohaaW.PrintWords Go.Proofs.YtpdcpekjafcohaaW.PrintLast Go.Proofs.YtpdcpekjafcohaaW.PrintMore

/-! ### fractions in lowest terms -/
def R (n d : Int) : Int × Int := (n / (Int.gcd n d : Int), d / (Int.gcd n d : Int))
theorem gcd_pos {n d : Int} (hd : 0 < d) : 0 < (Int.gcd n d : Int) := by
 have : Int.gcd n d ≠ 0 := fun h => by have := (Int.gcd_eq_zero_iff.1 h).2; omega
 omega
theorem R_mul {n d : Int} (hd : 0 < d) : n = (Int.gcd n d : Int) * (R n d).1 ∧ d = (Int.gcd n d : Int) * (R n d).2 :=
 ⟨(Int.mul_ediv_cancel' (Int.gcd_dvd_left n d)).symm, (Int.mul_ediv_cancel' (Int.gcd_dvd_right n d)).symm⟩
theorem R_pos {n d : Int} (hd : 0 < d) : 0 < (R n d).2 := by
 have h := (R_mul (n := n) hd).2
 have g := gcd_pos (n := n) hd
 rcases Int.lt_trichotomy 0 (R n d).2 with h1 | h1 | h1
 ·
  exact h1
 ·
  rw [← h1] at h; omega
 ·
  have := Int.mul_neg_of_pos_of_neg g h1
  omega
theorem R_nonneg {n d : Int} (hn : 0 ≤ n) (hd : 0 < d) : 0 ≤ (R n d).1 := Int.ediv_nonneg hn (by have := gcd_pos (n := n) hd; omega)
theorem R_le {n d : Int} (hn : 0 ≤ n) (hd : 0 < d) : (R n d).1 ≤ n ∧ (R n d).2 ≤ d := by
 have g := gcd_pos (n := n) hd
 exact ⟨Int.ediv_le_self _ hn, Int.ediv_le_self _ (by omega)⟩
theorem R_cmp {n d m e : Int} (hd : 0 < d) (he : 0 < e) : ((R n d).1 * (R m e).2 < (R m e).1 * (R n d).2 ↔ n * e < m * d) := by
 have g1 := gcd_pos (n := n) hd
 have g2 := gcd_pos (n := m) he
 obtain ⟨a1, a2⟩ := R_mul (n := n) hd
 obtain ⟨b1, b2⟩ := R_mul (n := m) he
 generalize (Int.gcd n d : Int) = g at *
 generalize (Int.gcd m e : Int) = k at *
 generalize (R n d).1 = p at *
 generalize (R n d).2 = q at *
 generalize (R m e).1 = p' at *
 generalize (R m e).2 = q' at *
 subst a1 a2 b1 b2
 have hgk : 0 < g * k := Int.mul_pos g1 g2
 have e1 : g * p * (k * q') = g * k * (p * q') := by grind
 have e2 : k * p' * (g * q) = g * k * (p' * q) := by grind
 rw [e1, e2]
 exact ⟨fun h => Int.mul_lt_mul_of_pos_left h hgk, fun h => Int.lt_of_mul_lt_mul_left h (by omega)⟩
/-! ### the program's fractions -/
theorem gcd_ev : ∀ (b a : Nat), a ≤ 4000000000000000000 → b ≤ 4000000000000000000 → Ev (fun k => wear_gcd.l0 k (a : Int) (b : Int)) (Int.gcd a b : Int) := by
 intro b
 induction b using Nat.strongRecOn with
 | _ b ih =>
  intro a ha hb
  refine Ev.step (fun k => by rw [wear_gcd.l0]) ?_
  by_cases h : b = 0
  ·
   subst h
   refine ev_pos rfl (ev_const ?_)
   have e : wrap64 (-(a : Int)) = -(a : Int) := wrap_id (by omega) (by omega)
   rw [e]
   have : mx (a : Int) (-(a : Int)) = (a : Int) := by unfold mx; split <;> omega
   rw [this]; simp
  ·
   refine ev_neg (by omega) ?_
   have hlt : a % b < b := Nat.mod_lt _ (by omega)
   have e : Int.tmod (a : Int) (b : Int) = ((a % b : Nat) : Int) := by
    rw [Int.tmod_eq_emod_of_nonneg (by omega)]; rfl
   rw [e]
   have := ih (a % b) hlt b hb (by omega)
   have e2 : Int.gcd (b : Int) ((a % b : Nat) : Int) = Int.gcd (a : Int) (b : Int) := by
    show Nat.gcd b (a % b) = Nat.gcd a b
    rw [Nat.gcd_comm b, ← Nat.gcd_rec, Nat.gcd_comm]
   rw [e2] at this
   exact this
theorem R_fits {n d : Int} (hn : 0 ≤ n) (hd : 0 < d) (hn2 : n ≤ 4000000000000000000) (hd2 : d ≤ 4000000000000000000) :
  wrap64 (Int.tdiv n (Int.gcd n d : Int)) = (R n d).1 ∧ wrap64 (Int.tdiv d (Int.gcd n d : Int)) = (R n d).2 := by
 have h1 := R_le hn hd
 have h2 := R_nonneg hn hd
 have h3 := R_pos (n := n) hd
 have e1 : Int.tdiv n (Int.gcd n d : Int) = (R n d).1 := Int.tdiv_eq_ediv_of_nonneg hn
 have e2 : Int.tdiv d (Int.gcd n d : Int) = (R n d).2 := Int.tdiv_eq_ediv_of_nonneg (by omega)
 rw [e1, e2]
 exact ⟨wrap_id (by omega) (by omega), wrap_id (by omega) (by omega)⟩
theorem ratio_ev {n d : Int} (hn : 0 ≤ n) (hd : 0 < d) (hn2 : n ≤ 4000000000000000000) (hd2 : d ≤ 4000000000000000000) : Ev (fun k => wear_ratio.f k n d) (R n d) := by
 obtain ⟨e1, e2⟩ := R_fits hn hd hn2 hd2
 have g := gcd_pos (n := n) hd
 have hg : Ev (fun k => wear_gcd.f k n d) (Int.gcd n d : Int) := by
  obtain ⟨n', rfl⟩ := Int.eq_ofNat_of_zero_le hn
  obtain ⟨d', rfl⟩ := Int.eq_ofNat_of_zero_le (Int.le_of_lt hd)
  exact gcd_ev d' n' (by omega) (by omega)
 unfold wear_ratio.f
 refine Ev.bind hg (ev_neg (by omega) (ev_const ?_))
 rw [e1, e2]
/-! ### sums -/
def pre (r : List Int) : Nat → Int
 | 0 => 0
 | i + 1 => pre r i + rd r (i : Int)
theorem rd_bound {r : List Int} (hv : ∀ x ∈ r, 0 ≤ x ∧ x ≤ 10000) (i : Nat) : 0 ≤ rd r (i : Int) ∧ rd r (i : Int) ≤ 10000 := by
 by_cases h : i < r.length
 ·
  rw [rd_eq r i h]; exact hv _ (List.getElem_mem h)
 ·
  have : rd r (i : Int) = 0 := by simp [rd, List.getD_eq_getElem?_getD, List.getElem?_eq_none (show r.length ≤ i by omega)]
  omega
theorem pre_bound {r : List Int} (hv : ∀ x ∈ r, 0 ≤ x ∧ x ≤ 10000) (a : Nat) : ∀ d : Nat, 0 ≤ pre r (a + d) - pre r a ∧ pre r (a + d) - pre r a ≤ 10000 * d := by
 intro d
 induction d with
 | zero => simp
 | succ d ih =>
  have := rd_bound hv (a + d)
  show 0 ≤ pre r (a + d) + rd r ((a + d : Nat) : Int) - pre r a ∧ _
  have e : pre r (a + (d + 1)) = pre r (a + d) + rd r ((a + d : Nat) : Int) := rfl
  rw [e]
  omega
def sm (r : List Int) (a c : Nat) : Int := pre r (a + c) - pre r a
theorem sm_bound {r : List Int} (hv : ∀ x ∈ r, 0 ≤ x ∧ x ≤ 10000) (a c : Nat) : 0 ≤ sm r a c ∧ sm r a c ≤ 10000 * c := pre_bound hv a c
theorem sm_one (r : List Int) (a : Nat) : sm r a 1 = rd r (a : Int) := by
 have : pre r (a + 1) = pre r a + rd r (a : Int) := rfl
 unfold sm; omega
theorem sm_add (r : List Int) (a c d : Nat) : sm r a (c + d) = sm r a c + sm r (a + c) d := by
 unfold sm; rw [← Nat.add_assoc]; omega

/-! ### blocks: a row of them, one behind the other -/
structure Blk where
 f : Nat
 c : Nat
def Okb (r : List Int) (b : Blk) : Prop := 1 ≤ b.c ∧ ∀ x, x ≤ b.c → sm r b.f b.c * x ≤ sm r b.f x * b.c
def Lt (r : List Int) (a b : Blk) : Prop := sm r a.f a.c * b.c < sm r b.f b.c * a.c
def Chain (r : List Int) : Nat → List Blk → Nat → Prop
 | f, [], n => f = n
 | f, b :: l, n => b.f = f ∧ Okb r b ∧ Chain r (f + b.c) l n
theorem chain_append (r : List Int) (l1 l2 : List Blk) : ∀ f n, Chain r f (l1 ++ l2) n ↔ ∃ m, Chain r f l1 m ∧ Chain r m l2 n := by
 induction l1 with
 | nil => intro f n; simp [Chain]
 | cons b l1 ih =>
  intro f n
  simp only [List.cons_append, Chain, ih]
  constructor
  ·
   rintro ⟨a, b, m, c, d⟩; exact ⟨m, ⟨a, b, c⟩, d⟩
  ·
   rintro ⟨m, ⟨a, b, c⟩, d⟩; exact ⟨a, b, m, c, d⟩
theorem chain_le (r : List Int) (l : List Blk) : ∀ f n, Chain r f l n → f + l.length ≤ n := by
 induction l with
 | nil => intro f n h; have : f = n := h; simp; omega
 | cons b l ih =>
  intro f n h
  have h1 := ih _ _ h.2.2
  have h2 := h.2.1.1
  simp; omega
theorem okb_one (r : List Int) (f : Nat) : Okb r ⟨f, 1⟩ := by
 refine ⟨Nat.le_refl _, fun x hx => ?_⟩
 have hx' : x ≤ 1 := hx
 rcases (show x = 0 ∨ x = 1 by omega) with rfl | rfl
 ·
  show sm r f 1 * ((0 : Nat) : Int) ≤ sm r f 0 * ((1 : Nat) : Int)
  have : sm r f 0 = 0 := by simp [sm]
  rw [this]; simp
 ·
  exact Int.le_refl _
theorem okb_merge (r : List Int) (f c d : Nat) (h1 : Okb r ⟨f, c⟩) (h2 : Okb r ⟨f + c, d⟩) (h : sm r (f + c) d * c ≤ sm r f c * d) : Okb r ⟨f, c + d⟩ := by
 obtain ⟨a1, a2⟩ := h1
 obtain ⟨b1, b2⟩ := h2
 simp only at a1 a2 b1 b2
 refine ⟨by simp only; omega, fun x hx => ?_⟩
 simp only at hx ⊢
 rw [sm_add]
 generalize hs : sm r f c = s at *
 generalize ht : sm r (f + c) d = t at *
 have hcd : ((c + d : Nat) : Int) = (c : Int) + (d : Int) := by omega
 rw [hcd]
 have hc0 : (0 : Int) < (c : Int) := by omega
 have hd0 : (0 : Int) < (d : Int) := by omega
 by_cases hxc : x ≤ c
 ·
  have h3 := a2 x hxc
  have hx0 : (0 : Int) ≤ (x : Int) := by omega
  generalize sm r f x = P at *
  generalize (c : Int) = C at *
  generalize (d : Int) = D at *
  generalize (x : Int) = X at *
  -- (s + t) X ≤ P (C + D): times C
  apply Int.le_of_mul_le_mul_left (a := C) _ hc0
  have k1 : s * X * (C + D) ≤ P * C * (C + D) := Int.mul_le_mul_of_nonneg_right h3 (by omega)
  have k2 : t * C * X ≤ s * D * X := Int.mul_le_mul_of_nonneg_right h hx0
  grind
 ·
  obtain ⟨y, rfl⟩ : ∃ y, x = c + y := ⟨x - c, by omega⟩
  have h3 := b2 y (by omega)
  have hy : y ≤ d := by omega
  rw [sm_add, hs]
  have hcy : ((c + y : Nat) : Int) = (c : Int) + (y : Int) := by omega
  rw [hcy]
  have hy0 : (0 : Int) ≤ (d : Int) - (y : Int) := by omega
  generalize sm r (f + c) y = Q at *
  generalize (c : Int) = C at *
  generalize (d : Int) = D at *
  generalize (y : Int) = Y at *
  apply Int.le_of_mul_le_mul_left (a := D) _ hd0
  have k1 : t * Y * (C + D) ≤ Q * D * (C + D) := Int.mul_le_mul_of_nonneg_right h3 (by omega)
  have k2 : t * C * (D - Y) ≤ s * D * (D - Y) := Int.mul_le_mul_of_nonneg_right h hy0
  grind

/-! ### a line under the sums -/
/-! ### the program's blocks -/
def toS (r : List Int) (b : Blk) : S74 := ⟨(b.f : Int), sm r b.f b.c, (b.c : Int)⟩
theorem wrap_mul {a b A B : Int} (ha : 0 ≤ a) (hb : 0 ≤ b) (hA : a ≤ A) (hB : b ≤ B) (h : A * B ≤ 9223372036854775807) : wrap64 (a * b) = a * b := by
 have h1 : 0 ≤ a * b := Int.mul_nonneg ha hb
 have h2 : a * b ≤ A * B := Int.mul_le_mul hA hB hb (by omega)
 exact wrap_id (by omega) (by omega)
theorem less_f {n d m e : Int} (hn : 0 ≤ n) (hd : 0 < d) (hm : 0 ≤ m) (he : 0 < e) (bn : n ≤ 1000000) (bd : d ≤ 1000) (bm : m ≤ 1000000) (be : e ≤ 1000) :
  decide (wrap64 ((R n d).1 * (R m e).2) < wrap64 ((R m e).1 * (R n d).2)) = decide (n * e < m * d) := by
 have a1 := R_le hn hd
 have a2 := R_le hm he
 have a3 := R_nonneg hn hd
 have a4 := R_nonneg hm he
 have a5 := R_pos (n := n) hd
 have a6 := R_pos (n := m) he
 rw [wrap_mul a3 (Int.le_of_lt a6) (A := 1000000) (B := 1000) (by omega) (by omega) (by decide), wrap_mul a4 (Int.le_of_lt a5) (A := 1000000) (B := 1000) (by omega) (by omega) (by decide)]
 exact decide_eq_decide.2 (R_cmp hd he)
theorem block_mean_ev {f s c : Int} (hs : 0 ≤ s) (hc : 0 < c) (hs2 : s ≤ 1000000) (hc2 : c ≤ 1000) : Ev (fun k => wear_block_mean.f k f s c) (R s c) := by
 unfold wear_block_mean.f
 exact Ev.bind (ratio_ev hs hc (by omega) (by omega)) (Ev.now _)
theorem rd_S74 (xs : List S74) (i : Nat) (h : i < xs.length) : rd_T74 xs (i : Int) = xs[i] := by simp [rd_T74, List.getD_eq_getElem?_getD, h]
theorem blocks_l1 (r : List Int) (h2 : r.length ≤ 40) (hv : ∀ x ∈ r, 0 ≤ x ∧ x ≤ 10000) (i : Nat) (hi : i < r.length) :
  ∀ (m : Nat) (L : List Blk) (b : Blk), L.length = m → Chain r 0 L b.f → L.Pairwise (Lt r) → Okb r b → b.f + b.c = i + 1 →
  ∃ L', Chain r 0 L' (i + 1) ∧ L'.Pairwise (Lt r) ∧ ∀ res, Ev (fun k => wear_blocks.l0 k (L'.map (toS r)) r (r.length : Int) ((i + 1 : Nat) : Int)) res →
   Ev (fun k => wear_blocks.l1 k (L.map (toS r)) ((m : Int) - 1) r (r.length : Int) (i : Int) (b.f : Int) (sm r b.f b.c) (b.c : Int)) res := by
 intro m
 have hw : wrap64 ((i : Int) + 1) = ((i + 1 : Nat) : Int) := wrap_succ _ (by omega)
 induction m with
 | zero =>
  intro L b hL hch hp hok hbi
  obtain rfl := List.length_eq_zero_iff.1 hL
  refine ⟨[b], ?_, by simp, ?_⟩
  ·
   have : (0 : Nat) = b.f := hch
   exact ⟨this.symm, hok, show 0 + b.c = i + 1 by omega⟩
  ·
   intro res h
   refine Ev.step (fun k => by rw [wear_blocks.l1]) ?_
   refine ev_neg (by omega) (ev_pos (by simp) ?_)
   rw [hw]
   exact h
 | succ m ih =>
  intro L b hL hch hp hok hbi
  rcases List.eq_nil_or_concat L with rfl | ⟨L0, t, he⟩
  ·
   simp at hL
  rw [List.concat_eq_append] at he
  subst he
  have hL0 : L0.length = m := by simpa using hL
  obtain ⟨q, hc1, hc2⟩ := (chain_append r L0 [t] 0 b.f).1 hch
  obtain ⟨rfl, htok, hte⟩ := hc2
  have hte' : t.f + t.c = b.f := hte
  obtain ⟨p1, _, p3⟩ := List.pairwise_append.1 hp
  have bt := sm_bound hv t.f t.c
  have bb := sm_bound hv b.f b.c
  have c1 := htok.1
  have c2 := hok.1
  have hget : rd_T74 ((L0 ++ [t]).map (toS r)) (((m + 1 : Nat) : Int) - 1) = toS r t := by
   have e : (((m + 1 : Nat) : Int) - 1) = (m : Int) := by omega
   rw [e, rd_S74 _ m (by simp; omega)]
   simp [← hL0]
  have hx : ((m + 1 : Nat) : Int) - 1 = (m : Int) := by omega
  have hm40 : m + 1 ≤ 40 := by have := chain_le r _ _ _ hch; rw [List.length_append, hL0] at this; simp at this; omega
  have hlen : ((L0 ++ [t]).map (toS r)).length = m + 1 := by simp [hL0]
  have hstep : ∀ res, Ev (fun k => if decide (sm r t.f t.c * b.c < sm r b.f b.c * t.c) = true then
    (if ((L0 ++ [t]).map (toS r)).length < 5864062014805 then (wear_blocks.l0 k ((L0 ++ [t]).map (toS r) ++ [(⟨(b.f : Int), sm r b.f b.c, (b.c : Int)⟩ : S74)]) r (r.length : Int) (wrap64 ((i : Int) + 1))) else none)
    else (if (m : Int) ≤ (((L0 ++ [t]).map (toS r)).length : Int) then (wear_blocks.l1 k (((L0 ++ [t]).map (toS r)).take ((m : Int)).toNat) (wrap64 ((m : Int) - 1)) r (r.length : Int) (i : Int) (t.f : Int) (wrap64 (sm r t.f t.c + sm r b.f b.c)) (wrap64 ((t.c : Int) + (b.c : Int)))) else none)) res →
    Ev (fun k => wear_blocks.l1 k ((L0 ++ [t]).map (toS r)) (((m + 1 : Nat) : Int) - 1) r (r.length : Int) (i : Int) (b.f : Int) (sm r b.f b.c) (b.c : Int)) res := by
   intro res h
   refine Ev.step (fun k => by rw [wear_blocks.l1]) ?_
   rw [hget, hx]
   refine ev_pos (by omega) (ev_pos (by omega) (ev_pos (by rw [hlen]; omega) ?_))
   refine Ev.bind (block_mean_ev (f := (toS r t).f0) (s := sm r t.f t.c) (c := t.c) (by omega) (by omega) (by omega) (by omega)) ?_
   refine Ev.bind (block_mean_ev (f := (b.f : Int)) (s := sm r b.f b.c) (c := b.c) (by omega) (by omega) (by omega) (by omega)) ?_
   unfold wear_less.f
   rw [less_f (by omega) (by omega) (by omega) (by omega) (by omega) (by omega) (by omega) (by omega)]
   exact ev_some h
  by_cases hlt : sm r t.f t.c * b.c < sm r b.f b.c * t.c
  ·
   refine ⟨(L0 ++ [t]) ++ [b], ?_, ?_, ?_⟩
   ·
    exact (chain_append r (L0 ++ [t]) [b] 0 (i + 1)).2 ⟨b.f, hch, rfl, hok, hbi⟩
   ·
    rw [List.pairwise_append]
    refine ⟨hp, by simp, ?_⟩
    intro a ha b' hb'
    obtain rfl : b' = b := by simpa using hb'
    rcases List.mem_append.1 ha with ha | ha
    ·
     have h1 := p3 a ha t (by simp)
     -- a < t < b
     unfold Lt at h1 ⊢
     have ca : 1 ≤ a.c := by
      obtain ⟨l1, l2, e⟩ := List.append_of_mem ha
      rw [e] at hc1
      obtain ⟨_, _, h5⟩ := (chain_append r l1 (a :: l2) 0 t.f).1 hc1
      exact h5.2.1.1
     have t0 : (0 : Int) < (t.c : Int) := by omega
     have a0 : (0 : Int) < (a.c : Int) := by omega
     have b0 : (0 : Int) < (b'.c : Int) := by omega
     generalize sm r a.f a.c = A at *
     generalize sm r t.f t.c = T at *
     generalize sm r b'.f b'.c = B at *
     generalize (a.c : Int) = x at *
     generalize (t.c : Int) = y at *
     generalize (b'.c : Int) = z at *
     apply Int.lt_of_mul_lt_mul_left (a := y) _ (by omega)
     have k1 : A * y * z < T * x * z := Int.mul_lt_mul_of_pos_right h1 b0
     have k2 : T * z * x < B * y * x := Int.mul_lt_mul_of_pos_right hlt a0
     grind
    ·
     obtain rfl : a = t := by simpa using ha
     exact hlt
   ·
    intro res h
    refine hstep res (ev_pos (by simpa using hlt) (ev_pos (by rw [hlen]; omega) ?_))
    rw [hw]
    rw [List.map_append] at h
    exact h
  ·
   have hmerge : Okb r ⟨t.f, t.c + b.c⟩ := by
    refine okb_merge r t.f t.c b.c htok ?_ ?_
    ·
     rw [hte']; exact hok
    ·
     rw [hte']; omega
   obtain ⟨L', k1, k2, k3⟩ := ih L0 ⟨t.f, t.c + b.c⟩ hL0 hc1 p1 hmerge (by simp only; omega)
   refine ⟨L', k1, k2, fun res h => ?_⟩
   refine hstep res (ev_neg (by simpa using hlt) (ev_pos (by rw [hlen]; omega) ?_))
   have e1 : ((L0 ++ [t]).map (toS r)).take ((m : Int)).toNat = L0.map (toS r) := by
    rw [Int.toNat_natCast, List.map_append, List.take_append_of_le_length (by simp; omega), List.take_of_length_le (by simp; omega)]
   have e2 : wrap64 ((m : Int) - 1) = (m : Int) - 1 := wrap_id (by omega) (by have := chain_le r _ _ _ hch; rw [List.length_append] at this; simp at this; omega)
   have e3 : wrap64 (sm r t.f t.c + sm r b.f b.c) = sm r t.f (t.c + b.c) := by
    rw [sm_add, hte']; exact wrap_id (by omega) (by omega)
   have e4 : wrap64 ((t.c : Int) + (b.c : Int)) = ((t.c + b.c : Nat) : Int) := wrap_plus _ _ (by omega) (by omega)
   rw [e1, e2, e3, e4]
   exact k3 res h
theorem blocks_l0 (r : List Int) (h2 : r.length ≤ 40) (hv : ∀ x ∈ r, 0 ≤ x ∧ x ≤ 10000) : ∀ (d i : Nat) (L : List Blk), i + d = r.length → Chain r 0 L i → L.Pairwise (Lt r) →
  ∃ L', Chain r 0 L' r.length ∧ L'.Pairwise (Lt r) ∧ Ev (fun k => wear_blocks.l0 k (L.map (toS r)) r (r.length : Int) (i : Int)) (L'.map (toS r)) := by
 intro d
 induction d with
 | zero =>
  intro i L hi hc hp
  obtain rfl : i = r.length := by omega
  refine ⟨L, hc, hp, ?_⟩
  refine Ev.step (fun k => by rw [wear_blocks.l0]) ?_
  exact ev_neg (by omega) (Ev.now _)
 | succ d ih =>
  intro i L hi hc hp
  have hlen := chain_le r L 0 i hc
  obtain ⟨L1, c1, p1, k1⟩ := blocks_l1 r h2 hv i (by omega) L.length L ⟨i, 1⟩ rfl hc hp (okb_one r i) rfl
  obtain ⟨L2, c2, p2, k2⟩ := ih (i + 1) L1 (by omega) c1 p1
  refine ⟨L2, c2, p2, ?_⟩
  refine Ev.step (fun k => by rw [wear_blocks.l0]) ?_
  refine ev_pos (by omega) (ev_pos (by omega) (ev_pos (by omega) ?_))
  have e1 : wrap64 (((L.map (toS r)).length : Int) - 1) = (L.length : Int) - 1 := by
   rw [List.length_map]; exact wrap_id (by omega) (by omega)
  rw [e1]
  have := k1 _ k2
  rw [sm_one] at this
  exact this
theorem blocks_ev (r : List Int) (h2 : r.length ≤ 40) (hv : ∀ x ∈ r, 0 ≤ x ∧ x ≤ 10000) :
  ∃ L, Chain r 0 L r.length ∧ L.Pairwise (Lt r) ∧ Ev (fun k => wear_blocks.f k r) (L.map (toS r)) :=
 blocks_l0 r h2 hv r.length 0 [] (by omega) rfl List.Pairwise.nil

/-! ### the program's nearest row -/
/-! ### the document's order -/
end Go.Proofs.Ytpdcpekjafcohaa.Plain

namespace Go.Proofs.Ytpdcpekjafcohaa.Plain
set_option linter.unusedVariables false
set_option linter.unusedSimpArgs false
open Go.RowKit Go.Proofs.Ytpdcpekjafcohaa.XWear Go.Proofs.YtpdcpekjafcohaaW.PrintWords Go.Proofs.YtpdcpekjafcohaaW.PrintLast Go.Proofs.YtpdcpekjafcohaaW.PrintMore

structure Row (r : List Int) (L : List Blk) : Prop where
 ch : Chain r 0 L r.length
 pw : L.Pairwise (Lt r)
 ev : Ev (fun k => wear_blocks.f k r) (L.map (toS r))
theorem row (r : List Int) (h : ok r = true) : ∃ L, Row r L := by
 have h' := (ok_iff r).1 h
 obtain ⟨L, a, b, c⟩ := blocks_ev r h'.2.1 h'.2.2
 exact ⟨L, a, b, c⟩
/-! ### SameRatios at one and the same row -/
end Go.Proofs.Ytpdcpekjafcohaa.Plain

namespace Go.Proofs.Ytpdcpekjafcohaa.Plain
set_option linter.unusedVariables false
set_option linter.unusedSimpArgs false
open Go.RowKit Go.Proofs.Ytpdcpekjafcohaa.XWear Go.Proofs.YtpdcpekjafcohaaW.PrintWords Go.Proofs.YtpdcpekjafcohaaW.PrintLast Go.Proofs.YtpdcpekjafcohaaW.PrintMore

end Go.Proofs.Ytpdcpekjafcohaa.Plain

namespace Go.Proofs.Ytpdcpekjafcohaa.XWear
open Go.RowKit Go.Proofs.YtpdcpekjafcohaaW.PrintWords Go.Proofs.YtpdcpekjafcohaaW.PrintLast Go.Proofs.YtpdcpekjafcohaaW.PrintMore
attribute [local go_sem] max2_int min2_int max_two min_two max_three min_three max_four min_four   -- for this text's walks alone
set_option linter.unusedVariables false
set_option linter.unusedSimpArgs false
/-! ### wear_Blocks: function 25 -/
def wear_Blocks.l0 : Nat → List Int → List (S74) → Int → Int → Option (List Int × Int)
 | 0, _, _, _, _ => none
 | k + 1, x4, x11, x12, x13 => if x13 < x12 then (if 0 ≤ x13 then (if x13 < (x11.length : Int) then (if x4.length < 17592186044416 then (wear_Blocks.l0 k (x4 ++ [(rd_T74 x11 x13).f0]) x11 x12 (wrap64 (x13 + 1))) else (none)) else (none)) else (none)) else (some (x4, 0))
end Go.Proofs.Ytpdcpekjafcohaa.XWear
namespace Go.Proofs.Ytpdcpekjafcohaa.XWear
open Go.RowKit Go.Proofs.YtpdcpekjafcohaaW.PrintWords Go.Proofs.YtpdcpekjafcohaaW.PrintLast Go.Proofs.YtpdcpekjafcohaaW.PrintMore
attribute [local go_sem] max2_int min2_int max_two min_two max_three min_three max_four min_four   -- for this text's walks alone
set_option linter.unusedVariables false
set_option linter.unusedSimpArgs false
attribute [local go_sem high] eqA35
/-! ### dropperref07_Blocks: function 26 -/
def dropperref07_Blocks.l0 : Nat → List (S35) → Int → List Int → Int → Option (List Int × Int)
 | 0, _, _, _, _ => none
 | k + 1, x4, x5, x6, x7 => if x7 < (x4.length : Int) then (if x7 = 0 then (if x6.length < 17592186044416 then (dropperref07_Blocks.l0 k x4 x5 (x6 ++ [x7]) (wrap64 (x7 + 1))) else (none)) else (if 0 ≤ x7 then (if 0 ≤ (wrap64 (x7 - 1)) then (if (wrap64 (x7 - 1)) < (x4.length : Int) then (if (!(((rd_T35 x4 x7).f0) == ((rd_T35 x4 (wrap64 (x7 - 1))).f0)) || (!(((rd_T35 x4 x7).f1) == ((rd_T35 x4 (wrap64 (x7 - 1))).f1)))) = true then (if x6.length < 17592186044416 then (dropperref07_Blocks.l0 k x4 x5 (x6 ++ [x7]) (wrap64 (x7 + 1))) else (none)) else (dropperref07_Blocks.l0 k x4 x5 x6 (wrap64 (x7 + 1)))) else (none)) else (none)) else (none))) else (some (x6, x5))
end Go.Proofs.Ytpdcpekjafcohaa.XWear
namespace Go.Proofs.Ytpdcpekjafcohaa.Plain
set_option linter.unusedVariables false
set_option linter.unusedSimpArgs false
open Go.RowKit Go.Proofs.Ytpdcpekjafcohaa.XWear Go.Proofs.YtpdcpekjafcohaaW.PrintWords Go.Proofs.YtpdcpekjafcohaaW.PrintLast Go.Proofs.YtpdcpekjafcohaaW.PrintMore

end Go.Proofs.Ytpdcpekjafcohaa.Plain

namespace Go.Proofs.Ytpdcpekjafcohaa.Plain
set_option linter.unusedVariables false
set_option linter.unusedSimpArgs false
open Go.RowKit Go.Proofs.Ytpdcpekjafcohaa.XWear Go.Proofs.YtpdcpekjafcohaaW.PrintWords Go.Proofs.YtpdcpekjafcohaaW.PrintLast Go.Proofs.YtpdcpekjafcohaaW.PrintMore

/-! ### the document's nearest row -/
end Go.Proofs.Ytpdcpekjafcohaa.Plain

namespace Go.Proofs.Ytpdcpekjafcohaa.Plain
set_option linter.unusedVariables false
set_option linter.unusedSimpArgs false
open Go.RowKit Go.Proofs.Ytpdcpekjafcohaa.XWear Go.Proofs.YtpdcpekjafcohaaW.PrintWords Go.Proofs.YtpdcpekjafcohaaW.PrintLast Go.Proofs.YtpdcpekjafcohaaW.PrintMore

/-! ### where the blocks begin -/
end Go.Proofs.Ytpdcpekjafcohaa.Plain

namespace Go.Proofs.Ytpdcpekjafcohaa.Plain
set_option linter.unusedVariables false
set_option linter.unusedSimpArgs false
open Go.RowKit Go.Proofs.Ytpdcpekjafcohaa.XWear Go.Proofs.YtpdcpekjafcohaaW.PrintWords Go.Proofs.YtpdcpekjafcohaaW.PrintLast Go.Proofs.YtpdcpekjafcohaaW.PrintMore

end Go.Proofs.Ytpdcpekjafcohaa.Plain

/- By how much totals (at most 100) grow, and when readings (at most 100) come to a limit: program and document return the same, with the same errors. No condition but the statement's own. -/
namespace Go.Proofs.Ytpdcpekjafcohaa.Pure
set_option linter.unusedVariables false
set_option linter.unusedSimpArgs false
open Go.RowKit Go.Proofs.Ytpdcpekjafcohaa.XWear Go.Proofs.YtpdcpekjafcohaaW.PrintWords Go.Proofs.YtpdcpekjafcohaaW.PrintLast
open Go.Proofs.Ytpdcpekjafcohaa.Plain

def dif (t : List Int) (k : Nat) : Int := if k = 0 then rd t (0 : Int) else wrap64 (rd t (k : Int) - rd t ((k - 1 : Nat) : Int))
def difs (t : List Int) (n : Nat) : List Int := (List.range n).map (dif t)
theorem difs_succ (t : List Int) (n : Nat) : difs t (n + 1) = difs t n ++ [dif t n] := by simp [difs, List.range_succ]
theorem difs_len (t : List Int) (n : Nat) : (difs t n).length = n := by simp [difs]
def fits (t : List Int) : Prop := ∀ x ∈ t, 0 ≤ x ∧ x ≤ 1000000000
def sinceOf (t : List Int) (b : Bool) : List Int × Int := if b = true then (difs t 60, 0) else ([], 2)
theorem since_l0 (t : List Int) (h : t.length = 60) : ∀ (d i : Nat), i + d = 59 →
  Ev (fun k => wear_Since.l0 k t (difs t (i + 1) ++ t.drop (i + 1)) 59 (i : Int)) (difs t 60, 0) := by
 intro d
 induction d with
 | zero =>
  intro i hi
  obtain rfl : i = 59 := by omega
  refine Ev.step (fun k => by rw [wear_Since.l0]) (ev_neg (by omega) (ev_const ?_))
  rw [show t.drop (59 + 1) = [] from List.drop_eq_nil_of_le (by omega), List.append_nil]
 | succ d ih =>
  intro i hi
  have hlen : (difs t (i + 1) ++ t.drop (i + 1)).length = 60 := by rw [List.length_append, difs_len, List.length_drop]; omega
  refine Ev.step (fun k => by rw [wear_Since.l0]) ?_
  rw [wrap_succ _ (by omega)]
  refine ev_pos (by omega) (ev_pos (by omega) (ev_pos (by omega) (ev_pos (by omega) (ev_pos (by omega) ?_))))
  have hlt : i + 1 < t.length := by omega
  have hd : t.drop (i + 1) = t[i + 1] :: t.drop (i + 2) := List.drop_eq_getElem_cons hlt
  have e1 : rd (difs t (i + 1) ++ t.drop (i + 1)) ((i + 1 : Nat) : Int) = rd t ((i + 1 : Nat) : Int) := by
   rw [rd_eq _ _ (by omega), rd_eq _ _ hlt, List.getElem_append_right (by rw [difs_len]; omega), List.getElem_drop]
   congr 1
   rw [difs_len]; omega
  rw [e1, Int.toNat_natCast]
  have e2 : (difs t (i + 1) ++ t.drop (i + 1)).set (i + 1) (wrap64 (rd t ((i + 1 : Nat) : Int) - rd t (i : Int))) = difs t (i + 1 + 1) ++ t.drop (i + 1 + 1) := by
   rw [List.set_append_right _ _ (by rw [difs_len]; omega), difs_len, Nat.sub_self, hd, List.set_cons_zero, difs_succ t (i + 1), List.append_assoc]
   rfl
  rw [e2]
  exact ih (i + 1) (by omega)
theorem bad_iff (x : Int) : slices_ContainsFunc_int_int.bad x = true ↔ ¬ (0 ≤ x ∧ x ≤ 1000000000) := by
 unfold slices_ContainsFunc_int_int.bad
 simp only [Bool.not_eq_true', Bool.and_eq_false_iff, decide_eq_false_iff_not]
 omega
instance (t : List Int) : Decidable (fits t) := inferInstanceAs (Decidable (∀ x ∈ t, 0 ≤ x ∧ x ≤ 1000000000))
theorem Since_ev (t : List Int) : Ev (fun k => wear_Since.f k t) (sinceOf t (decide (t.length = 60 ∧ fits t))) := by
 have no : ∀ b, b = false → Ev (fun k => wear_Since.j0 k t true) (sinceOf t b) := by
  rintro b rfl
  refine Ev.step (fun k => by rw [wear_Since.j0]) ?_
  exact ev_pos rfl (Ev.now _)
 unfold wear_Since.f
 by_cases h : t.length = 60
 ·
  refine ev_pos (by omega) ?_
  rw [show slices_ContainsFunc_int_int.f t 64 = some (t.any slices_ContainsFunc_int_int.bad) from rfl]
  refine ev_some ?_
  by_cases hf : fits t
  ·
   have : t.any slices_ContainsFunc_int_int.bad = false := by
    rw [List.any_eq_false]
    intro x hx
    rw [bad_iff]
    exact fun hn => hn (hf x hx)
   rw [this, decide_eq_true ⟨h, hf⟩]
   refine Ev.step (fun k => by rw [wear_Since.j0]) (ev_neg (by simp) ?_)
   have e : slices_Clone_int_int.f t = some t := by
    unfold slices_Clone_int_int.f
    rw [if_pos (by omega)]
   rw [e]
   refine ev_some (ev_pos (by omega) ?_)
   have := since_l0 t h 59 0 (by omega)
   have e2 : difs t (0 + 1) ++ t.drop (0 + 1) = t := by
    have hd : t = t[0] :: t.drop 1 := by rw [← List.drop_eq_getElem_cons (show 0 < t.length by omega)]; rfl
    have : difs t (0 + 1) = [rd t ((0 : Nat) : Int)] := rfl
    rw [this, rd_eq t 0 (by omega)]
    exact hd.symm
   rw [e2] at this
   rw [List.length_drop, h]
   exact this
  ·
   have : t.any slices_ContainsFunc_int_int.bad = true := by
    rw [List.any_eq_true]
    unfold fits at hf
    simp only [Classical.not_forall] at hf
    obtain ⟨x, hx, hb⟩ := hf
    exact ⟨x, hx, (bad_iff x).2 hb⟩
   rw [this]
   exact no _ (decide_eq_false (fun h => hf h.2))
 ·
  exact ev_neg (by omega) (no _ (decide_eq_false (fun h2 => h h2.1)))
end Go.Proofs.Ytpdcpekjafcohaa.Pure

/- The passes of two lists of runs (at most 20 each): the totals of both together are the sums, what they grow by adds up to them, and all of them together are what the runs bring. No condition but the statement's own. -/
namespace Go.Proofs.Ytpdcpekjafcohaa.Pure
set_option linter.unusedVariables false
set_option linter.unusedSimpArgs false
open Go.RowKit Go.Proofs.Ytpdcpekjafcohaa.XWear Go.Proofs.YtpdcpekjafcohaaW.PrintWords Go.Proofs.YtpdcpekjafcohaaW.PrintLast Go.Proofs.YtpdcpekjafcohaaW.PrintMore
open Go.Proofs.Ytpdcpekjafcohaa.Plain

def cnt (x : S55) (i : Nat) : Int := if (i : Int) ≤ x.f0 then 0 else if (i : Int) ≤ x.f1 + 1 then (i : Int) - x.f0 else x.f1 + 1 - x.f0
def all : List S55 → Nat → Int
 | [], _ => 0
 | x :: t, i => x.f2 * cnt x i + all t i
theorem cnt_step {x : S55} (h : ROk x) (i : Nat) : x.f2 * cnt x (i + 1) = x.f2 * cnt x i + rone x (i : Int) := by
 obtain ⟨h0, h1, h2, h3, h4⟩ := h
 have e : cnt x (i + 1) = cnt x i + (if x.f0 ≤ (i : Int) ∧ (i : Int) ≤ x.f1 then 1 else 0) := by
  unfold cnt
  by_cases c1 : ((i : Int) ≤ x.f0)
  ·
   rw [if_pos c1]
   by_cases c2 : ((i + 1 : Nat) : Int) ≤ x.f0
   ·
    rw [if_pos c2, if_neg (by omega)]; rfl
   ·
    rw [if_neg c2, if_pos (by omega), if_pos ⟨by omega, by omega⟩]; omega
  ·
   rw [if_neg c1, if_neg (show ¬ ((i + 1 : Nat) : Int) ≤ x.f0 by omega)]
   by_cases c2 : ((i + 1 : Nat) : Int) ≤ x.f1 + 1
   ·
    rw [if_pos c2, if_pos (by omega), if_pos ⟨by omega, by omega⟩]; omega
   ·
    rw [if_neg c2]
    by_cases c3 : (i : Int) ≤ x.f1 + 1
    ·
     rw [if_pos c3, if_neg (by omega)]; omega
    ·
     rw [if_neg c3, if_neg (by omega)]; omega
 rw [e, Int.mul_add]
 unfold rone
 split
 ·
  rw [Int.mul_one]
 ·
  rw [Int.mul_zero]
theorem all_step : ∀ {l : List S55} (h : ∀ x ∈ l, ROk x) (i : Nat), all l (i + 1) = all l i + rval l (i : Int)
 | [], _, _ => rfl
 | x :: t, h, i => by
  rw [all, all, rval, cnt_step (h x (by simp)), all_step (fun y hy => h y (by simp [hy]))]
  omega
theorem all_zero : ∀ {l : List S55} (h : ∀ x ∈ l, ROk x), all l 0 = 0
 | [], _ => rfl
 | x :: t, h => by
  have h0 := (h x (by simp)).1
  rw [all, all_zero (fun y hy => h y (by simp [hy])), cnt, if_pos (by omega), Int.mul_zero]
  rfl
theorem all_bd {l : List S55} (h : ∀ x ∈ l, ROk x) : ∀ i : Nat, 0 ≤ all l i ∧ all l i ≤ 1000000 * (l.length : Int) * (i : Int)
 | 0 => by rw [all_zero h]; simp
 | i + 1 => by
  have a := all_bd h i
  have b := rval_bd h (i : Int)
  rw [all_step h]
  have e : 1000000 * (l.length : Int) * ((i + 1 : Nat) : Int) = 1000000 * (l.length : Int) * (i : Int) + 1000000 * (l.length : Int) := by
   rw [show ((i + 1 : Nat) : Int) = (i : Int) + 1 by omega, Int.mul_add, Int.mul_one]
  rw [e]
  omega
theorem all_append : ∀ (a b : List S55) (i : Nat), all (a ++ b) i = all a i + all b i
 | [], b, i => by simp [all]
 | x :: t, b, i => by rw [List.cons_append, all, all, all_append]; omega
theorem cnt_end {x : S55} (h : ROk x) : cnt x 60 = x.f1 - x.f0 + 1 := by
 obtain ⟨h0, h1, h2, h3, h4⟩ := h
 unfold cnt
 rw [if_neg (by omega)]
 split <;> omega
theorem cnt_bd {x : S55} (h : ROk x) : 0 ≤ x.f2 * cnt x 60 ∧ x.f2 * cnt x 60 ≤ 60000000 := by
 have a := all_bd (l := [x]) (fun y hy => by rw [List.mem_singleton] at hy; rw [hy]; exact h) 60
 simp only [all, List.length_singleton] at a
 omega

theorem passes_l1 (a b : List S55) (ha : Runs a) (hb : Runs b) (hab : (a ++ b).length ≤ 40) : ∀ (d i : Nat), i + d = 60 →
  Ev (fun k => dropperlaw07_WearPasses.l1 k (rtot a) (rtot b) (rtot (a ++ b)) (difs (rtot (a ++ b)) 60) (all (a ++ b) 60 - all (a ++ b) i) (if i = 0 then 0 else rd (rtot (a ++ b)) ((i - 1 : Nat) : Int)) (i : Int)) true := by
 have hr : ∀ x ∈ a ++ b, ROk x := fun x hx => (List.mem_append.1 hx).elim (ha.2 x) (hb.2 x)
 intro d
 induction d with
 | zero =>
  intro i hi
  obtain rfl : i = 60 := by omega
  refine Ev.step (fun k => by rw [dropperlaw07_WearPasses.l1]) ?_
  refine ev_neg (by omega) (ev_pos (by omega) ?_)
  exact Ev.bind first_ev (Ev.now _)
 | succ d ih =>
  intro i hi
  have hi60 : i < 60 := by omega
  refine Ev.step (fun k => by rw [dropperlaw07_WearPasses.l1]) ?_
  refine ev_pos (by omega) (ev_pos (by omega) ?_)
  refine ev_pos (by rw [difs_len]; omega) (ev_pos (by rw [rtot_len]; omega) (ev_pos (by rw [rtot_len]; omega) (ev_pos (by rw [rtot_len]; omega) ?_)))
  have ea : rd (rtot a) (i : Int) = rval a (i : Int) := rd_tabl 60 _ i hi60
  have eb : rd (rtot b) (i : Int) = rval b (i : Int) := rd_tabl 60 _ i hi60
  have ec : rd (rtot (a ++ b)) (i : Int) = rval (a ++ b) (i : Int) := rd_tabl 60 _ i hi60
  have ba := rval_bd ha.2 (i : Int)
  have bb := rval_bd hb.2 (i : Int)
  have bc := rval_bd hr (i : Int)
  have la := ha.1
  have lb := hb.1
  have es := rval_append a b (i : Int)
  have w1 : wrap64 (rval a (i : Int) + rval b (i : Int)) = rval (a ++ b) (i : Int) := by rw [es, wrap_id] <;> omega
  have ed : rd (difs (rtot (a ++ b)) 60) (i : Int) = dif (rtot (a ++ b)) i := by
   rw [rd_eq _ i (by rw [difs_len]; exact hi60)]
   simp [difs]
  have w2 : wrap64 ((if i = 0 then 0 else rd (rtot (a ++ b)) ((i - 1 : Nat) : Int)) + dif (rtot (a ++ b)) i) = rval (a ++ b) (i : Int) := by
   unfold dif
   by_cases c : i = 0
   ·
    subst c
    rw [if_pos rfl, if_pos rfl, show rd (rtot (a ++ b)) (0 : Int) = _ from ec, wrap_id] <;> omega
   ·
    rw [if_neg c, if_neg c]
    have ep : rd (rtot (a ++ b)) ((i - 1 : Nat) : Int) = rval (a ++ b) ((i - 1 : Nat) : Int) := rd_tabl 60 _ (i - 1) (by omega)
    have bp := rval_bd hr ((i - 1 : Nat) : Int)
    rw [ep, ec]
    generalize rval (a ++ b) ((i - 1 : Nat) : Int) = p at bp
    generalize rval (a ++ b) (i : Int) = q at bc
    clear w1 es ec ep ed
    have w3 : wrap64 (q - p) = q - p := by rw [wrap_id] <;> omega
    rw [w3, wrap_id] <;> omega
  rw [ea, eb, ec, ed, w1, w2]
  refine ev_pos rfl (ev_pos rfl ?_)
  have st := all_step hr i
  have b1 := all_bd hr i
  have b2 := all_bd hr 60
  have b3 := all_bd hr (i + 1)
  have m1 : 1000000 * ((a ++ b).length : Int) * ((60 : Nat) : Int) ≤ 1000000 * 40 * 60 := by omega
  have m3 : 1000000 * ((a ++ b).length : Int) * (i : Int) ≤ 1000000 * 40 * 60 := Int.mul_le_mul (by omega) (by omega) (by omega) (by omega)
  have w4 : wrap64 (all (a ++ b) 60 - all (a ++ b) i - rval (a ++ b) (i : Int)) = all (a ++ b) 60 - all (a ++ b) (i + 1) := by
   generalize all (a ++ b) 60 = p at *
   generalize all (a ++ b) (i + 1) = q at *
   generalize all (a ++ b) i = o at *
   generalize rval (a ++ b) (i : Int) = v at *
   generalize 1000000 * ((a ++ b).length : Int) * (i : Int) = m at *
   generalize (a ++ b).length = n at *
   clear w1 w2 es ih
   rw [wrap_id] <;> omega
  rw [w4, wrap_succ i (by omega), ← ec]
  exact ih (i + 1) (by omega)
theorem passes_l0 (a b : List S55) (ha : Runs a) (hb : Runs b) (hab : (a ++ b).length ≤ 40) : ∀ (d i : Nat), i + d = (a ++ b).length →
  Ev (fun k => dropperlaw07_WearPasses.l0 k (rtot a) (rtot b) (a ++ b) (rtot (a ++ b)) (difs (rtot (a ++ b)) 60) (all ((a ++ b).take i) 60) 0 (i : Int)) true := by
 have hr : ∀ x ∈ a ++ b, ROk x := fun x hx => (List.mem_append.1 hx).elim (ha.2 x) (hb.2 x)
 have end_ := passes_l1 a b ha hb hab 60 0 rfl
 rw [all_zero hr, Int.sub_zero] at end_
 generalize a ++ b = l at *
 intro d
 induction d with
 | zero =>
  intro i hi
  refine Ev.step (fun k => by rw [dropperlaw07_WearPasses.l0]) ?_
  refine ev_neg (by omega) ?_
  rw [List.take_of_length_le (by omega)]
  exact end_
 | succ d ih =>
  intro i hi
  have hil : i < l.length := by omega
  have hok : ROk l[i] := hr _ (List.getElem_mem hil)
  refine Ev.step (fun k => by rw [dropperlaw07_WearPasses.l0]) ?_
  refine ev_pos (by omega) (ev_pos (by omega) ?_)
  rw [rd_run l i hil]
  have e1 : wrap64 (l[i].f1 - l[i].f0) = l[i].f1 - l[i].f0 := by obtain ⟨h0, h1, h2, h3, h4⟩ := hok; rw [wrap_id] <;> omega
  have e2 : wrap64 (l[i].f1 - l[i].f0 + 1) = l[i].f1 - l[i].f0 + 1 := by obtain ⟨h0, h1, h2, h3, h4⟩ := hok; rw [wrap_id] <;> omega
  have b := cnt_bd hok
  have c := all_bd (l := l.take i) (fun x hx => hr x (List.mem_of_mem_take hx)) 60
  have hl2 : (l.take i).length ≤ 40 := by rw [List.length_take]; omega
  have et : all (l.take (i + 1)) 60 = all (l.take i) 60 + l[i].f2 * cnt l[i] 60 := by
   rw [List.take_succ_eq_append_getElem hil, all_append, all, all]
   omega
  rw [e1, e2, ← cnt_end hok]
  have e3 : wrap64 (l[i].f2 * cnt l[i] 60) = l[i].f2 * cnt l[i] 60 := by rw [wrap_id] <;> omega
  rw [e3]
  have e4 : wrap64 (all (l.take i) 60 + l[i].f2 * cnt l[i] 60) = all (l.take (i + 1)) 60 := by
   rw [et]
   generalize all (l.take i) 60 = p at *
   generalize l[i].f2 * cnt l[i] 60 = q at *
   clear e3 e2 e1 ih et end_
   rw [wrap_id] <;> omega
  rw [e4, wrap_succ i (by omega)]
  exact ih (i + 1) (by omega)

theorem WearPasses : dropperlaw07_WearPasses.Pure := by
 intro a b hal hbl
 replace hal := hal.1
 replace hbl := hbl.1
 refine Ev.rounds (r := true) (g := fun k => dropperlaw07_WearPasses.f k a b) ?_
 unfold dropperlaw07_WearPasses.f
 have yes : Ev (fun k => dropperlaw07_WearPasses.j0 k a b true) true := by
  refine Ev.step (fun k => by rw [dropperlaw07_WearPasses.j0]) ?_
  exact ev_pos rfl (Ev.bind first_ev (Ev.now _))
 by_cases h1 : (a.length : Int) > 20
 ·
  exact ev_pos h1 yes
 refine ev_neg h1 ?_
 by_cases h2 : (b.length : Int) > 20
 ·
  exact ev_pos h2 yes
 refine ev_neg h2 (Ev.bind (rruns a hal) ?_)
 by_cases ha : Runs a
 ·
  rw [decide_eq_true ha]
  refine ev_pos rfl (Ev.bind (rruns b hbl) ?_)
  by_cases hb : Runs b
  ·
   rw [decide_eq_true hb]
   refine Ev.step (fun k => by rw [dropperlaw07_WearPasses.j0]) (ev_neg (by decide) ?_)
   have hab : (a ++ b).length ≤ 40 := by rw [List.length_append]; omega
   have hc : Runs (a ++ b) := ⟨hab, fun x hx => (List.mem_append.1 hx).elim (ha.2 x) (hb.2 x)⟩
   rw [Totals_f, Totals_f, if_pos ha, if_pos hb]
   refine ev_some (ev_some (ev_some (ev_pos (by simp only [List.length_nil]; omega) (ev_some (ev_pos ?_ (ev_some ?_))))))
   ·
    rw [List.nil_append]; omega
   rw [List.nil_append, Totals_f, if_pos hc]
   have fit : fits (rtot (a ++ b)) := by
    intro x hx
    unfold rtot tabl at hx
    rw [List.mem_map] at hx
    obtain ⟨j, _, rfl⟩ := hx
    have := rval_bd hc.2 (j : Int)
    omega
   have hs := Since_ev (rtot (a ++ b))
   rw [decide_eq_true ⟨rtot_len _, fit⟩] at hs
   refine ev_some (Ev.bind hs ?_)
   refine ev_pos rfl (ev_pos rfl (ev_pos rfl (ev_pos rfl (ev_pos ?_ (ev_pos ?_ (ev_pos ?_ ?_))))))
   ·
    show ((rtot a).length : Int) = 60
    rw [rtot_len]; rfl
   ·
    show ((rtot b).length : Int) = 60
    rw [rtot_len]; rfl
   ·
    show ((rtot (a ++ b)).length : Int) = 60
    rw [rtot_len]; rfl
   ·
    refine Ev.step (fun k => by rw [dropperlaw07_WearPasses.j1]) (ev_neg ?_ ?_)
    ·
     show ¬ (((difs (rtot (a ++ b)) 60).length : Int) != 60) = true
     rw [difs_len]; decide
    ·
     exact passes_l0 a b ha hb hab (a ++ b).length 0 (by omega)
  ·
   rw [decide_eq_false hb]
   exact yes
 ·
  rw [decide_eq_false ha]
  exact ev_neg (by decide) yes

end Go.Proofs.Ytpdcpekjafcohaa.Pure

namespace Go.Proofs.Ytpdcpekjafcohaa.Open
open Go.RowKit Go.Proofs.YtpdcpekjafcohaaW.PrintWords Go.Proofs.YtpdcpekjafcohaaW.PrintLast Go.Proofs.YtpdcpekjafcohaaW.PrintMore
set_option linter.unusedVariables false
set_option linter.unusedSimpArgs false
/-! What an argument of a type reads as, in the print's kinds. -/
def Opens {α : Type} (P : Program) (t : TypeId) (kd : Kd α) (G : α → Prop) : Prop :=
 ∀ (H : Type) (enc : TypeId × Value → H) (W : World) (fuel : Nat) (cs : List Value) (x : DataW H × List MemPlace), DataW.trod enc P W 0 (fun _ => true) true fuel t cs = some x → ∃ a, kd.K W a cs ∧ G a
section
variable {P : Program} {t e : TypeId} {α β : Type} {kd : Kd α} {G : α → Prop}
theorem opens_int {k : IntKind} (hu : P.underlying t = some (.int k)) : Opens P t (Kd.int k) (fun n => (Lit.int k n).wf = true) := by
 intro H enc W fuel cs x h
 obtain ⟨n, rfl, _, hw⟩ := DataW.trod_int hu h
 exact ⟨n, rfl, hw⟩
theorem exists_list {Q : Nat → α → Prop} : ∀ n, (∀ i, i < n → ∃ x, Q i x) → ∃ xs : List α, xs.length = n ∧ ∀ i x, xs[i]? = some x → Q i x := by
 intro n
 induction n with
 | zero => intro _; exact ⟨[], rfl, fun i x h => by simp at h⟩
 | succ n ih =>
  intro h
  obtain ⟨xs, hl, hq⟩ := ih (fun i hi => h i (by omega))
  obtain ⟨x, hx⟩ := h n (by omega)
  refine ⟨xs ++ [x], by simp [hl], fun i y hy => ?_⟩
  by_cases hi : i < n
  ·
   rw [List.getElem?_append_left (by omega)] at hy
   exact hq i y hy
  ·
   rw [List.getElem?_append_right (by omega)] at hy
   have : i - xs.length = 0 := by
    have := (List.getElem?_eq_some_iff.1 hy).1
    simp at this; omega
   rw [this] at hy
   have hin : i = n := by omega
   subst hin
   simp at hy
   subst hy
   exact hx
theorem add_add (a : Addr) (m n : Nat) : (a.add m).add n = a.add (m + n) := by
 unfold Addr.add
 by_cases h1 : m = 0
 ·
  subst h1; simp
 ·
  by_cases h2 : n = 0
  ·
   subst h2; simp [h1]
  ·
   have : ¬ m + n = 0 := by omega
   simp [h1, h2, this, Nat.add_assoc]
theorem opens_slice (hu : P.underlying t = some (.slice e)) (he : Opens P e kd G) (hc : P.cellsOf e = kd.sz) : Opens P t (Kd.slice e kd) (fun l => l.length ≤ 9223372036854775807 ∧ ∀ x ∈ l, G x) := by
 intro H enc W fuel cs x h
 rcases DataW.trod_slice hu h with ⟨rfl, _⟩ | ⟨a, len, cap, elems, rest, n, _, rfl, _, hb, hl, hm, hlen, hel, _, _⟩
 ·
  exact ⟨[], ⟨none, 0, rfl, Nat.le_refl _, rfl, by simp, fun h => absurd h (by simp)⟩, by simp, fun x hx => by simp at hx⟩
 ·
  have hx : ∀ i, i < len → ∃ y : α, (∃ c, c.length = kd.sz ∧ kd.K W y c ∧ ∀ j u, c[j]? = some u → W.cell? (a.add (i * kd.sz + j)) = some u) ∧ G y := by
   intro i hi
   have h1 := hel i hi
   rw [List.getElem?_eq_getElem (by omega)] at h1
   obtain ⟨c, hc1, hc2⟩ := Option.bind_eq_some_iff.1 h1
   obtain ⟨y, hk, hg⟩ := he H enc W n c _ hc2
   obtain ⟨_, hcl, hcell⟩ := World.cells?_some hc1
   refine ⟨y, ⟨c, kd.K_len hk, hk, fun j u hj => ?_⟩, hg⟩
   rw [hc] at hcell
   have := hcell j (by have := (List.getElem?_eq_some_iff.1 hj).1; have := kd.K_len hk; omega)
   rw [← add_add, this, hj]
  obtain ⟨xs, hxl, hxq⟩ := exists_list len hx
  have hmax : len ≤ 9223372036854775807 := by unfold maxLen at hm; omega
  refine ⟨xs, ⟨some a, cap, by rw [hxl], by omega, rfl, by omega, fun _ => ⟨a, rfl, fun j p hj => (hxq j p hj).1⟩⟩, by omega, fun y hy => ?_⟩
  obtain ⟨i, hi, rfl⟩ := List.mem_iff_getElem.1 hy
  exact (hxq i xs[i] (List.getElem?_eq_getElem hi)).2
def OpensF (P : Program) (fs : List Field) (off : Nat) (kd : Kd α) (G : α → Prop) : Prop :=
 ∀ (H : Type) (enc : TypeId × Value → H) (W : World) (fuel : Nat) (cs : List Value) (xs : List (DataW H × List MemPlace)), xs.length = fs.length → cs.length = off + kd.sz →
  (∀ (i : Nat) (f : Field), fs[i]? = some f → DataW.trod enc P W 0 (fun _ => true) true fuel f.type ((cs.drop f.offset).take (P.cellsOf f.type)) = xs[i]?) → ∃ a, kd.K W a (cs.drop off) ∧ G a
theorem opensF_one {f : Field} {off : Nat} (ho : f.offset = off) (hc : P.cellsOf f.type = kd.sz) (h : Opens P f.type kd G) : OpensF P [f] off kd G := by
 intro H enc W fuel cs xs hl hcs hx
 have h0 := hx 0 f rfl
 rw [List.getElem?_eq_getElem (by rw [hl]; simp), ho, hc, List.take_of_length_le (by rw [List.length_drop]; omega)] at h0
 exact h H enc W fuel _ _ h0
theorem opensF_cons {f : Field} {fs : List Field} {off : Nat} {ka : Kd α} {kb : Kd β} {Ga : α → Prop} {Gb : β → Prop} (ho : f.offset = off) (hc : P.cellsOf f.type = ka.sz) (h : Opens P f.type ka Ga) (hr : OpensF P fs (off + ka.sz) kb Gb) :
  OpensF P (f :: fs) off (Kd.pair ka kb) (fun p => Ga p.1 ∧ Gb p.2) := by
 intro H enc W fuel cs xs hl hcs hx
 have hcs' : cs.length = off + (ka.sz + kb.sz) := hcs
 match xs, hl with
 | x0 :: xs', hl =>
  have h0 := hx 0 f rfl
  rw [ho, hc] at h0
  obtain ⟨a, ha, hga⟩ := h H enc W fuel _ x0 h0
  obtain ⟨b, hb, hgb⟩ := hr H enc W fuel cs xs' (by simpa using hl) (by omega) (fun i f' hf' => hx (i + 1) f' (by simpa using hf'))
  refine ⟨(a, b), ⟨_, _, ?_, ha, hb⟩, hga, hgb⟩
  rw [← List.drop_drop, List.take_append_drop]
theorem opens_struct {fs : Array Field} (hu : P.underlying t = some (.struct fs)) (hc : P.cellsOf t = kd.sz) (h : OpensF P fs.toList 0 kd G) : Opens P t kd G := by
 intro H enc W fuel cs x hx
 obtain ⟨xs, n, _, _, hl, hxl, hf⟩ := DataW.trod_struct hu hx
 obtain ⟨a, ha, hg⟩ := h H enc W n cs xs (by rw [hxl]; simp) (by omega) (fun i f hf' => hf i f (by simpa using hf'))
 exact ⟨a, ha, hg⟩
theorem opens_iso {f : β → α} (g : α → β) (hfg : ∀ y, f (g y) = y) (h : Opens P t kd G) : Opens P t (Kd.iso kd f) (fun b => G (f b)) := by
 intro H enc W fuel cs x hx
 obtain ⟨a, ha, hg⟩ := h H enc W fuel cs x hx
 exact ⟨g a, by show kd.K W (f (g a)) cs; rw [hfg]; exact ha, by show G (f (g a)); rw [hfg]; exact hg⟩
end
end Go.Proofs.Ytpdcpekjafcohaa.Open

-- Written by wip/xprint.py of this repo, over the kit's print.py: out of the translation; the oracles in it are by hand. Not trusted: Lean checks it.
namespace Go.Proofs.Ytpdcpekjafcohaa.wearPasses
open Go.ChangeShapes Go.WideShapes Go.ChangeAt Go.RowKit Go.Proofs.Ytpdcpekjafcohaa.Open Go.Proofs.Ytpdcpekjafcohaa.XWear Go.Proofs.YtpdcpekjafcohaaW.PrintWords Go.Proofs.YtpdcpekjafcohaaW.PrintLast Go.Proofs.YtpdcpekjafcohaaW.PrintMore
open Go.ChangeMaps (open_string shut_string)
set_option linter.unusedVariables false
set_option linter.unusedSimpArgs false
theorem own : ownKnob Try.prog.godebug = none := by kernel_rfl
theorem laidOut : laidOutB Try.prog = true := by kernel_rfl
set_option maxRecDepth 100000 in
theorem lifted (os : Os) (started : os.Started) (H : Type) (enc : TypeId × Value → H) :
  ReturnsInHanded {} Try.checked os 11 .any (Rows.wearPassesSpec.pre6 enc Try.prog Try.f11 Rows.wearPassesRow.domain false) (Rows.wearPassesSpec.post enc Try.prog Try.f11 false true false false) := by
 refine returnsInHanded_of_change_sized (C := Try.checked) own started (by kernel_rfl) Try.func11
  (ChangeSpec.witness6 (enc := enc) (C := Try.checked) false ⟨#[], #[.slice none 0 0, .slice none 0 0], []⟩ 8 (by kernel_rfl) (by kernel_rfl) (by kernel_rfl) (by kernel_rfl)) ?_
 intro W base args ds gs before hval0 hW hcnd hsz0 _
 have hval : ∀ (j : Nat) t v, Try.f11.params[j]? = some t → args[j]? = some v → Value.okWide Try.prog W .any base t v := hval0
 have hW' := hW
 obtain ⟨p, q, hA0, hV, rfl, hfz, hnd⟩ := hW
 have hA : DataW.TrodAll enc Try.prog W 0 (fun _ => true) true Try.f11.params.toList args.toList ds p := hA0
 rw [Try.params11] at hA hval
 obtain ⟨v0, vs0, d0, ds0, p0, q0, hargs, rfl, rfl, h0, r0⟩ := trodAll_cons hA
 obtain ⟨v1, vs1, d1, ds1, p1, q1, rfl, rfl, rfl, h1, r1⟩ := trodAll_cons r0
 obtain ⟨rfl, rfl, rfl⟩ := trodAll_nil r1
 obtain rfl : args = #[v0, v1] := by cases args; simp_all
 obtain ⟨rfl, rfl⟩ := trodVars_none hV
 obtain ⟨b0, len0, cap0, rfl⟩ := okWide_slice Try.underlying51 (hval 0 51 v0 rfl rfl)
 have k0 := h0
 have lt0 : ∀ x ∈ p0, x.block < W.heap.size := by obtain ⟨m, hm⟩ := k0; exact DataW.trod_lt m _ _ _ hm
 obtain ⟨fuel0, hf0⟩ := h0
 obtain ⟨l0, ⟨A0, c0, hcs0, hc0, hr0⟩, hg0⟩ := (opens_slice Try.underlying51 (opens_iso (f := fun x : S55 => (x.f0, x.f1, x.f2)) (fun p => ⟨p.1, p.2.1, p.2.2⟩) (fun _ => rfl) (opens_struct Try.underlying55 (by kernel_rfl) (opensF_cons rfl (by kernel_rfl) (opens_int Try.underlying3) (opensF_cons rfl (by kernel_rfl) (opens_int Try.underlying3) (opensF_one rfl (by kernel_rfl) (opens_int Try.underlying3)))))) (by kernel_rfl)) H enc W fuel0 _ _ hf0
 simp [Value.cells] at hcs0
 obtain ⟨rfl, rfl, rfl⟩ := hcs0
 obtain ⟨b1, len1, cap1, rfl⟩ := okWide_slice Try.underlying51 (hval 1 51 v1 rfl rfl)
 have k1 := h1
 have lt1 : ∀ x ∈ p1, x.block < W.heap.size := by obtain ⟨m, hm⟩ := k1; exact DataW.trod_lt m _ _ _ hm
 obtain ⟨fuel1, hf1⟩ := h1
 obtain ⟨l1, ⟨A1, c1, hcs1, hc1, hr1⟩, hg1⟩ := (opens_slice Try.underlying51 (opens_iso (f := fun x : S55 => (x.f0, x.f1, x.f2)) (fun p => ⟨p.1, p.2.1, p.2.2⟩) (fun _ => rfl) (opens_struct Try.underlying55 (by kernel_rfl) (opensF_cons rfl (by kernel_rfl) (opens_int Try.underlying3) (opensF_cons rfl (by kernel_rfl) (opens_int Try.underlying3) (opensF_one rfl (by kernel_rfl) (opens_int Try.underlying3)))))) (by kernel_rfl)) H enc W fuel1 _ _ hf1
 simp [Value.cells] at hcs1
 obtain ⟨rfl, rfl, rfl⟩ := hcs1
 clear hA0 hval0 hsz0
 obtain ⟨k, h⟩ := Pure.WearPasses l0 l1 hg0 hg1
 refine (dropperlaw07_WearPasses.calls k _ _ l0 _ _ l1 true W hr0 hc0 hr1 hc1 h).mono fun e W' ⟨he, bel0⟩ => ?_
 have bel : Below W.heap.size W W' := bel0
 subst he
 exact ⟨_, rfl, _, _, _, [], _, [], hW', trodAll_mk1 (shut_bool Try.underlying4 _), (trodAll_cons_mk (Below.trod laidOut (by kernel_rfl) (of_decide_eq_true (by kernel_rfl)) k0 bel lt0) (trodAll_cons_mk (Below.trod laidOut (by kernel_rfl) (of_decide_eq_true (by kernel_rfl)) k1 bel lt1) trodAll_mk0)), rfl, bel.frame _, fun h => by cases h⟩
theorem over : Rows.wearPassesRow.holds Try.pinned (OpenSpec.ofChange Rows.wearPassesSpec) :=
 OpenClaim.holds_of_wide 11 Try.f11 rfl rfl rfl rfl rfl rfl rfl ⟨rfl, rfl, rfl, rfl, rfl⟩ rfl rfl rfl rfl rfl (by kernel_rfl) Try.func11 (by kernel_rfl)
  (of_decide_eq_true (by kernel_rfl)) (by unfold Func.isWrapper; first | (rw [if_pos (by decide +kernel)]; kernel_rfl) | (rw [if_neg (by decide +kernel)]; exact ⟨rfl, rfl⟩))
  (fun os started H enc _ => lifted os started H enc)
theorem proved : Rows.WearPassesSaid := over
#print axioms proved
end Go.Proofs.Ytpdcpekjafcohaa.wearPasses
namespace Go.Proofs.Ytpdcpekjafcohaa
theorem wearPasses_holds : Rows.WearPassesSaid := wearPasses.proved
end Go.Proofs.Ytpdcpekjafcohaa
