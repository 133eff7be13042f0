-- Written by wip/pack.py of this repo: texts of this claim, put together.
import Derived.DataReads
import Derived.OpenShut
import Derived.ChangeArms
import Derived.Test.YtgdfakmlpdeabaaRows
import Derived.WalkKit
import Derived.ProofKit
import Derived.ShutString
import Derived.ChangeOld
import Derived.Below
import Derived.SizedLaws
import Derived.Test.YtgdfakmlpdeabaaKKeyWayse
namespace Go.Proofs.Ytgdfakmlpdeabaa.XKey
open Go.RowKit Go.Proofs.YtgdfakmlpdeabaaW.PrintWords Go.Proofs.YtgdfakmlpdeabaaW.PrintLast Go.Proofs.YtgdfakmlpdeabaaW.PrintMore
attribute [local go_sem] max2_int min2_int max_two min_two max_three min_three max_four min_four   -- for this text's walks alone
set_option linter.unusedVariables false
set_option linter.unusedSimpArgs false
/-! ### dropperref06_Weights: function 14 -/
def dropperref06_Weights.f (k : Nat) (a0_0 : Int) (l0_1 : List (S64)) (l1 : List Int) : Option (Bool) := (dropperref06_list.f k l1 a0_0 (-20000) 20000).bind fun t230 => (some t230)
/-! ### dropperref06_product: function 73 -/
def dropperref06_product.l0 : Nat → List Int → List Int → Int → Int → Option (Int)
 | 0, _, _, _, _ => none
 | k + 1, x0, x1, x5, x6 => if x6 < (x1.length : Int) then (if 0 ≤ x6 then (if x6 < (x0.length : Int) then (dropperref06_product.l0 k x0 x1 (wrap64 (x5 + (wrap64 ((rd x0 x6) * (rd x1 x6))))) (wrap64 (x6 + 1))) else (none)) else (none)) else (some x5)
def dropperref06_product.f (k : Nat) (l0 : List Int) (l1 : List Int) : Option (Int) := dropperref06_product.l0 k l0 l1 0 0
/-! ### dropperref06_holds: function 71 -/
def dropperref06_holds.l0 : Nat → List Int → Int → Int → List (S64) → Option (Bool)
 | 0, _, _, _, _ => none
 | k + 1, x1, x5, x234000, x234001 => if x5 < (x234001.length : Int) then (if 0 ≤ x5 then ((dropperref06_product.f k x1 ((rd_T64 x234001 x5).f0)).bind fun t235 => ((dropperref06_product.f k x1 ((rd_T64 x234001 x5).f1)).bind fun t237 => (if t235 = t237 then (dropperref06_holds.l0 k x1 (wrap64 (x5 + 1)) x234000 x234001) else (some false)))) else (none)) else (some true)
def dropperref06_holds.f (k : Nat) (a0_0 : Int) (l0_1 : List (S64)) (l1 : List Int) : Option (Bool) := dropperref06_holds.l0 k l1 0 a0_0 l0_1
/-! ### dropperref06_Holds: function 30 -/
def dropperref06_Holds.f (k : Nat) (a0_0 : Int) (l0_1 : List (S64)) (l1 : List Int) : Option (Bool × Int) := (dropperref06_Valid.f k a0_0 l0_1).bind fun t239 => (if t239 = true then ((dropperref06_Weights.f k a0_0 l0_1 l1).bind fun t240 => (if t240 = true then ((dropperref06_holds.f k a0_0 l0_1 l1).bind fun t241 => (some (t241, 0))) else (some (false, 2)))) else (some (false, 60)))
/-! ### dropperref06_Sum: function 31 -/
def dropperref06_Sum.f (k : Nat) (a0_0 : Int) (l0_1 : List (S64)) (l1 : List Int) (l2 : List Int) : Option (Int × Int) := (dropperref06_asked.f k a0_0 l0_1 (([l2] : List (List Int)))).bind fun t252 => (if t252 = 0 then ((dropperref06_Weights.f k a0_0 l0_1 l1).bind fun t253 => (if t253 = true then ((dropperref06_product.f k l1 l2).bind fun t254 => (some (t254, 0))) else (some (0, 2)))) else (some (0, t252)))
/-! ### dropperref06_Proves: function 32 -/
def dropperref06_Proves.f (k : Nat) (a0_0 : Int) (l0_1 : List (S64)) (l1 : List Int) (l2 : List Int) (l3 : List Int) : Option (Bool × Int) := (dropperref06_asked.f k a0_0 l0_1 (([l2, l3] : List (List Int)))).bind fun t259 => (if t259 = 0 then ((dropperref06_Weights.f k a0_0 l0_1 l1).bind fun t260 => (if t260 = true then ((dropperref06_list.f k l1 a0_0 0 20000).bind fun t261 => (if t261 = true then ((dropperref06_holds.f k a0_0 l0_1 l1).bind fun t262 => (if t262 = true then ((dropperref06_product.f k l1 l3).bind fun t263 => ((dropperref06_product.f k l1 l2).bind fun t264 => (some (decide (t263 > t264), 0)))) else (some (false, 0)))) else (some (false, 0)))) else (some (false, 2)))) else (some (false, t259)))
/-! ### key_Turned: function 37 -/
def key_Turned.l0 : Nat → List (S64) → Int → Int → Int → List (S64) → Option (Int × (List (S64)) × Int)
 | 0, _, _, _, _, _ => none
 | k + 1, x18, x19, x20, x381000, x381001 => if x20 < x19 then (if 0 ≤ x20 then (if x20 < (x18.length : Int) then ((slices_Clone_int_int.f ((rd_T64 x18 x20).f1)).bind fun t383 => ((slices_Clone_int_int.f ((rd_T64 x18 x20).f0)).bind fun t386 => (if x381001.length < 2932031007402 then (key_Turned.l0 k x18 x19 (wrap64 (x20 + 1)) x381000 (x381001 ++ [(⟨t383, t386⟩ : S64)])) else (none)))) else (none)) else (none)) else (some (x381000, x381001, 0))
def key_Turned.f (k : Nat) (a0_0 : Int) (l0_1 : List (S64)) : Option (Int × (List (S64)) × Int) := (key_open.f a0_0 l0_1 ([] : List (List Int))).bind fun t379 => (if t379 = 0 then (key_Turned.l0 k l0_1 (l0_1.length : Int) 0 a0_0 ([] : List (S64))) else (some (0, ([] : List (S64)), t379)))
/-! ### dropperref06_Turned: function 38 -/
def dropperref06_Turned.l0 : Nat → Int → Int → List (S64) → Int → List (S64) → Option (Int × (List (S64)) × Int)
 | 0, _, _, _, _, _ => none
 | k + 1, x5, x393000, x393001, x396000, x396001 => if x5 < (x393001.length : Int) then (if 0 ≤ x5 then ((some (([] : List Int) : List Int)).bind fun y398 => (if y398.length + ((rd_T64 x393001 x5).f1).length < 17592186044416 then ((some (([] : List Int) : List Int)).bind fun y404 => (if y404.length + ((rd_T64 x393001 x5).f0).length < 17592186044416 then (if x396001.length < 2932031007402 then (dropperref06_Turned.l0 k (wrap64 (x5 + 1)) x393000 x393001 x396000 (x396001 ++ [(⟨(y398 ++ ((rd_T64 x393001 x5).f1)), (y404 ++ ((rd_T64 x393001 x5).f0))⟩ : S64)])) else (none)) else (none))) else (none))) else (none)) else (some (x396000, x396001, 0))
def dropperref06_Turned.f (k : Nat) (a0_0 : Int) (l0_1 : List (S64)) : Option (Int × (List (S64)) × Int) := (dropperref06_Valid.f k a0_0 l0_1).bind fun t394 => (if t394 = true then (dropperref06_Turned.l0 k 0 a0_0 l0_1 a0_0 ([] : List (S64))) else (some (0, ([] : List (S64)), 60)))
/-! ### dropperlaw06_sameBoards: function 39 -/
mutual
def dropperlaw06_sameBoards.j0 : Nat → Bool → Int → List (S64) → Int → List (S64) → Option (Bool)
 | 0, _, _, _, _, _ => none
 | k + 1, x19, x414000, x414001, x415000, x415001 => if x19 = true then (some false) else (dropperlaw06_sameBoards.l0 k 0 x414000 x414001 x415000 x415001)
def dropperlaw06_sameBoards.l0 : Nat → Int → Int → List (S64) → Int → List (S64) → Option (Bool)
 | 0, _, _, _, _, _ => none
 | k + 1, x5, x414000, x414001, x415000, x415001 => if x5 < (x414001.length : Int) then (if 0 ≤ x5 then (if x5 < (x415001.length : Int) then ((dropperlaw06_SameInts.f k ((rd_T64 x414001 x5).f0) ((rd_T64 x415001 x5).f0)).bind fun t417 => (if t417 = true then ((dropperlaw06_SameInts.f k ((rd_T64 x414001 x5).f1) ((rd_T64 x415001 x5).f1)).bind fun t420 => (if t420 = true then (dropperlaw06_sameBoards.l0 k (wrap64 (x5 + 1)) x414000 x414001 x415000 x415001) else (some false))) else (some false))) else (none)) else (none)) else (some true)
end
def dropperlaw06_sameBoards.f (k : Nat) (a0_0 : Int) (l0_1 : List (S64)) (a1_0 : Int) (l1_1 : List (S64)) : Option (Bool) := if a0_0 = a1_0 then (dropperlaw06_sameBoards.j0 k ((l0_1.length : Int) != (l1_1.length : Int)) a0_0 l0_1 a1_0 l1_1) else (dropperlaw06_sameBoards.j0 k true a0_0 l0_1 a1_0 l1_1)
end Go.Proofs.Ytgdfakmlpdeabaa.XKey
/- Weights: program and reference reckon alike. -/
namespace Go.Proofs.Ytgdfakmlpdeabaa.Keys
set_option linter.unusedVariables false
set_option linter.unusedSimpArgs false
open Go.RowKit Go.Proofs.Ytgdfakmlpdeabaa.XKey Go.Proofs.YtgdfakmlpdeabaaW.PrintWords Go.Proofs.YtgdfakmlpdeabaaW.PrintLast Go.Proofs.YtgdfakmlpdeabaaW.PrintMore
def dot : Int → List Int → List Int → Int
 | s, x :: xs, y :: ys => dot (wrap64 (s + wrap64 (x * y))) xs ys
 | s, _, _ => s
theorem sum_ev (a b : List Int) (h : a.length = b.length) (hl : a.length ≤ 9223372036854775807) : Ev (fun k => key_sum.f k a b) (dot 0 a b) := by
 unfold key_sum.f
 have H : ∀ (d i : Nat) (s : Int), i + d = a.length → Ev (fun k => key_sum.l0 k b s a (a.length : Int) (i : Int)) (dot s (a.drop i) (b.drop i)) := by
  intro d
  induction d with
  | zero =>
   intro i s hi
   rw [List.drop_eq_nil_of_le (by omega : a.length ≤ i)]
   refine Ev.step (fun k => by rw [key_sum.l0]) (ev_neg (by omega) ?_)
   rw [dot]
   ·
    exact Ev.now _
   ·
    intro _ _ _ _ h; cases h
  | succ d ih =>
   intro i s hi
   refine Ev.step (fun k => by rw [key_sum.l0]) (ev_pos (by omega) (ev_pos (by omega) (ev_pos (by omega) (ev_pos (by omega) ?_))))
   rw [List.drop_eq_getElem_cons (by omega : i < a.length), List.drop_eq_getElem_cons (by omega : i < b.length), dot, rd_at a i (by omega), rd_at b i (by omega), wrap_succ (l := a.length) i (by omega) hl]
   exact ih (i + 1) _ (by omega)
 exact H a.length 0 0 (by omega)
theorem product_ev (a b : List Int) (h : a.length = b.length) (hl : a.length ≤ 9223372036854775807) : Ev (fun k => dropperref06_product.f k a b) (dot 0 a b) := by
 unfold dropperref06_product.f
 have H : ∀ (d i : Nat) (s : Int), i + d = a.length → Ev (fun k => dropperref06_product.l0 k a b s (i : Int)) (dot s (a.drop i) (b.drop i)) := by
  intro d
  induction d with
  | zero =>
   intro i s hi
   rw [List.drop_eq_nil_of_le (by omega : a.length ≤ i)]
   refine Ev.step (fun k => by rw [dropperref06_product.l0]) (ev_neg (by omega) ?_)
   rw [dot]
   ·
    exact Ev.now _
   ·
    intro _ _ _ _ h; cases h
  | succ d ih =>
   intro i s hi
   refine Ev.step (fun k => by rw [dropperref06_product.l0]) (ev_pos (by omega) (ev_pos (by omega) (ev_pos (by omega) ?_)))
   rw [List.drop_eq_getElem_cons (by omega : i < a.length), List.drop_eq_getElem_cons (by omega : i < b.length), dot, rd_at a i (by omega), rd_at b i (by omega), wrap_succ (l := a.length) i (by omega) hl]
   exact ih (i + 1) _ (by omega)
 exact H a.length 0 0 (by omega)
def holdsS (w : List Int) (ts : List S64) : Bool := ts.all fun t => decide (dot 0 w t.f0 = dot 0 w t.f1)
def fitW (n : Int) (w : List Int) : Bool := okL n (-20000) 20000 w
theorem holds_ev {n : Int} {w : List Int} (hn : n ≤ 6) (hw : (w.length : Int) = n) (m : Int) : ∀ {ts : List S64}, (∀ t ∈ ts, okT n t = true) → Ev (fun k => key_holds.f k m ts w) (holdsS w ts)
 | [], _ => Ev.congr (f := fun _ => some true) (fun k => by rw [key_holds.f, key_holds.go]) (Ev.now _)
 | t :: ts, h => by
  obtain ⟨⟨a, b⟩, c, d⟩ := (okT_iff n t).1 (h t (List.mem_cons_self ..))
  have ih := holds_ev hn hw m (ts := ts) (fun x hx => h x (List.mem_cons_of_mem _ hx))
  refine Ev.congr (fun k => by rw [key_holds.f, key_holds.go]) ?_
  refine ev_bind1 (sum_ev w t.f0 (by omega) (by omega)) (ev_bind1 (sum_ev w t.f1 (by omega) (by omega)) ?_)
  exact ev_bind1 (g := fun k => key_holds.go k w ts) ih (Ev.now _)
theorem rholds_ev {n : Int} {w : List Int} (hn : n ≤ 6) (hw : (w.length : Int) = n) (m : Int) {ts : List S64} (h8 : ts.length ≤ 8) (hts : ∀ t ∈ ts, okT n t = true) : Ev (fun k => dropperref06_holds.f k m ts w) (holdsS w ts) := by
 unfold dropperref06_holds.f holdsS
 refine ev_loop (l := ts) (by omega) (F := fun k i => dropperref06_holds.l0 k w i m ts) (fun r => r.all fun t => decide (dot 0 w t.f0 = dot 0 w t.f1)) ?_ ?_
 ·
  refine Ev.step (fun k => by rw [dropperref06_holds.l0]) (ev_neg (by omega) ?_); exact Ev.now _
 ·
  intro i h hwr ih
  obtain ⟨⟨a, b⟩, c, d⟩ := (okT_iff n ts[i]).1 (hts _ (List.getElem_mem h))
  refine Ev.step (fun k => by rw [dropperref06_holds.l0]) (ev_pos (by omega) (ev_pos (by omega) ?_))
  rw [rd_S ts i h, List.all_cons]
  refine ev_bind1 (product_ev w _ (by omega) (by omega)) (ev_bind1 (product_ev w _ (by omega) (by omega)) ?_)
  by_cases hc : dot 0 w ts[i].f0 = dot 0 w ts[i].f1
  ·
   rw [decide_eq_true hc, Bool.true_and]; refine ev_pos hc ?_; rw [hwr]; exact ih
  ·
   rw [decide_eq_false hc, Bool.false_and]; exact ev_neg hc (Ev.now _)
def weighS (n : Int) (ts : List S64) (w : List Int) (ls : List (List Int)) : Int := if asks n ts ls = 0 then (if fitW n w = true then 0 else 2) else asks n ts ls
theorem weighed_val (n : Int) (ts : List S64) (w : List Int) (ls : List (List Int)) : key_weighed.f n ts w ls = some (weighS n ts w ls) := by
 unfold key_weighed.f weighS
 rw [open_val, Option.bind_some]
 by_cases h : asks n ts ls = 0
 ·
  rw [if_pos h, if_pos h, isList_val, Option.bind_some, ← fitW]
  cases fitW n w with
  | true => rw [if_pos rfl, if_pos rfl, h]
  | false => rfl
 ·
  rw [if_neg h, if_neg h]
theorem Weights_ev (n : Int) (ts : List S64) (w : List Int) (hl : w.length ≤ 9223372036854775807) : Ev (fun k => dropperref06_Weights.f k n ts w) (fitW n w) := by
 unfold dropperref06_Weights.f
 exact ev_bind1 (rlist_ev w n (-20000) 20000 hl) (Ev.now _)
theorem weigh_zero {n : Int} {ts : List S64} {w : List Int} {ls : List (List Int)} (h : weighS n ts w ls = 0) : asks n ts ls = 0 ∧ fitW n w = true := by
 unfold weighS at h
 split at h
 ·
  rename_i h1
  split at h
  ·
   rename_i h2; exact ⟨h1, h2⟩
  ·
   omega
 ·
  rename_i h1; exact absurd h h1
def HoldsS (n : Int) (ts : List S64) (w : List Int) : Bool × Int := if weighS n ts w [] = 0 then (holdsS w ts, 0) else (false, weighS n ts w [])
theorem fitW_len {n : Int} {w : List Int} (h : fitW n w = true) : (w.length : Int) = n := ((okL_iff _ _ _ _).1 h).1
theorem Holds_ev (n : Int) (ts : List S64) (w : List Int) : Ev (fun k => key_Holds.f k n ts w) (HoldsS n ts w) := by
 unfold key_Holds.f HoldsS
 refine ev_val (weighed_val n ts w []) ?_
 by_cases h : weighS n ts w [] = 0
 ·
  obtain ⟨h1, h2⟩ := weigh_zero h
  obtain ⟨⟨b1, b2⟩, b3, b4⟩ := (okB_iff n ts).1 (asks_zero h1).1
  rw [if_pos h]
  exact ev_pos h (ev_bind1 (holds_ev b2 (fitW_len h2) n b4) (Ev.now _))
 ·
  rw [if_neg h]; exact ev_neg h (Ev.now _)
theorem rHolds_ev (n : Int) (ts : List S64) (w : List Int) (hf : Fits ts) (hl : w.length ≤ 9223372036854775807) : Ev (fun k => dropperref06_Holds.f k n ts w) (HoldsS n ts w) := by
 unfold dropperref06_Holds.f HoldsS weighS asks
 refine ev_bind1 (rValid_ev n ts hf) ?_
 cases hb : okB n ts with
 | false => exact ev_neg (by decide) (Ev.now _)
 | true =>
  refine ev_pos rfl (ev_bind1 (Weights_ev n ts w hl) ?_)
  cases hw : fitW n w with
  | false => exact ev_neg (by decide) (Ev.now _)
  | true =>
   obtain ⟨⟨b1, b2⟩, b3, b4⟩ := (okB_iff n ts).1 hb
   exact ev_pos rfl (ev_bind1 (rholds_ev b2 (fitW_len hw) n b3 b4) (Ev.now _))
def SumS (n : Int) (ts : List S64) (w l : List Int) : Int × Int := if weighS n ts w [l] = 0 then (dot 0 w l, 0) else (0, weighS n ts w [l])
theorem Sum_ev (n : Int) (ts : List S64) (w l : List Int) : Ev (fun k => key_Sum.f k n ts w l) (SumS n ts w l) := by
 unfold key_Sum.f SumS
 refine ev_val (weighed_val n ts w [l]) ?_
 by_cases h : weighS n ts w [l] = 0
 ·
  obtain ⟨h1, h2⟩ := weigh_zero h
  obtain ⟨⟨b1, b2⟩, b3, b4⟩ := (okB_iff n ts).1 (asks_zero h1).1
  have h3 := fitW_len h2; have h4 := (St.of ((asks_zero h1).2 l (by simp))).len
  rw [if_pos h]
  exact ev_pos h (ev_bind1 (sum_ev w l (by omega) (by omega)) (Ev.now _))
 ·
  rw [if_neg h]; exact ev_neg h (Ev.now _)
theorem rSum_ev (n : Int) (ts : List S64) (w l : List Int) (hf : Fits ts) (hw : w.length ≤ 9223372036854775807) (hl : l.length ≤ 9223372036854775807) : Ev (fun k => dropperref06_Sum.f k n ts w l) (SumS n ts w l) := by
 unfold dropperref06_Sum.f SumS weighS
 refine ev_bind1 (asked_ev n ts [l] hf (by simp) (by simpa using hl)) ?_
 by_cases h1 : asks n ts [l] = 0
 ·
  rw [if_pos h1]
  refine ev_pos h1 (ev_bind1 (Weights_ev n ts w hw) ?_)
  cases h2 : fitW n w with
  | false => exact ev_neg (by decide) (Ev.now _)
  | true =>
   obtain ⟨⟨b1, b2⟩, b3, b4⟩ := (okB_iff n ts).1 (asks_zero h1).1
   have h3 := fitW_len h2; have h4 := (St.of ((asks_zero h1).2 l (by simp))).len
   exact ev_pos rfl (ev_bind1 (product_ev w l (by omega) (by omega)) (Ev.now _))
 ·
  rw [if_neg h1, if_neg h1]; exact ev_neg h1 (Ev.now _)
/-! ### Proves -/
theorem min_foldl : ∀ (l : List Int) (m : Int), 0 ≤ l.foldl min m ↔ 0 ≤ m ∧ ∀ x ∈ l, 0 ≤ x
 | [], m => by simp
 | x :: l, m => by
  rw [List.foldl_cons, min_foldl l (min m x)]
  simp only [List.mem_cons, forall_eq_or_imp]
  constructor
  ·
   rintro ⟨h1, h2⟩; exact ⟨by omega, by omega, h2⟩
  ·
   rintro ⟨h1, h2, h3⟩; exact ⟨by omega, h3⟩
theorem min_iff {l : List Int} (h : l ≠ []) : 0 ≤ Lib.minOf l ↔ ∀ x ∈ l, 0 ≤ x := by
 unfold Lib.minOf
 rw [min_foldl]
 constructor
 ·
  exact fun h => h.2
 ·
  intro h2
  refine ⟨?_, h2⟩
  cases l with
  | nil => exact absurd rfl h
  | cons x l => exact h2 x (List.mem_cons_self ..)
theorem pos_iff {n : Int} {w : List Int} (h1 : 1 ≤ n) (h : fitW n w = true) : okL n 0 20000 w = decide (0 ≤ Lib.minOf w) := by
 obtain ⟨a, b⟩ := (okL_iff _ _ _ _).1 h
 have hne : w ≠ [] := by intro e; subst e; simp at a; omega
 rw [Bool.eq_iff_iff, okL_iff, decide_eq_true_eq, min_iff hne]
 constructor
 ·
  exact fun h x hx => (h.2 x hx).1
 ·
  exact fun h2 => ⟨a, fun x hx => ⟨h2 x hx, (b x hx).2⟩⟩
def ProvesS (n : Int) (ts : List S64) (w l m : List Int) : Bool × Int := if weighS n ts w [l, m] = 0 then (holdsS w ts && (decide (0 ≤ Lib.minOf w) && decide (dot 0 w m > dot 0 w l)), 0) else (false, weighS n ts w [l, m])
theorem Proves_ev (n : Int) (ts : List S64) (w l m : List Int) : Ev (fun k => key_Proves.f k n ts w l m) (ProvesS n ts w l m) := by
 unfold key_Proves.f ProvesS
 refine ev_val (weighed_val n ts w [l, m]) ?_
 by_cases h : weighS n ts w [l, m] = 0
 ·
  obtain ⟨h1, h2⟩ := weigh_zero h
  obtain ⟨⟨b1, b2⟩, b3, b4⟩ := (okB_iff n ts).1 (asks_zero h1).1
  have h3 := fitW_len h2; have h4 := (St.of ((asks_zero h1).2 l (by simp))).len; have h5 := (St.of ((asks_zero h1).2 m (by simp))).len
  have hne : w ≠ [] := by intro e; subst e; simp at h3; omega
  rw [if_pos h]
  refine ev_pos h (ev_bind1 (holds_ev b2 h3 n b4) ?_)
  cases holdsS w ts with
  | false => exact ev_neg (by decide) (Ev.now _)
  | true =>
   refine ev_pos rfl (ev_val (show slices_Min_int_int.f w = some (Lib.minOf w) from if_neg hne) ?_)
   by_cases h6 : 0 ≤ Lib.minOf w
   ·
    rw [decide_eq_true h6]
    exact ev_pos h6 (ev_bind1 (sum_ev w m (by omega) (by omega)) (ev_bind1 (sum_ev w l (by omega) (by omega)) (Ev.now _)))
   ·
    rw [decide_eq_false h6]; exact ev_neg h6 (Ev.now _)
 ·
  rw [if_neg h]; exact ev_neg h (Ev.now _)
theorem rProves_ev (n : Int) (ts : List S64) (w l m : List Int) (hf : Fits ts) (hw : w.length ≤ 9223372036854775807) (hl : l.length ≤ 9223372036854775807) (hm : m.length ≤ 9223372036854775807) : Ev (fun k => dropperref06_Proves.f k n ts w l m) (ProvesS n ts w l m) := by
 unfold dropperref06_Proves.f ProvesS weighS
 refine ev_bind1 (asked_ev n ts [l, m] hf (by simp) (by simp; exact ⟨hl, hm⟩)) ?_
 by_cases h1 : asks n ts [l, m] = 0
 ·
  rw [if_pos h1]
  refine ev_pos h1 (ev_bind1 (Weights_ev n ts w hw) ?_)
  cases h2 : fitW n w with
  | false => exact ev_neg (by decide) (Ev.now _)
  | true =>
   obtain ⟨⟨b1, b2⟩, b3, b4⟩ := (okB_iff n ts).1 (asks_zero h1).1
   have h3 := fitW_len h2; have h4 := (St.of ((asks_zero h1).2 l (by simp))).len; have h5 := (St.of ((asks_zero h1).2 m (by simp))).len
   refine ev_pos rfl (ev_bind1 (rlist_ev w n 0 20000 hw) ?_)
   rw [pos_iff b1 h2]
   cases hp : decide (0 ≤ Lib.minOf w) with
   | false => rw [Bool.false_and, Bool.and_false]; exact ev_neg (by decide) (Ev.now _)
   | true =>
    refine ev_pos rfl (ev_bind1 (rholds_ev b2 h3 n b3 b4) ?_)
    cases holdsS w ts with
    | false => exact ev_neg (by decide) (Ev.now _)
    | true => exact ev_pos rfl (ev_bind1 (product_ev w m (by omega) (by omega)) (ev_bind1 (product_ev w l (by omega) (by omega)) (Ev.now _)))
 ·
  rw [if_neg h1, if_neg h1]; exact ev_neg h1 (Ev.now _)
/-! ### Turned -/
def turn (t : S64) : S64 := ⟨t.f1, t.f0⟩
def turned (ts : List S64) : List S64 := ts.map turn
theorem turned_turned (ts : List S64) : turned (turned ts) = ts := by simp [turned, turn, Function.comp_def]
theorem okT_turn (n : Int) (t : S64) : okT n (turn t) = okT n t := by simp [okT, turn, Bool.and_comm]
theorem okB_turned (n : Int) (ts : List S64) : okB n (turned ts) = okB n ts := by simp [okB, turned, List.all_map, Function.comp_def, okT_turn]
theorem holds_turned (w : List Int) (ts : List S64) : holdsS w (turned ts) = holdsS w ts := by
 rw [holdsS, turned, List.all_map, holdsS]
 congr 1
 funext t
 show decide (dot 0 w t.f1 = dot 0 w t.f0) = decide (dot 0 w t.f0 = dot 0 w t.f1)
 exact decide_eq_decide.2 eq_comm
def TurnedS (n : Int) (ts : List S64) : Int × List S64 × Int := if okB n ts = true then (n, turned ts, 0) else (0, [], 60)
theorem Clone_val (l : List Int) (h : l.length ≤ 6) : slices_Clone_int_int.f l = some l := if_pos (by omega)
theorem Turned_ev (n : Int) (ts : List S64) : Ev (fun k => key_Turned.f k n ts) (TurnedS n ts) := by
 unfold key_Turned.f TurnedS
 refine ev_val (open_val n ts []) ?_
 unfold asks
 cases hb : okB n ts with
 | false => exact ev_neg (by simp) (Ev.now _)
 | true =>
  obtain ⟨⟨b1, b2⟩, b3, b4⟩ := (okB_iff n ts).1 hb
  refine ev_pos rfl ?_
  have H : ∀ (d i : Nat) (acc : List S64), i + d = ts.length → acc.length ≤ i → Ev (fun k => key_Turned.l0 k ts (ts.length : Int) (i : Int) n acc) (n, acc ++ turned (ts.drop i), 0) := by
   intro d
   induction d with
   | zero =>
    intro i acc hi ha
    rw [List.drop_eq_nil_of_le (by omega : ts.length ≤ i), turned, List.map_nil, List.append_nil]
    refine Ev.step (fun k => by rw [key_Turned.l0]) (ev_neg (by omega) ?_); exact Ev.now _
   | succ d ih =>
    intro i acc hi ha
    have hlt : i < ts.length := by omega
    obtain ⟨⟨a, b⟩, c, e⟩ := (okT_iff n ts[i]).1 (b4 _ (List.getElem_mem hlt))
    refine Ev.step (fun k => by rw [key_Turned.l0]) (ev_pos (by omega) (ev_pos (by omega) (ev_pos (by omega) ?_)))
    rw [rd_S ts i hlt, wrap_succ (l := ts.length) i hlt (by omega)]
    refine ev_val (Clone_val _ (by omega)) (ev_val (Clone_val _ (by omega)) (ev_pos (by omega) ?_))
    have := ih (i + 1) (acc ++ [⟨ts[i].f1, ts[i].f0⟩]) (by omega) (by simp; omega)
    have e : acc ++ turned (ts.drop i) = (acc ++ [⟨ts[i].f1, ts[i].f0⟩]) ++ turned (ts.drop (i + 1)) := by rw [List.drop_eq_getElem_cons hlt]; unfold turned; rw [List.map_cons, List.append_assoc]; rfl
    rw [e]
    exact this
  have := H ts.length 0 [] (by omega) (by simp)
  simpa using this
theorem rTurned_ev (n : Int) (ts : List S64) (hf : Fits ts) : Ev (fun k => dropperref06_Turned.f k n ts) (TurnedS n ts) := by
 unfold dropperref06_Turned.f TurnedS
 refine ev_bind1 (rValid_ev n ts hf) ?_
 cases hb : okB n ts with
 | false => exact ev_neg (by decide) (Ev.now _)
 | true =>
  obtain ⟨⟨b1, b2⟩, b3, b4⟩ := (okB_iff n ts).1 hb
  refine ev_pos rfl ?_
  have H : ∀ (d i : Nat) (acc : List S64), i + d = ts.length → acc.length ≤ i → Ev (fun k => dropperref06_Turned.l0 k (i : Int) n ts n acc) (n, acc ++ turned (ts.drop i), 0) := by
   intro d
   induction d with
   | zero =>
    intro i acc hi ha
    rw [List.drop_eq_nil_of_le (by omega : ts.length ≤ i), turned, List.map_nil, List.append_nil]
    refine Ev.step (fun k => by rw [dropperref06_Turned.l0]) (ev_neg (by omega) ?_); exact Ev.now _
   | succ d ih =>
    intro i acc hi ha
    have hlt : i < ts.length := by omega
    obtain ⟨⟨a, b⟩, c, e⟩ := (okT_iff n ts[i]).1 (b4 _ (List.getElem_mem hlt))
    refine Ev.step (fun k => by rw [dropperref06_Turned.l0]) (ev_pos (by omega) (ev_pos (by omega) ?_))
    rw [rd_S ts i hlt, wrap_succ (l := ts.length) i hlt (by omega)]
    refine ev_some (ev_pos (by simp; omega) (ev_some (ev_pos (by simp; omega) (ev_pos (by omega) ?_))))
    have := ih (i + 1) (acc ++ [⟨ts[i].f1, ts[i].f0⟩]) (by omega) (by simp; omega)
    have e : acc ++ turned (ts.drop i) = (acc ++ [⟨ts[i].f1, ts[i].f0⟩]) ++ turned (ts.drop (i + 1)) := by rw [List.drop_eq_getElem_cons hlt]; unfold turned; rw [List.map_cons, List.append_assoc]; rfl
    rw [e]
    exact this
  have := H ts.length 0 [] (by omega) (by simp)
  simpa using this
theorem sameB_refl (n : Int) (ts : List S64) (hf : Fits ts) : Ev (fun k => dropperlaw06_sameBoards.f k n ts n ts) true := by
 unfold dropperlaw06_sameBoards.f
 refine ev_pos rfl ?_
 rw [show ((ts.length : Int) != (ts.length : Int)) = false by simp]
 refine Ev.step (fun k => by rw [dropperlaw06_sameBoards.j0]) ?_
 refine ev_neg (by decide) ?_
 refine ev_loop (l := ts) hf.1 (F := fun k i => dropperlaw06_sameBoards.l0 k i n ts n ts) (fun _ => true) ?_ ?_
 ·
  refine Ev.step (fun k => by rw [dropperlaw06_sameBoards.l0]) (ev_neg (by omega) ?_); exact Ev.now _
 ·
  intro i h hw ih
  have hfi := hf.2 ts[i] (List.getElem_mem h)
  refine Ev.step (fun k => by rw [dropperlaw06_sameBoards.l0]) (ev_pos (by omega) (ev_pos (by omega) (ev_pos (by omega) ?_)))
  rw [rd_S ts i h, hw]
  exact ev_bind1 (same_refl _ hfi.1) (ev_pos rfl (ev_bind1 (same_refl _ hfi.2) (ev_pos rfl ih)))
end Go.Proofs.Ytgdfakmlpdeabaa.Keys

/- What is reached: by any play, in no fewer moves; the way back; sums that are kept. -/
namespace Go.Proofs.Ytgdfakmlpdeabaa.Keys
set_option linter.unusedVariables false
set_option linter.unusedSimpArgs false
open Go.RowKit Go.Proofs.Ytgdfakmlpdeabaa.XKey Go.Proofs.YtgdfakmlpdeabaaW.PrintWords Go.Proofs.YtgdfakmlpdeabaaW.PrintLast Go.Proofs.YtgdfakmlpdeabaaW.PrintMore
theorem plays_app (ts : List S64) : ∀ (a b x : List Int), plays ts x (a ++ b) = (plays ts x a).bind fun y => plays ts y b
 | [], b, x => rfl
 | i :: a, b, x => by
  rw [List.cons_append, plays, plays, Option.bind_assoc]
  congr 1
  funext y
  exact plays_app ts a b y
theorem rd_get? {ts : List S64} {q : Nat} {u : S64} (h : ts[q]? = some u) : q < ts.length ∧ rd_T64 ts (q : Int) = u := by
 obtain ⟨h1, h2⟩ := List.getElem?_eq_some_iff.1 h
 exact ⟨h1, by rw [rd_S ts q h1, h2]⟩
theorem Inv.reach {n : Int} {ts : List S64} {x0 : List Int} {L : List (List Int)} {st : List S107} {D : Nat → Nat} (h : Inv n ts x0 L.length 0 L st D) : ∀ {ms l r : List Int} {k : Nat}, Names ts ms → L[k]? = some l → plays ts l ms = some r → ∃ j, L[j]? = some r ∧ D j ≤ D k + ms.length
 | [], l, r, k, _, hk, e => by rw [plays] at e; cases e; exact ⟨k, hk, Nat.le_refl _⟩
 | a :: ms, l, r, k, hN, hk, e => by
  rw [plays] at e
  obtain ⟨y, e1, e2⟩ := Option.bind_eq_some_iff.1 e
  have ha := hN a (List.mem_cons_self ..)
  obtain ⟨q, rfl⟩ := Int.eq_ofNat_of_zero_le ha.1
  have hq : q < ts.length := by omega
  rw [rd_S ts q hq] at e1
  obtain ⟨j, j1, j2, j3⟩ := h.clo k q l ts[q] y (.inl (List.getElem?_eq_some_iff.1 hk).1) hk (List.getElem?_eq_getElem hq) e1
  obtain ⟨i, i1, i2⟩ := h.reach (fun x hx => hN x (List.mem_cons_of_mem _ hx)) j2 e2
  refine ⟨i, i1, ?_⟩
  simp only [List.length_cons]
  omega
theorem Inv.dist {n : Int} {ts : List S64} {x0 : List Int} {i t : Nat} {L : List (List Int)} {st : List S107} {D : Nat → Nat} (h : Inv n ts x0 i t L st D) : ∀ j, j < L.length → D j ≤ j := by
 intro j
 induction j using Nat.strongRecOn with
 | ind j ih =>
  intro hj
  by_cases h0 : j = 0
  ·
   subst h0; rw [h.d0]; exact Nat.le_refl _
  ·
   obtain ⟨p, q, a, b, c, _⟩ := h.par j (by omega) hj
   have := ih p a (by omega)
   omega
theorem Inv.back {n : Int} {ts : List S64} {x0 : List Int} {i t : Nat} {L : List (List Int)} {st : List S107} {D : Nat → Nat} (h : Inv n ts x0 i t L st D) : ∀ j, j < L.length → ∀ (m : Nat) (out : List Int), j < m → out.length + j < 1000000 →
  ∃ path, key_play.back st m (j : Int) out = some (out ++ path) ∧ path.length = D j ∧ Names ts path ∧ plays ts x0 path.reverse = L[j]? := by
 intro j
 induction j using Nat.strongRecOn with
 | ind j ih =>
  intro hj m out hm ho
  obtain ⟨m, rfl⟩ : ∃ k, m = k + 1 := ⟨m - 1, by omega⟩
  have hs : j < st.length := by rw [h.len]; exact hj
  rw [key_play.back, dif_pos ⟨by omega, by simpa using hs⟩]
  simp only [Int.toNat_natCast]
  by_cases h0 : j = 0
  ·
   subst h0
   have e0 : st[0] = ⟨-1, -1⟩ := by have := h.st0; rw [List.getElem?_eq_getElem hs] at this; exact Option.some.inj this
   rw [e0, if_neg (by decide)]
   exact ⟨[], by simp, (by rw [h.d0]; rfl), (fun x hx => by cases hx), (by rw [h.hd]; rfl)⟩
  ·
   obtain ⟨p, q, a, b, c, l, u, y, e1, e2, e3, e4⟩ := h.par j (by omega) hj
   have es : st[j] = ⟨(p : Int), (q : Int)⟩ := by rw [List.getElem?_eq_getElem hs] at b; exact Option.some.inj b
   obtain ⟨path, p1, p2, p3, p4⟩ := ih p a (by omega) m (out ++ [(q : Int)]) (by omega) (by simp; omega)
   rw [es]
   simp only
   rw [if_pos (by omega), if_pos (by omega), p1]
   obtain ⟨q1, q2⟩ := rd_get? e2
   refine ⟨(q : Int) :: path, by simp, by simp [p2, c], ?_, ?_⟩
   ·
    intro x hx
    rcases List.mem_cons.1 hx with rfl | hx
    ·
     omega
    ·
     exact p3 x hx
   ·
    rw [List.reverse_cons, plays_app, p4, e1, e3]
    show ((mv l _ _).bind fun y => plays ts y []) = some y
    rw [q2, e4]; rfl
/-! ### sums -/
def sdot : List Int → List Int → Int
 | x :: xs, y :: ys => x * y + sdot xs ys
 | _, _ => 0
theorem mul_in {x y : Int} (h0 : -20000 ≤ x) (h1 : x ≤ 20000) (h2 : 0 ≤ y) (h3 : y ≤ 100) : -2000000 ≤ x * y ∧ x * y ≤ 2000000 := by
 have a := Int.mul_le_mul_of_nonneg_right h1 h2
 have b := Int.mul_le_mul_of_nonneg_right h0 h2
 omega
theorem dot_eq : ∀ {xs ys : List Int} {s : Int}, In (-20000) 20000 xs → In 0 100 ys → -9000000000000000000 ≤ s - 2000000 * (xs.length : Int) → s + 2000000 * (xs.length : Int) ≤ 9000000000000000000 → dot s xs ys = s + sdot xs ys
 | [], ys, s, _, _, _, _ => by simp [dot, sdot]
 | x :: xs, [], s, _, _, _, _ => by simp [dot, sdot]
 | x :: xs, y :: ys, s, hx, hy, h1, h2 => by
  have a := hx x (List.mem_cons_self ..)
  have b := hy y (List.mem_cons_self ..)
  have c := mul_in a.1 a.2 b.1 b.2
  simp only [List.length_cons] at h1 h2
  rw [dot, sdot, wrap_id (x := x * y) (by omega) (by omega), wrap_id (x := s + x * y) (by omega) (by omega)]
  rw [dot_eq (fun z hz => hx z (List.mem_cons_of_mem _ hz)) (fun z hz => hy z (List.mem_cons_of_mem _ hz)) (by omega) (by omega)]
  omega
theorem dot_six {n : Int} {w y : List Int} (hn : n ≤ 6) (hw : fitW n w = true) (hy : In 0 100 y) : dot 0 w y = sdot w y := by
 obtain ⟨a, b⟩ := (okL_iff _ _ _ _).1 hw
 rw [dot_eq b hy (by omega) (by omega)]; omega
theorem sdot_mv : ∀ {w xs ns gs r : List Int}, mv xs ns gs = some r → xs.length = ns.length → xs.length = gs.length → w.length = xs.length → sdot w r = sdot w xs - sdot w ns + sdot w gs
 | [], [], [], [], r, h, _, _, _ => by cases h; rfl
 | a :: w, x :: xs, n :: ns, g :: gs, r, h, h1, h2, h3 => by
  rw [mv] at h
  split at h
  ·
   cases h
  ·
   obtain ⟨q, e, rfl⟩ := Option.map_eq_some_iff.1 h
   have := sdot_mv (w := w) e (by simpa using h1) (by simpa using h2) (by simpa using h3)
   simp only [sdot]
   rw [this, Int.mul_add, Int.mul_sub]
   omega
theorem In.mono {lo hi hi' : Int} {l : List Int} (h : In lo hi l) (hh : hi ≤ hi') : In lo hi' l := fun x hx => ⟨(h x hx).1, Int.le_trans (h x hx).2 hh⟩
theorem dot_mv {n : Int} {ts : List S64} {w l r : List Int} {u : S64} (hn : n ≤ 6) (hw : fitW n w = true) (hh : holdsS w ts = true) (hu : u ∈ ts) (hok : okT n u = true) (hl : St n l) (e : mv l u.f0 u.f1 = some r) : dot 0 w r = dot 0 w l := by
 obtain ⟨⟨a, b⟩, c, d⟩ := (okT_iff n u).1 hok
 have hr := hl.mv hok e
 have h1 := hl.len
 have h2 := fitW_len hw
 have h3 := List.all_eq_true.1 hh u hu
 rw [decide_eq_true_eq, dot_six hn hw (b.mono (by decide)), dot_six hn hw (d.mono (by decide))] at h3
 rw [dot_six hn hw hr.rng, dot_six hn hw hl.rng, sdot_mv e (by omega) (by omega) (by omega)]
 omega
theorem Inv.sums {n : Int} {ts : List S64} {x0 : List Int} {i t : Nat} {L : List (List Int)} {st : List S107} {D : Nat → Nat} (h : Inv n ts x0 i t L st D) (hn : n ≤ 6) (hts : ∀ u ∈ ts, okT n u = true) {w : List Int} (hw : fitW n w = true) (hh : holdsS w ts = true) :
  ∀ (j : Nat) (l : List Int), L[j]? = some l → dot 0 w l = dot 0 w x0 := by
 intro j
 induction j using Nat.strongRecOn with
 | ind j ih =>
  intro y hy
  by_cases h0 : j = 0
  ·
   subst h0; rw [h.hd] at hy; cases hy; rfl
  ·
   obtain ⟨p, q, a, b, c, l, u, y', e1, e2, e3, e4⟩ := h.par j (by omega) (List.getElem?_eq_some_iff.1 hy).1
   rw [hy] at e3; cases e3
   have hu := List.mem_of_getElem? e2
   rw [dot_mv hn hw hh hu (hts u hu) (h.sts l (List.mem_of_getElem? e1)) e4]
   exact ih p a l e1
def cov : List Int → List Int → Bool
 | x :: xs, y :: ys => decide (y ≤ x) && cov xs ys
 | _, _ => true
theorem sdot_cov : ∀ {w xs ys : List Int}, (∀ x ∈ w, 0 ≤ x) → cov xs ys = true → xs.length = ys.length → sdot w ys ≤ sdot w xs
 | [], _, _, _, _, _ => by simp [sdot]
 | _ :: _, [], [], _, _, _ => by simp [sdot]
 | a :: w, x :: xs, y :: ys, hw, h, hl => by
  rw [cov, Bool.and_eq_true, decide_eq_true_eq] at h
  have h1 := sdot_cov (w := w) (fun z hz => hw z (List.mem_cons_of_mem _ hz)) h.2 (by simpa using hl)
  have h2 := Int.mul_le_mul_of_nonneg_left h.1 (hw a (List.mem_cons_self ..))
  simp only [sdot]
  omega
theorem cov_refl : ∀ x : List Int, cov x x = true
 | [] => rfl
 | a :: x => by rw [cov, cov_refl x]; simp
theorem Covers_ev (a b : List Int) (h : a.length = b.length) (hl : a.length ≤ 9223372036854775807) : Ev (fun k => dropperref06_Covers.f k a b) (cov a b) := by
 unfold dropperref06_Covers.f
 have H : ∀ (d i : Nat), i + d = a.length → Ev (fun k => dropperref06_Covers.l0 k a b (i : Int)) (cov (a.drop i) (b.drop i)) := by
  intro d
  induction d with
  | zero =>
   intro i hi
   rw [List.drop_eq_nil_of_le (by omega : a.length ≤ i)]
   refine Ev.step (fun k => by rw [dropperref06_Covers.l0]) (ev_neg (by omega) ?_)
   rw [cov]
   ·
    exact Ev.now _
   ·
    intro _ _ _ _ h; cases h
  | succ d ih =>
   intro i hi
   refine Ev.step (fun k => by rw [dropperref06_Covers.l0]) (ev_pos (by omega) (ev_pos (by omega) (ev_pos (by omega) ?_)))
   rw [List.drop_eq_getElem_cons (by omega : i < a.length), List.drop_eq_getElem_cons (by omega : i < b.length), cov, rd_at a i (by omega), rd_at b i (by omega), wrap_succ (l := a.length) i (by omega) hl]
   by_cases hc : a[i] < b[i]
   ·
    rw [decide_eq_false (by omega), Bool.false_and]; exact ev_pos hc (Ev.now _)
   ·
    rw [decide_eq_true (by omega), Bool.true_and]; exact ev_neg hc (ih (i + 1) (by omega))
 exact H a.length 0 (by omega)
theorem same_ev (a b : List Int) (hl : a.length ≤ 9223372036854775807) : Ev (fun k => dropperlaw06_SameInts.f k a b) (decide (a = b)) := by
 by_cases h : a = b
 ·
  subst h; rw [decide_eq_true rfl]; exact same_refl a hl
 rw [decide_eq_false h]
 unfold dropperlaw06_SameInts.f
 by_cases hn : (a.length : Int) = (b.length : Int)
 ·
  refine ev_pos hn ?_
  have H : ∀ (d i : Nat), i + d = a.length → a.drop i ≠ b.drop i → Ev (fun k => dropperlaw06_SameInts.l0 k a b (i : Int)) false := by
   intro d
   induction d with
   | zero =>
    intro i hi hne
    rw [List.drop_eq_nil_of_le (by omega : a.length ≤ i), List.drop_eq_nil_of_le (by omega : b.length ≤ i)] at hne
    exact absurd rfl hne
   | succ d ih =>
    intro i hi hne
    refine Ev.step (fun k => by rw [dropperlaw06_SameInts.l0]) (ev_pos (by omega) (ev_pos (by omega) (ev_pos (by omega) ?_)))
    rw [List.drop_eq_getElem_cons (by omega : i < a.length), List.drop_eq_getElem_cons (by omega : i < b.length)] at hne
    rw [rd_at a i (by omega), rd_at b i (by omega), wrap_succ (l := a.length) i (by omega) hl]
    by_cases hc : a[i] = b[i]
    ·
     refine ev_pos hc (ih (i + 1) (by omega) (fun e => hne ?_)); rw [hc, e]
    ·
     exact ev_neg hc (Ev.now _)
  exact H a.length 0 (by omega) h
 ·
  exact ev_neg hn (Ev.now _)
theorem among_ev (ls : List (List Int)) (x : List Int) (h1 : ls.length ≤ 9223372036854775807) (h2 : ∀ l ∈ ls, l.length ≤ 9223372036854775807) : Ev (fun k => droppertop_among.f k ls x) (decide (x ∈ ls)) := by
 unfold droppertop_among.f
 refine ev_loop (l := ls) h1 (F := fun k i => droppertop_among.l0 k ls x i) (fun r => decide (x ∈ r)) ?_ ?_
 ·
  refine Ev.step (fun k => by rw [droppertop_among.l0]) (ev_neg (by omega) ?_); exact Ev.now _
 ·
  intro i h hw ih
  refine Ev.step (fun k => by rw [droppertop_among.l0]) (ev_pos (by omega) (ev_pos (by omega) ?_))
  rw [rd_L ls i h, hw]
  refine ev_bind1 (same_ev _ _ (h2 _ (List.getElem_mem h))) ?_
  by_cases hc : ls[i] = x
  ·
   rw [decide_eq_true hc, decide_eq_true (by rw [hc]; exact List.mem_cons_self ..)]; exact ev_pos rfl (Ev.now _)
  ·
   rw [decide_eq_false hc, show decide (x ∈ ls[i] :: ls.drop (i + 1)) = decide (x ∈ ls.drop (i + 1)) by
    refine decide_eq_decide.2 ?_
    rw [List.mem_cons]
    exact ⟨fun h => h.elim (fun e => absurd e.symm hc) id, .inr⟩]
   exact ev_neg (by decide) ih
end Go.Proofs.Ytgdfakmlpdeabaa.Keys

/- What the program tells of what is reached. -/
namespace Go.Proofs.Ytgdfakmlpdeabaa.Keys
set_option linter.unusedVariables false
set_option linter.unusedSimpArgs false
open Go.RowKit Go.Proofs.Ytgdfakmlpdeabaa.XKey Go.Proofs.YtgdfakmlpdeabaaW.PrintWords Go.Proofs.YtgdfakmlpdeabaaW.PrintLast Go.Proofs.YtgdfakmlpdeabaaW.PrintMore
abbrev Found := Option (List (List Int) × List S107)
def found (ts : List S64) (x0 : List Int) : Found := (bfs ts 400 0 [x0] [⟨-1, -1⟩]).getD none
theorem found_eq (ts : List S64) (x0 : List Int) : bfs ts 400 0 [x0] [⟨-1, -1⟩] = some (found ts x0) := by
 obtain ⟨o, h⟩ := bfs_some (ts := ts) (m := 400) (i := 0) (L := [x0]) (st := [⟨-1, -1⟩]) (by simp) (by simp) (by simp)
 rw [found, h]; rfl
theorem found_inv {n : Int} {ts : List S64} {x0 : List Int} (hts : ∀ u ∈ ts, okT n u = true) (h0 : St n x0) {L : List (List Int)} {st : List S107} (h : found ts x0 = some (L, st)) : ∃ D, Inv n ts x0 L.length 0 L st D := by
 have e := found_eq ts x0
 rw [h] at e
 exact Inv.bfs hts (Inv.start h0) (by simp) e
theorem bfs_len {ts : List S64} : ∀ {m i : Nat} {L L' : List (List Int)} {st st' : List S107}, L.length ≤ 300 → bfs ts m i L st = some (some (L', st')) → L'.length ≤ 300
 | 0, i, L, L', st, st', h1, e => by rw [bfs] at e; cases e
 | m + 1, i, L, L', st, st', h1, e => by
  rw [bfs] at e
  split at e
  ·
   split at e
   ·
    cases e
   ·
    rename_i hin
    exact bfs_len (inner_len hin h1).1 e
  ·
   cases e; exact h1
theorem found_len {ts : List S64} {x0 : List Int} {L : List (List Int)} {st : List S107} (h : found ts x0 = some (L, st)) : L.length ≤ 300 := by
 have e := found_eq ts x0
 rw [h] at e
 exact bfs_len (by simp) e
theorem spread_val {n : Int} {ts : List S64} {x0 : List Int} (hn : n ≤ 6) (hts : ∀ u ∈ ts, okT n u = true) (h0 : St n x0) :
  key_spread.f n ts (rd x0 0) (rd x0 1) (rd x0 2) (rd x0 3) (rd x0 4) (rd x0 5) = some (match found ts x0 with | none => ([], [], false) | some p => (p.1.map pk, p.2, true)) := by
 unfold key_spread.f
 rw [if_pos (wf_pk hn h0)]
 have e := bfs_eq (m := 400) (i := 0) (L := [x0]) (st := [⟨-1, -1⟩]) hn hts (fun x hx => by rw [List.mem_singleton.1 hx]; exact h0)
 rw [found_eq] at e
 exact e
def srt (L : List (List Int)) : List S70 := (L.map pk).mergeSort key_reach.le
theorem reach_val {n : Int} {ts : List S64} {x0 : List Int} (h : asks n ts [x0] = 0) : key_reach.f n ts x0 = some (match found ts x0 with | none => ([], 4) | some p => (srt p.1, 0)) := by
 obtain ⟨hb, hls⟩ := asks_zero h
 obtain ⟨⟨b1, b2⟩, b3, b4⟩ := (okB_iff n ts).1 hb
 have h0 := St.of (hls x0 (by simp))
 unfold key_reach.f
 rw [open_val, Option.bind_some, if_pos h, show key_keysOf.f x0 = some (tup6 x0) from rfl, Option.bind_some]
 simp only [tup6]
 rw [spread_val b2 b4 h0]
 cases found ts x0 with
 | none => rfl
 | some p => rfl
def lst (n : Int) (l : List S70) : List (List Int) := l.map fun x => (key_spread.toL x).take n.toNat
theorem rd_K (xs : List S70) (i : Nat) (h : i < xs.length) : rd_T70 xs (i : Int) = xs[i] := by simp [rd_T70, List.getD_eq_getElem?_getD, h]
theorem lists_ev {n : Int} (h0 : 0 ≤ n) (h6 : n ≤ 6) (l : List S70) (hl : l.length ≤ 300) : Ev (fun k => key_lists.f k l n) (lst n l) := by
 have H : ∀ (d i : Nat) (acc : List (List Int)), i + d = l.length → acc.length ≤ i → Ev (fun k => key_lists.l0 k n acc l (l.length : Int) (i : Int)) (acc ++ lst n (l.drop i)) := by
  intro d
  induction d with
  | zero =>
   intro i acc hi ha
   rw [List.drop_eq_nil_of_le (by omega : l.length ≤ i), lst, List.map_nil, List.append_nil]
   refine Ev.step (fun k => by rw [key_lists.l0]) (ev_neg (by omega) ?_); exact Ev.now _
  | succ d ih =>
   intro i acc hi ha
   have hlt : i < l.length := by omega
   refine Ev.step (fun k => by rw [key_lists.l0]) (ev_pos (by omega) (ev_pos (by omega) (ev_pos (by omega) ?_)))
   rw [rd_K l i hlt, wrap_succ (l := l.length) i hlt (by omega)]
   refine ev_val (show key_keys_list.f _ _ _ _ _ _ n = some ((key_spread.toL l[i]).take n.toNat) from if_pos ⟨h0, h6⟩) (ev_pos (by omega) ?_)
   have := ih (i + 1) (acc ++ [(key_spread.toL l[i]).take n.toNat]) (by omega) (by simp; omega)
   rw [List.drop_eq_getElem_cons hlt]
   rw [List.append_assoc] at this
   exact this
 have := H l.length 0 [] (by omega) (by simp)
 unfold key_lists.f
 simpa using this
theorem lst_pk {n : Int} (hn : n ≤ 6) : ∀ {L : List (List Int)}, (∀ x ∈ L, St n x) → lst n (L.map pk) = L
 | [], _ => rfl
 | x :: L, h => by
  rw [List.map_cons, lst, List.map_cons, take_pk hn (h x (List.mem_cons_self ..))]
  have := lst_pk hn (L := L) (fun y hy => h y (List.mem_cons_of_mem _ hy))
  rw [lst] at this; rw [this]
theorem lst_perm {n : Int} (hn : n ≤ 6) {L : List (List Int)} (h : ∀ x ∈ L, St n x) : (lst n (srt L)).Perm L := by
 have h1 : (srt L).Perm (L.map pk) := List.mergeSort_perm _ _
 have h2 := h1.map (fun x => (key_spread.toL x).take n.toNat)
 have h3 := lst_pk hn h
 rw [lst] at h3
 rw [h3] at h2
 exact h2
theorem srt_len (L : List (List Int)) : (srt L).length = L.length := by rw [srt, List.length_mergeSort, List.length_map]
theorem srt_mem {L : List (List Int)} {x : S70} : x ∈ srt L ↔ ∃ l ∈ L, pk l = x := by
 rw [srt, List.mem_mergeSort, List.mem_map]
theorem Reach_ev {n : Int} {ts : List S64} {x0 : List Int} (h : asks n ts [x0] = 0) : Ev (fun k => key_Reach.f k n ts x0) (match found ts x0 with | none => ([], 4) | some p => (lst n (srt p.1), 0)) := by
 obtain ⟨hb, hls⟩ := asks_zero h
 obtain ⟨⟨b1, b2⟩, b3, b4⟩ := (okB_iff n ts).1 hb
 unfold key_Reach.f
 refine ev_val (reach_val h) ?_
 cases hf : found ts x0 with
 | none => exact ev_bind1 (lists_ev (by omega) b2 [] (by simp)) (Ev.now _)
 | some p => exact ev_bind1 (lists_ev (by omega) b2 (srt p.1) (by rw [srt_len]; exact found_len hf)) (Ev.now _)
def stk (ts : List S64) (n : Int) (x : S70) : Bool := (cans ((key_spread.toL x).take n.toNat) 0 ts).isEmpty
theorem keep_ev {n : Int} {ts : List S64} (hn : n ≤ 6) (h8 : ts.length ≤ 8) (hts : ∀ u ∈ ts, okT n u = true) : ∀ {l : List S70}, (∀ x ∈ l, ∃ y, St n y ∧ pk y = x) → Ev (fun k => key_Stuck.keep k n ts l) (l.filter (stk ts n))
 | [], _ => Ev.congr (f := fun _ => some []) (fun k => by rw [key_Stuck.keep]) (Ev.now _)
 | x :: l, h => by
  obtain ⟨y, hy, rfl⟩ := h x (List.mem_cons_self ..)
  have ih := keep_ev hn h8 hts (l := l) (fun z hz => h z (List.mem_cons_of_mem _ hz))
  refine Ev.congr (fun k => by rw [key_Stuck.keep]) ?_
  refine ev_bind1 (kcan_ev hn h8 hts hy) (ev_bind1 ih ?_)
  have e : stk ts n (pk y) = (cans y 0 ts).isEmpty := by rw [stk, take_pk hn hy]
  rw [List.filter_cons, e]
  cases hc : cans y 0 ts with
  | nil => rw [if_neg (by simp), if_pos (by simp)]; exact Ev.now _
  | cons a b => rw [if_pos (by simp), if_neg (by simp)]; exact Ev.now _
theorem Stuck_ev {n : Int} {ts : List S64} {x0 : List Int} (h : asks n ts [x0] = 0) : Ev (fun k => key_Stuck.f k n ts x0) (match found ts x0 with | none => ([], 4) | some p => (lst n ((srt p.1).filter (stk ts n)), 0)) := by
 obtain ⟨hb, hls⟩ := asks_zero h
 obtain ⟨⟨b1, b2⟩, b3, b4⟩ := (okB_iff n ts).1 hb
 have h0 := St.of (hls x0 (by simp))
 unfold key_Stuck.f
 refine ev_val (reach_val h) ?_
 cases hf : found ts x0 with
 | none => exact ev_bind1 (keep_ev b2 b3 b4 (l := []) (fun x hx => by cases hx)) (ev_bind1 (lists_ev (by omega) b2 [] (by simp)) (Ev.now _))
 | some p =>
  obtain ⟨L, st⟩ := p
  obtain ⟨D, hD⟩ := found_inv b4 h0 hf
  refine ev_bind1 (keep_ev b2 b3 b4 (l := srt L) (fun x hx => ?_)) (ev_bind1 (lists_ev (by omega) b2 _ ?_) (Ev.now _))
  ·
   obtain ⟨l, hl, e⟩ := srt_mem.1 hx; exact ⟨l, hD.sts l hl, e⟩
  ·
   refine Nat.le_trans (List.length_filter_le _ _) ?_
   rw [srt_len]; exact found_len hf
theorem stuck_mem {n : Int} {ts : List S64} (hn : n ≤ 6) {L : List (List Int)} (h : ∀ x ∈ L, St n x) {y : List Int} (hy : y ∈ L) : y ∈ lst n ((srt L).filter (stk ts n)) ↔ (cans y 0 ts) = [] := by
 rw [lst, List.mem_map]
 constructor
 ·
  rintro ⟨x, hx, e⟩
  obtain ⟨h1, h2⟩ := List.mem_filter.1 hx
  rw [stk, e] at h2
  exact List.isEmpty_iff.1 h2
 ·
  intro e
  refine ⟨pk y, List.mem_filter.2 ⟨srt_mem.2 ⟨y, hy, rfl⟩, ?_⟩, take_pk hn (h y hy)⟩
  rw [stk, take_pk hn (h y hy), e]; rfl
/-! ### the greatest -/
def mxs (s x : List Int) : List Int := List.zipWith max s x
theorem mxs_cov : ∀ {s x : List Int}, s.length = x.length → cov (mxs s x) s = true ∧ cov (mxs s x) x = true
 | [], [], _ => ⟨rfl, rfl⟩
 | a :: s, b :: x, h => by
  have := mxs_cov (s := s) (x := x) (by simpa using h)
  rw [mxs] at this
  simp only [mxs, List.zipWith_cons_cons, cov, Bool.and_eq_true, decide_eq_true_eq]
  exact ⟨⟨by omega, this.1⟩, ⟨by omega, this.2⟩⟩
theorem cov_trans : ∀ {a b c : List Int}, a.length = b.length → b.length = c.length → cov a b = true → cov b c = true → cov a c = true
 | [], [], [], _, _, _, _ => rfl
 | x :: a, y :: b, z :: c, h1, h2, h3, h4 => by
  simp only [cov, Bool.and_eq_true, decide_eq_true_eq] at h3 h4 ⊢
  exact ⟨by omega, cov_trans (by simpa using h1) (by simpa using h2) h3.2 h4.2⟩
theorem fold_cov {m : Nat} : ∀ {l : List (List Int)} {s : List Int}, s.length = m → (∀ x ∈ l, x.length = m) → (l.foldl mxs s).length = m ∧ cov (l.foldl mxs s) s = true ∧ ∀ x ∈ l, cov (l.foldl mxs s) x = true
 | [], s, hs, _ => ⟨hs, cov_refl s, fun x hx => by cases hx⟩
 | y :: l, s, hs, hl => by
  have hy := hl y (List.mem_cons_self ..)
  have h1 : (mxs s y).length = m := by simp [mxs, hs, hy]
  obtain ⟨a, b, c⟩ := fold_cov (l := l) h1 (fun x hx => hl x (List.mem_cons_of_mem _ hx))
  obtain ⟨d, e⟩ := mxs_cov (s := s) (x := y) (by omega)
  rw [List.foldl_cons]
  refine ⟨a, cov_trans (by omega) (by omega) b d, fun x hx => ?_⟩
  rcases List.mem_cons.1 hx with rfl | hx
  ·
   exact cov_trans (by omega) (by omega) b e
  ·
   exact c x hx
theorem cov_take : ∀ {a b : List Int} (k : Nat), cov a b = true → cov (a.take k) (b.take k) = true
 | [], _, k, _ => by cases k <;> rfl
 | _ :: _, [], k, _ => by cases k <;> rfl
 | x :: a, y :: b, 0, _ => rfl
 | x :: a, y :: b, k + 1, h => by
  rw [cov, Bool.and_eq_true] at h
  rw [List.take_succ_cons, List.take_succ_cons, cov, Bool.and_eq_true]
  exact ⟨h.1, cov_take k h.2⟩
def grt (n : Int) (L : List (List Int)) : List Int := (((srt L).map key_spread.toL).foldl mxs [0, 0, 0, 0, 0, 0]).take n.toNat
theorem up_eq : key_Greatest.up = mxs := by
 funext s x
 first
  | rfl
  | (unfold key_Greatest.up mxs; congr 1; funext a b; unfold mx; rw [Int.max_def]; split <;> split <;> omega)
theorem Greatest_val {n : Int} {ts : List S64} {x0 : List Int} (h : asks n ts [x0] = 0) : key_Greatest.f n ts x0 = some (match found ts x0 with | none => ([], 4) | some p => (grt n p.1, 0)) := by
 obtain ⟨hb, hls⟩ := asks_zero h
 obtain ⟨⟨b1, b2⟩, b3, b4⟩ := (okB_iff n ts).1 hb
 unfold key_Greatest.f
 rw [reach_val h]
 cases found ts x0 with
 | none => rfl
 | some p =>
  simp only [Option.bind_some]
  rw [if_pos trivial, if_pos ⟨by omega, b2⟩, up_eq]
  rfl
theorem grt_cov {n : Int} (h0 : 0 ≤ n) (hn : n ≤ 6) {L : List (List Int)} (h : ∀ x ∈ L, St n x) : ((grt n L).length : Int) = n ∧ ∀ y ∈ L, cov (grt n L) y = true := by
 obtain ⟨a, b, c⟩ := fold_cov (m := 6) (l := (srt L).map key_spread.toL) (s := [0, 0, 0, 0, 0, 0]) rfl (fun x hx => by obtain ⟨z, _, rfl⟩ := List.mem_map.1 hx; rfl)
 refine ⟨by rw [grt, List.length_take, a]; omega, fun y hy => ?_⟩
 have := cov_take n.toNat (c (key_spread.toL (pk y)) (List.mem_map.2 ⟨pk y, srt_mem.2 ⟨y, hy, rfl⟩, rfl⟩))
 rw [take_pk hn (h y hy)] at this
 exact this
end Go.Proofs.Ytgdfakmlpdeabaa.Keys

/- The plays that are told. -/
namespace Go.Proofs.Ytgdfakmlpdeabaa.Keys
set_option linter.unusedVariables false
set_option linter.unusedSimpArgs false
open Go.RowKit Go.Proofs.Ytgdfakmlpdeabaa.XKey Go.Proofs.YtgdfakmlpdeabaaW.PrintWords Go.Proofs.YtgdfakmlpdeabaaW.PrintLast Go.Proofs.YtgdfakmlpdeabaaW.PrintMore
theorem asks_both {n : Int} {ts : List S64} {x y : List Int} (h1 : asks n ts [x] = 0) (h2 : okL n 0 100 y = true) : asks n ts [x, y] = 0 := by
 obtain ⟨hb, hls⟩ := asks_zero h1
 unfold asks
 rw [if_pos hb, if_pos (by simp [hls x (by simp), h2])]
theorem play_none {n : Int} {ts : List S64} {x0 o : List Int} (is : S70 → Bool) (h : asks n ts [x0, o] = 0) (hf : found ts x0 = none) : key_play.play is n ts x0 o = some ([], 4) := by
 obtain ⟨hb, hls⟩ := asks_zero h
 obtain ⟨⟨b1, b2⟩, b3, b4⟩ := (okB_iff n ts).1 hb
 have h0 := St.of (hls x0 (by simp))
 unfold key_play.play
 rw [open_val, Option.bind_some, if_pos h, show key_keysOf.f x0 = some (tup6 x0) from rfl, Option.bind_some]
 simp only [tup6]
 rw [spread_val b2 b4 h0, hf]
 rfl
theorem play_spec {n : Int} {ts : List S64} {x0 o : List Int} (is : S70 → Bool) (h : asks n ts [x0, o] = 0) {L : List (List Int)} {st : List S107} (hf : found ts x0 = some (L, st)) {D : Nat → Nat} (hD : Inv n ts x0 L.length 0 L st D) :
  ((∀ y ∈ L, is (pk y) = false) ∧ key_play.play is n ts x0 o = some ([], 5)) ∨
  ∃ (j : Nat) (path y : List Int), L[j]? = some y ∧ is (pk y) = true ∧ (∀ (i : Nat) (z : List Int), i < j → L[i]? = some z → is (pk z) = false) ∧ key_play.play is n ts x0 o = some (path, 0) ∧ path.length = D j ∧ Names ts path ∧ plays ts x0 path = some y := by
 obtain ⟨hb, hls⟩ := asks_zero h
 obtain ⟨⟨b1, b2⟩, b3, b4⟩ := (okB_iff n ts).1 hb
 have h0 := St.of (hls x0 (by simp))
 have hlen := found_len hf
 have hpl : key_play.play is n ts x0 o = (if Idx.idxFrom is (L.map pk) < 0 then some ([], 5) else (key_play.back st 400 (Idx.idxFrom is (L.map pk)) []).map fun o => (o.reverse, 0)) := by
  unfold key_play.play
  rw [open_val, Option.bind_some, if_pos h, show key_keysOf.f x0 = some (tup6 x0) from rfl, Option.bind_some]
  simp only [tup6]
  rw [spread_val b2 b4 h0, hf]
  rfl
 cases ha : (L.map pk).any is with
 | false =>
  left
  have hn : ∀ y ∈ L, is (pk y) = false := by
   intro y hy
   have := List.any_eq_false.1 ha (pk y) (List.mem_map.2 ⟨y, hy, rfl⟩)
   simpa using this
  refine ⟨hn, ?_⟩
  rw [hpl, Idx.idxFrom, ha]
  rfl
 | true =>
  right
  have hi : (L.map pk).findIdx is < (L.map pk).length := List.findIdx_lt_length_of_exists (by simpa using List.any_eq_true.1 ha)
  have hi' : (L.map pk).findIdx is < L.length := by simpa using hi
  have e : Idx.idxFrom is (L.map pk) = (((L.map pk).findIdx is : Nat) : Int) := by rw [Idx.idxFrom, ha]; rfl
  have hp := List.findIdx_getElem (w := hi)
  rw [List.getElem_map] at hp
  obtain ⟨path, p1, p2, p3, p4⟩ := hD.back ((L.map pk).findIdx is) hi' 400 [] (by omega) (by rw [List.length_nil]; omega)
  refine ⟨(L.map pk).findIdx is, path.reverse, L[(L.map pk).findIdx is], List.getElem?_eq_getElem hi', hp, ?_, ?_, by rw [List.length_reverse]; exact p2, fun a ha => p3 a (List.mem_reverse.1 ha), by rw [p4, List.getElem?_eq_getElem hi']⟩
  ·
   intro i z hij hz
   have hz' := List.not_of_lt_findIdx hij
   obtain ⟨h1, h2⟩ := List.getElem?_eq_some_iff.1 hz
   rw [List.getElem_map, h2] at hz'
   simpa using hz'
  ·
   rw [hpl, e, if_neg (by omega), p1]
   simp
theorem way_is {n : Int} (hn : n ≤ 6) {o y : List Int} (ho : St n o) (hy : St n y) : key_Way.is o (pk y) = decide (y = o) := by
 have h1 := ho.len
 have h2 := hy.len
 rw [key_Way.is, toL_pk]
 exact decide_eq_decide.2 ⟨fun e => six_inj (by omega) (by omega) e, fun e => by rw [e]⟩
theorem cov_app : ∀ {a b : List Int} (z : List Int), a.length = b.length → cov (a ++ z) (b ++ z) = cov a b
 | [], [], z, _ => cov_refl z
 | x :: a, y :: b, z, h => by
  rw [List.cons_append, List.cons_append, cov, cov, cov_app z (by simpa using h)]
theorem cover_is {n : Int} (hn : n ≤ 6) {o y : List Int} (ho : St n o) (hy : St n y) : key_Cover.is o (pk y) = cov y o := by
 have h1 := ho.len
 have h2 := hy.len
 rw [← cov_app (List.replicate (6 - y.length) 0) (show y.length = o.length by omega)]
 have e1 := six_app y (by omega)
 have e2 := six_app o (by omega)
 rw [show 6 - o.length = 6 - y.length by omega] at e2
 rw [← e1, ← e2]
 simp only [key_Cover.is, six, cov, pk, Bool.and_assoc, Bool.and_true]
 first | done | rfl
end Go.Proofs.Ytgdfakmlpdeabaa.Keys

/- The reference's states, breadth first, with the plays that lead there: the same as the program's, and the plays are those that the way back tells. -/
namespace Go.Proofs.Ytgdfakmlpdeabaa.Keys
set_option linter.unusedVariables false
set_option linter.unusedSimpArgs false
open Go.RowKit Go.Proofs.Ytgdfakmlpdeabaa.XKey Go.Proofs.YtgdfakmlpdeabaaW.PrintWords Go.Proofs.YtgdfakmlpdeabaaW.PrintLast Go.Proofs.YtgdfakmlpdeabaaW.PrintMore
def rinner (l p : List Int) : List S64 → Nat → List S87 → Option (List S87)
 | [], _, out => some out
 | u :: us, t, out => match mv l u.f0 u.f1 with
  | none => rinner l p us (t + 1) out
  | some r => if r ∈ out.map (·.f0) then rinner l p us (t + 1) out else if out.length = 300 then none else rinner l p us (t + 1) (out ++ [⟨r, p ++ [(t : Int)]⟩])
def rbfs (ts : List S64) : Nat → Nat → List S87 → Option (Option (List S87))
 | 0, _, _ => none
 | m + 1, i, out => if h : i < out.length then (match rinner out[i].f0 out[i].f1 ts 0 out with | none => some none | some out' => rbfs ts m (i + 1) out') else some (some out)
structure Tel (L : List (List Int)) (st : List S107) (out : List S87) : Prop where
 keys : out.map (·.f0) = L
 len : st.length = L.length
 st0 : st[0]? = some ⟨-1, -1⟩
 p0 : ∀ x : S87, out[0]? = some x → x.f1 = []
 le : L.length ≤ 300
 pl : ∀ (j : Nat) (y : S87), out[j]? = some y → y.f1.length ≤ j
 par : ∀ j, 0 < j → j < L.length → ∃ p q : Nat, p < j ∧ st[j]? = some ⟨(p : Int), (q : Int)⟩ ∧ ∃ x y : S87, out[p]? = some x ∧ out[j]? = some y ∧ y.f1 = x.f1 ++ [(q : Int)]
theorem Tel.len2 {L : List (List Int)} {st : List S107} {out : List S87} (h : Tel L st out) : out.length = L.length := by rw [← h.keys, List.length_map]
theorem Tel.add {L : List (List Int)} {st : List S107} {out : List S87} (h : Tel L st out) {i t : Nat} {x : S87} (hx : out[i]? = some x) (hl : ¬ out.length = 300) (r : List Int) :
  Tel (L ++ [r]) (st ++ [⟨(i : Int), (t : Int)⟩]) (out ++ [⟨r, x.f1 ++ [(t : Int)]⟩]) where
 keys := by rw [List.map_append, h.keys]; rfl
 len := by simp [h.len]
 st0 := by
  have := (List.getElem?_eq_some_iff.1 hx).1
  have e := h.len2
  rw [List.getElem?_append_left (by rw [h.len]; omega)]; exact h.st0
 p0 := fun y hy => by
  have := (List.getElem?_eq_some_iff.1 hx).1
  rw [List.getElem?_append_left (by omega)] at hy; exact h.p0 y hy
 le := by have := h.le; have := h.len2; simp; omega
 pl := fun j y hy => by
  have hi := (List.getElem?_eq_some_iff.1 hx).1
  by_cases hj : j < out.length
  ·
   rw [List.getElem?_append_left hj] at hy; exact h.pl j y hy
  ·
   have hj2 := (List.getElem?_eq_some_iff.1 hy).1
   simp at hj2
   have e : j = out.length := by omega
   subst e
   simp at hy
   subst hy
   have := h.pl i x hx
   simp; omega
 par := fun j h0 h1 => by
  have hi := (List.getElem?_eq_some_iff.1 hx).1
  have e := h.len2
  have h1' : j < L.length + 1 := by simpa using h1
  by_cases hj : j < L.length
  ·
   obtain ⟨p, q, a, b, x', y', e1, e2, e3⟩ := h.par j h0 hj
   refine ⟨p, q, a, ?_, x', y', ?_, ?_, e3⟩
   ·
    rw [List.getElem?_append_left (by rw [h.len]; omega)]; exact b
   ·
    rw [List.getElem?_append_left (by omega)]; exact e1
   ·
    rw [List.getElem?_append_left (by omega)]; exact e2
  ·
   have hjl : j = L.length := by omega
   refine ⟨i, t, by omega, ?_, x, ⟨r, x.f1 ++ [(t : Int)]⟩, ?_, ?_, rfl⟩
   ·
    rw [hjl, ← h.len]; simp
   ·
    rw [List.getElem?_append_left hi]; exact hx
   ·
    rw [hjl, ← e]; simp
theorem tel_inner {i : Nat} {x : S87} : ∀ {us : List S64} {t : Nat} {L : List (List Int)} {st : List S107} {out : List S87}, Tel L st out → out[i]? = some x →
  (inner x.f0 i us t L st = none ∧ rinner x.f0 x.f1 us t out = none) ∨ ∃ L' st' out', inner x.f0 i us t L st = some (L', st') ∧ rinner x.f0 x.f1 us t out = some out' ∧ Tel L' st' out' ∧ out'[i]? = some x
 | [], t, L, st, out, h, hx => .inr ⟨L, st, out, rfl, rfl, h, hx⟩
 | u :: us, t, L, st, out, h, hx => by
  rw [inner, rinner]
  cases hm : mv x.f0 u.f0 u.f1 with
  | none => exact tel_inner h hx
  | some r =>
   simp only
   rw [h.keys]
   by_cases hr : r ∈ L
   ·
    rw [if_pos hr, if_pos hr]; exact tel_inner h hx
   ·
    rw [if_neg hr, if_neg hr]
    have e := h.len2
    have hle := h.le
    by_cases h3 : 300 < L.length + 1
    ·
     rw [if_pos h3, if_pos (by omega)]; exact .inl ⟨rfl, rfl⟩
    ·
     rw [if_neg h3, if_neg (by omega)]
     refine tel_inner (h.add hx (by omega) r) ?_
     rw [List.getElem?_append_left (List.getElem?_eq_some_iff.1 hx).1]; exact hx
theorem tel_bfs {ts : List S64} : ∀ {m i : Nat} {L : List (List Int)} {st : List S107} {out : List S87}, Tel L st out →
  (bfs ts m i L st = none ∧ rbfs ts m i out = none) ∨ (bfs ts m i L st = some none ∧ rbfs ts m i out = some none) ∨ ∃ L' st' out', bfs ts m i L st = some (some (L', st')) ∧ rbfs ts m i out = some (some out') ∧ Tel L' st' out'
 | 0, i, L, st, out, h => .inl ⟨rfl, rfl⟩
 | m + 1, i, L, st, out, h => by
  rw [bfs, rbfs]
  have e := h.len2
  by_cases hi : i < L.length
  ·
   have hi' : i < out.length := by omega
   rw [dif_pos hi, dif_pos hi']
   have hL : L[i] = out[i].f0 := by
    have := h.keys
    simp [← this]
   rw [hL]
   rcases tel_inner (us := ts) (t := 0) h (List.getElem?_eq_getElem hi') with ⟨a, b⟩ | ⟨L', st', out', a, b, c, d⟩
   ·
    rw [a, b]; exact .inr (.inl ⟨rfl, rfl⟩)
   ·
    rw [a, b]; exact tel_bfs c
  ·
   rw [dif_neg hi, dif_neg (by omega)]
   exact .inr (.inr ⟨L, st, out, rfl, rfl, h⟩)
def rfound (ts : List S64) (x0 : List Int) : Option (List S87) := (rbfs ts 400 0 [⟨x0, []⟩]).getD none
theorem tel_start (x0 : List Int) : Tel [x0] [⟨-1, -1⟩] [⟨x0, []⟩] where
 keys := rfl
 len := rfl
 st0 := rfl
 p0 := fun x hx => by simp at hx; rw [← hx]
 le := by simp
 pl := fun j y hy => by
  have h1 := (List.getElem?_eq_some_iff.1 hy).1
  simp at h1; subst h1
  simp at hy; rw [← hy]; simp
 par := fun j h0 h1 => by simp at h1; omega
theorem rfound_cases (ts : List S64) (x0 : List Int) : (rbfs ts 400 0 [⟨x0, []⟩] = some (rfound ts x0)) ∧ ((found ts x0 = none ∧ rfound ts x0 = none) ∨ ∃ L st out, found ts x0 = some (L, st) ∧ rfound ts x0 = some out ∧ Tel L st out) := by
 have e := found_eq ts x0
 rcases tel_bfs (ts := ts) (m := 400) (i := 0) (tel_start x0) with ⟨a, _⟩ | ⟨a, b⟩ | ⟨L, st, out, a, b, c⟩
 ·
  rw [a] at e; cases e
 ·
  have e2 : rfound ts x0 = none := by rw [rfound, b]; rfl
  rw [a] at e
  exact ⟨by rw [b, e2], .inl ⟨(Option.some.inj e).symm, e2⟩⟩
 ·
  have e2 : rfound ts x0 = some out := by rw [rfound, b]; rfl
  rw [a] at e
  exact ⟨by rw [b, e2], .inr ⟨L, st, out, (Option.some.inj e).symm, e2, c⟩⟩
theorem Tel.back {L : List (List Int)} {st : List S107} {out : List S87} (h : Tel L st out) : ∀ (j : Nat) (y : S87), out[j]? = some y → ∀ (m : Nat) (o : List Int), j < m → o.length + j < 1000000 →
  key_play.back st m (j : Int) o = some (o ++ y.f1.reverse) := by
 intro j
 induction j using Nat.strongRecOn with
 | ind j ih =>
  intro y hy m o hm ho
  have hj := (List.getElem?_eq_some_iff.1 hy).1
  have e := h.len2
  obtain ⟨m, rfl⟩ : ∃ k, m = k + 1 := ⟨m - 1, by omega⟩
  have hs : j < st.length := by rw [h.len]; omega
  rw [key_play.back, dif_pos ⟨by omega, by simpa using hs⟩]
  simp only [Int.toNat_natCast]
  by_cases h0 : j = 0
  ·
   subst h0
   have e0 : st[0] = ⟨-1, -1⟩ := by have := h.st0; rw [List.getElem?_eq_getElem hs] at this; exact Option.some.inj this
   rw [e0, if_neg (by decide), h.p0 y hy]
   simp
  ·
   obtain ⟨p, q, a, b, x, y', e1, e2, e3⟩ := h.par j (by omega) (by omega)
   have es : st[j] = ⟨(p : Int), (q : Int)⟩ := by rw [List.getElem?_eq_getElem hs] at b; exact Option.some.inj b
   rw [hy] at e2
   obtain rfl := Option.some.inj e2
   have p1 := ih p a x e1 m (o ++ [(q : Int)]) (by omega) (by simp; omega)
   rw [es]
   simp only
   rw [if_pos (by omega), if_pos (by omega), p1, e3]
   simp
def askS (P : List Int → Bool) (f : Option (List S87)) : List Int × Int :=
 match f with
 | none => ([], 4)
 | some out => match out.find? (fun x => P x.f0) with
  | none => ([], 5)
  | some x => (x.f1, 0)
theorem play_val {n : Int} {ts : List S64} {x0 o : List Int} (is : S70 → Bool) (P : List Int → Bool) (h : asks n ts [x0, o] = 0) (hP : ∀ y, St n y → is (pk y) = P y) : key_play.play is n ts x0 o = some (askS P (rfound ts x0)) := by
 obtain ⟨hb, hls⟩ := asks_zero h
 obtain ⟨⟨b1, b2⟩, b3, b4⟩ := (okB_iff n ts).1 hb
 have h0 := St.of (hls x0 (by simp))
 rcases (rfound_cases ts x0).2 with ⟨a, b⟩ | ⟨L, st, out, hf, hr, hT⟩
 ·
  rw [play_none is h a, b]; rfl
 ·
  have hlen := found_len hf
  obtain ⟨D, hD⟩ := found_inv b4 h0 hf
  have hpl : key_play.play is n ts x0 o = (if Idx.idxFrom is (L.map pk) < 0 then some ([], 5) else (key_play.back st 400 (Idx.idxFrom is (L.map pk)) []).map fun o => (o.reverse, 0)) := by
   unfold key_play.play
   rw [open_val, Option.bind_some, if_pos h, show key_keysOf.f x0 = some (tup6 x0) from rfl, Option.bind_some]
   simp only [tup6]
   rw [spread_val b2 b4 h0, hf]
   rfl
  have e := hT.len2
  have hk : ∀ (j : Nat) (hj : j < L.length), out[j].f0 = L[j] := fun j hj => by
   have := hT.keys
   simp [← this]
  have his : ∀ (j : Nat) (hj : j < L.length), is (pk L[j]) = P out[j].f0 := fun j hj => by rw [hk j hj]; exact hP _ (hD.sts _ (List.getElem_mem hj))
  rw [hpl, hr]
  simp only [askS]
  cases hfi : out.find? (fun x => P x.f0) with
  | none =>
   have hn := List.find?_eq_none.1 hfi
   have ha : (L.map pk).any is = false := by
    rw [List.any_eq_false]
    intro z hz
    obtain ⟨y, hy, rfl⟩ := List.mem_map.1 hz
    obtain ⟨j, hj, rfl⟩ := List.getElem_of_mem hy
    rw [his j hj]
    exact hn _ (List.getElem_mem _)
   rw [Idx.idxFrom, ha]
   rfl
  | some x =>
   obtain ⟨hp, j, hj, hx, hmin⟩ := List.find?_eq_some_iff_getElem.1 hfi
   have hjL : j < L.length := by omega
   have ha : (L.map pk).any is = true := by
    rw [List.any_eq_true]
    refine ⟨pk L[j], List.mem_map.2 ⟨_, List.getElem_mem hjL, rfl⟩, ?_⟩
    rw [his j hjL, hx]; exact hp
   have hidx : (L.map pk).findIdx is = j := by
    rw [List.findIdx_eq (by simpa using hjL)]
    refine ⟨?_, fun i hi => ?_⟩
    ·
     rw [List.getElem_map, his j hjL, hx]; exact hp
    ·
     rw [List.getElem_map, his i (by omega)]
     have := hmin i hi
     simpa using this
   have e2 : Idx.idxFrom is (L.map pk) = ((j : Nat) : Int) := by rw [Idx.idxFrom, ha, ← hidx]; rfl
   rw [e2, if_neg (by omega), hT.back j x (by rw [List.getElem?_eq_getElem hj, hx]) 400 [] (by omega) (by rw [List.length_nil]; omega)]
   simp
/-! ### texts -/
def enc (x : Int) : ByteArray := Utf8.encode (65 + x)
def textS (l : List Int) : ByteArray := l.foldl (fun s x => s ++ enc x) ⟨#[]⟩
theorem enc_one {x : Int} (h0 : 0 ≤ x) (h1 : x < 63) : (enc x).data.toList = [UInt8.ofNat (65 + x).toNat] := by
 have hv : Utf8.valid (65 + x) = true := by
  unfold Utf8.valid
  rw [decide_eq_true (show (0 : Int) ≤ 65 + x by omega), decide_eq_true (show 65 + x < 0xD800 by omega)]
  rfl
 have hc : (65 + x).toNat < 128 := by omega
 unfold enc Utf8.encode
 simp only [hv, if_true, hc]
theorem enc_two {x : Int} (h0 : 63 ≤ x) (h1 : x ≤ 100) : (enc x).data.toList = [UInt8.ofNat 194, UInt8.ofNat (65 + x).toNat] := by
 have hv : Utf8.valid (65 + x) = true := by
  unfold Utf8.valid
  rw [decide_eq_true (show (0 : Int) ≤ 65 + x by omega), decide_eq_true (show 65 + x < 0xD800 by omega)]
  rfl
 have hc : ¬ (65 + x).toNat < 128 := by omega
 have hc2 : (65 + x).toNat < 2048 := by omega
 have e1 : 192 + (65 + x).toNat / 64 = 194 := by omega
 have e2 : 128 + (65 + x).toNat % 64 = (65 + x).toNat := by omega
 unfold enc Utf8.encode
 simp only [hv, if_true, hc, hc2, if_false, e1, e2]
theorem enc_size {x : Int} (h0 : 0 ≤ x) (h1 : x ≤ 100) : (enc x).size ≤ 2 := by
 have e : (enc x).size = (enc x).data.toList.length := rfl
 rw [e]
 by_cases h : x < 63
 ·
  rw [enc_one h0 h]; simp
 ·
  rw [enc_two (by omega) h1]; simp
def bytesL (l : List Int) : List UInt8 := l.flatMap fun x => (enc x).data.toList
theorem fold_bytes : ∀ (l : List Int) (s : ByteArray), (l.foldl (fun s x => s ++ enc x) s).data.toList = s.data.toList ++ bytesL l
 | [], s => by simp [bytesL]
 | x :: l, s => by
  rw [List.foldl_cons, fold_bytes l]
  simp [bytesL, ByteArray.data_append]
theorem of_byte {a b : Nat} (ha : a < 256) (hb : b < 256) (h : UInt8.ofNat a = UInt8.ofNat b) : a = b := by
 have := congrArg UInt8.toNat h
 simp at this
 omega
theorem bytes_inj : ∀ {a b : List Int}, In 0 100 a → In 0 100 b → bytesL a = bytesL b → a = b
 | [], [], _, _, _ => rfl
 | [], y :: b, _, hb, h => by
  have hy := hb y (by simp)
  simp only [bytesL, List.flatMap_nil, List.flatMap_cons] at h
  by_cases h3 : y < 63
  ·
   rw [enc_one hy.1 h3] at h; simp at h
  ·
   rw [enc_two (by omega) hy.2] at h; simp at h
 | x :: a, [], ha, _, h => by
  have hx := ha x (by simp)
  simp only [bytesL, List.flatMap_nil, List.flatMap_cons] at h
  by_cases h3 : x < 63
  ·
   rw [enc_one hx.1 h3] at h; simp at h
  ·
   rw [enc_two (by omega) hx.2] at h; simp at h
 | x :: a, y :: b, ha, hb, h => by
  have hx := ha x (by simp)
  have hy := hb y (by simp)
  have ha' : In 0 100 a := fun z hz => ha z (List.mem_cons_of_mem _ hz)
  have hb' : In 0 100 b := fun z hz => hb z (List.mem_cons_of_mem _ hz)
  simp only [bytesL, List.flatMap_cons] at h
  by_cases h1 : x < 63
  ·
   rw [enc_one hx.1 h1] at h
   by_cases h2 : y < 63
   ·
    rw [enc_one hy.1 h2] at h
    simp only [List.cons_append, List.nil_append, List.cons.injEq] at h
    have := of_byte (by omega) (by omega) h.1
    rw [show x = y by omega, bytes_inj ha' hb' h.2]
   ·
    rw [enc_two (by omega) hy.2] at h
    simp only [List.cons_append, List.nil_append, List.cons.injEq] at h
    have := of_byte (by omega) (by omega) h.1
    omega
  ·
   rw [enc_two (by omega) hx.2] at h
   by_cases h2 : y < 63
   ·
    rw [enc_one hy.1 h2] at h
    simp only [List.cons_append, List.nil_append, List.cons.injEq] at h
    have := of_byte (by omega) (by omega) h.1
    omega
   ·
    rw [enc_two (by omega) hy.2] at h
    simp only [List.cons_append, List.nil_append, List.cons.injEq] at h
    have := of_byte (by omega) (by omega) h.2.1
    rw [show x = y by omega, bytes_inj ha' hb' h.2.2]
theorem textS_inj {a b : List Int} (ha : In 0 100 a) (hb : In 0 100 b) (h : textS a = textS b) : a = b := by
 have h1 := congrArg (fun z => z.data.toList) h
 simp only [textS, fold_bytes] at h1
 exact bytes_inj ha hb (by simpa using h1)
theorem text_ev (l : List Int) (hr : In 0 100 l) (hl : l.length ≤ 6) : Ev (fun k => dropperref06_text.f k l) (textS l) ∧ (textS l).size ≤ 10000 := by
 have H : ∀ (m i : Nat) (s : ByteArray), i + m = l.length → s.size ≤ 2 * i → Ev (fun k => dropperref06_text.l0 k l s (i : Int)) ((l.drop i).foldl (fun s x => s ++ enc x) s) ∧ ((l.drop i).foldl (fun s x => s ++ enc x) s).size ≤ 2 * l.length := by
  intro m
  induction m with
  | zero =>
   intro i s hi hs
   rw [List.drop_eq_nil_of_le (by omega), List.foldl_nil]
   exact ⟨Ev.step (fun k => by rw [dropperref06_text.l0]) (ev_neg (by omega) (Ev.now _)), by omega⟩
  | succ m ih =>
   intro i s hi hs
   have hil : i < l.length := by omega
   have hx := hr l[i] (List.getElem_mem hil)
   have e1 := enc_size hx.1 hx.2
   have e2 : Utf8.encode (wrap32 (wrap64 (65 + rd l (i : Int)))) = enc l[i] := by
    rw [rd_at l i hil, wrap_id (by omega) (by omega)]
    have : wrap32 (65 + l[i]) = 65 + l[i] := by unfold wrap32; omega
    rw [this]; rfl
   rw [List.drop_eq_getElem_cons hil, List.foldl_cons]
   have hs2 : (s ++ enc l[i]).size ≤ 2 * (i + 1) := by rw [ByteArray.size_append]; omega
   obtain ⟨a, b⟩ := ih (i + 1) (s ++ enc l[i]) (by omega) hs2
   refine ⟨Ev.step (fun k => by rw [dropperref06_text.l0]) (ev_pos (by omega) (ev_pos (by omega) ?_)), b⟩
   rw [e2]
   refine ev_pos (by omega) ?_
   rw [wrap_succ i hil (by omega)]
   exact a
 obtain ⟨a, b⟩ := H l.length 0 ⟨#[]⟩ (by omega) (by simp [ByteArray.size])
 refine ⟨?_, ?_⟩
 ·
  unfold dropperref06_text.f
  exact a
 ·
  have : textS l = (l.drop 0).foldl (fun s x => s ++ enc x) ⟨#[]⟩ := rfl
  rw [this]; omega
/-! ### what the reference's found computes -/
def qOf (out : List S87) : List ByteArray := (out.map fun x => textS x.f0).reverse
theorem qOf_add (out : List S87) (x : S87) : qOf (out ++ [x]) = textS x.f0 :: qOf out := by simp [qOf]
theorem inT_q {n : Int} {out : List S87} (hs : ∀ x ∈ out, St n x.f0) {r : List Int} (hr : St n r) : inT (textS r) (qOf out) = decide (r ∈ out.map (·.f0)) := by
 rw [Bool.eq_iff_iff, inT_iff, decide_eq_true_eq, qOf, List.mem_reverse, List.mem_map, List.mem_map]
 constructor
 ·
  rintro ⟨x, hx, e⟩
  exact ⟨x, hx, textS_inj (hs x hx).rng hr.rng e⟩
 ·
  rintro ⟨x, hx, e⟩
  exact ⟨x, hx, by rw [e]⟩
theorem rd_F (out : List S87) (i : Nat) (h : i < out.length) : rd_T87 out (i : Int) = out[i] := by simp [rd_T87, List.getD_eq_getElem?_getD, h]
theorem l1_ev {n : Int} {ts : List S64} (hn : n ≤ 6) (h8 : ts.length ≤ 8) (hts : ∀ u ∈ ts, okT n u = true) {i : Nat} {x : S87} {R : List S87 × Bool} : ∀ (us : List S64) (t : Nat) (out : List S87),
  ts.drop t = us → t ≤ ts.length → out[i]? = some x → (∀ y ∈ out, St n y.f0) → out.length ≤ 300 → x.f1.length ≤ 300 →
  (match rinner x.f0 x.f1 us t out with | none => R = ([], false) | some out' => Ev (fun k => dropperref06_found.l0 k out' (qOf out') ((i + 1 : Nat) : Int) n ts) R) →
  Ev (fun k => dropperref06_found.l1 k out (qOf out) (i : Int) (t : Int) n ts) R
 | [], t, out, hd, ht, hx, hs, hl, hp, hR => by
  have e : t = ts.length := by
   have : ts.length ≤ t := by simpa using List.drop_eq_nil_iff.1 hd
   omega
  have hi := (List.getElem?_eq_some_iff.1 hx).1
  refine Ev.step (fun k => by rw [dropperref06_found.l1]) (ev_neg (by omega) ?_)
  rw [wrap_succ i hi (by omega)]
  exact hR
 | u :: us, t, out, hd, ht, hx, hs, hl, hp, hR => by
  have hi := (List.getElem?_eq_some_iff.1 hx).1
  have hlt : t < ts.length := by
   by_cases hh : t < ts.length
   ·
    exact hh
   ·
    rw [List.drop_eq_nil_of_le (by omega)] at hd; cases hd
  rw [List.drop_eq_getElem_cons hlt] at hd
  injection hd with hd1 hd2
  have hok := hts u (by rw [← hd1]; exact List.getElem_mem hlt)
  have hxo : out[i] = x := (List.getElem?_eq_some_iff.1 hx).2
  have hxs : St n x.f0 := hs x (List.mem_of_getElem? hx)
  have ih := l1_ev hn h8 hts (i := i) (x := x) (R := R) us (t + 1)
  have hw : wrap64 ((t : Int) + 1) = ((t + 1 : Nat) : Int) := wrap_succ t hlt (by omega)
  refine Ev.step (fun k => by rw [dropperref06_found.l1]) (ev_pos (by omega) (ev_pos (by omega) (ev_pos (by omega) (ev_pos (by omega) ?_))))
  rw [rd_S ts t hlt, rd_F out i hi, hd1, hxo]
  refine ev_bind1 (after_st hn hxs hok) ?_
  rw [rinner] at hR
  cases hm : mv x.f0 u.f0 u.f1 with
  | none =>
   rw [hm] at hR
   refine ev_neg (by simp) (Ev.step (fun k => by rw [dropperref06_found.j2]) (ev_pos rfl ?_))
   rw [hw]
   exact ih out hd2 hlt hx hs hl hp hR
  | some r =>
   rw [hm] at hR
   simp only at hR ⊢
   have hr := hxs.mv hok hm
   have hrl := hr.len
   obtain ⟨t1, t2⟩ := text_ev r hr.rng (by omega)
   refine ev_pos trivial (ev_bind1 t1 (ev_pos t2 ?_))
   rw [inT_q hs hr]
   by_cases hin : r ∈ out.map (·.f0)
   ·
    rw [if_pos hin] at hR
    rw [decide_eq_true hin]
    refine Ev.step (fun k => by rw [dropperref06_found.j2]) (ev_pos rfl ?_)
    rw [hw]
    exact ih out hd2 hlt hx hs hl hp hR
   ·
    rw [if_neg hin] at hR
    rw [decide_eq_false hin]
    refine Ev.step (fun k => by rw [dropperref06_found.j2]) (ev_neg (by decide) ?_)
    by_cases h3 : out.length = 300
    ·
     rw [if_pos h3] at hR
     rw [hR]
     exact ev_pos (by omega) (Ev.now _)
    ·
     rw [if_neg h3] at hR
     have hql : (qOf out).length = out.length := by simp [qOf]
     refine ev_neg (by omega) (ev_bind1 t1 (ev_pos ⟨t2, by omega⟩ (ev_some (ev_pos (by omega) (ev_pos (by omega) ?_)))))
     rw [rd_F out i hi, hxo]
     refine ev_pos (by simp; omega) (ev_some (ev_pos (by simp; omega) (ev_pos (by omega) ?_)))
     rw [hw, List.nil_append, show textS r :: qOf out = qOf (out ++ [⟨r, x.f1 ++ [(t : Int)]⟩]) from (qOf_add out ⟨r, x.f1 ++ [(t : Int)]⟩).symm]
     refine ih _ hd2 hlt (by rw [List.getElem?_append_left hi]; exact hx) (fun y hy => ?_) (by simp; omega) hp hR
     rcases List.mem_append.1 hy with hy | hy
     ·
      exact hs y hy
     ·
      rw [List.mem_singleton.1 hy]; exact hr
theorem rinner_st {n : Int} {l p : List Int} (h : St n l) : ∀ {us : List S64} {t : Nat} {out out' : List S87}, (∀ u ∈ us, okT n u = true) → (∀ x ∈ out, St n x.f0) → rinner l p us t out = some out' → ∀ x ∈ out', St n x.f0
 | [], t, out, out', _, hL, e => by rw [rinner] at e; cases e; exact hL
 | u :: us, t, out, out', hu, hL, e => by
  have hu' := fun x hx => hu x (List.mem_cons_of_mem _ hx)
  rw [rinner] at e
  split at e
  ·
   exact rinner_st h hu' hL e
  ·
   rename_i r hr
   split at e
   ·
    exact rinner_st h hu' hL e
   ·
    split at e
    ·
     cases e
    ·
     refine rinner_st h hu' (fun x hx => ?_) e
     rcases List.mem_append.1 hx with hx | hx
     ·
      exact hL x hx
     ·
      rw [List.mem_singleton.1 hx]; exact h.mv (hu u (List.mem_cons_self ..)) hr
theorem l0_ev {n : Int} {ts : List S64} (hn : n ≤ 6) (h8 : ts.length ≤ 8) (hts : ∀ u ∈ ts, okT n u = true) : ∀ (m i : Nat) (L : List (List Int)) (st : List S107) (out : List S87) (o : Option (List S87)), Tel L st out → (∀ y ∈ out, St n y.f0) → i ≤ out.length → rbfs ts m i out = some o →
  Ev (fun k => dropperref06_found.l0 k out (qOf out) (i : Int) n ts) (match o with | none => ([], false) | some z => (z, true))
 | 0, i, L, st, out, o, h, hs, hi, e => by rw [rbfs] at e; cases e
 | m + 1, i, L, st, out, o, h, hs, hil, e => by
  rw [rbfs] at e
  have e2 := h.len2
  have hle := h.le
  by_cases hi : i < out.length
  ·
   rw [dif_pos hi] at e
   have hx := List.getElem?_eq_getElem hi
   have hp := h.pl i _ hx
   refine Ev.step (fun k => by rw [dropperref06_found.l0]) (ev_pos (by omega) ?_)
   refine l1_ev hn h8 hts (i := i) (x := out[i]) ts 0 out rfl (by omega) hx hs (by omega) (by omega) ?_
   rcases tel_inner (us := ts) (t := 0) h hx with ⟨a, b⟩ | ⟨L', st', out', a, b, c, d⟩
   ·
    rw [b] at e ⊢
    rw [← Option.some.inj e]
   ·
    rw [b] at e ⊢
    simp only at e ⊢
    exact l0_ev hn h8 hts m (i + 1) L' st' out' o c (rinner_st (hs _ (List.getElem_mem hi)) hts hs b) (by have := (List.getElem?_eq_some_iff.1 d).1; omega) e
  ·
   rw [dif_neg hi] at e
   rw [← Option.some.inj e]
   exact Ev.step (fun k => by rw [dropperref06_found.l0]) (ev_neg (by omega) (Ev.now _))
theorem rfound_ev {n : Int} {ts : List S64} {x0 : List Int} (hn : n ≤ 6) (h8 : ts.length ≤ 8) (hts : ∀ u ∈ ts, okT n u = true) (h0 : St n x0) : Ev (fun k => dropperref06_found.f k n ts x0) (match rfound ts x0 with | none => ([], false) | some z => (z, true)) := by
 have hl := h0.len
 obtain ⟨t1, t2⟩ := text_ev x0 h0.rng (by omega)
 unfold dropperref06_found.f
 refine ev_bind1 t1 (ev_pos t2 ?_)
 exact l0_ev hn h8 hts 400 0 [x0] [⟨-1, -1⟩] [⟨x0, []⟩] _ (tel_start x0) (fun y hy => by rw [List.mem_singleton.1 hy]; exact h0) (by simp) (rfound_cases ts x0).1
end Go.Proofs.Ytgdfakmlpdeabaa.Keys

/- The first play to some keys, or to what covers them: program and reference. -/
namespace Go.Proofs.Ytgdfakmlpdeabaa.Keys
set_option linter.unusedVariables false
set_option linter.unusedSimpArgs false
open Go.RowKit Go.Proofs.Ytgdfakmlpdeabaa.XKey Go.Proofs.YtgdfakmlpdeabaaW.PrintWords Go.Proofs.YtgdfakmlpdeabaaW.PrintLast Go.Proofs.YtgdfakmlpdeabaaW.PrintMore
theorem cov_anti : ∀ {a b : List Int}, a.length = b.length → cov a b = true → cov b a = true → a = b
 | [], [], _, _, _ => rfl
 | x :: a, y :: b, hl, h1, h2 => by
  rw [cov, Bool.and_eq_true, decide_eq_true_eq] at h1 h2
  rw [cov_anti (by simpa using hl) h1.2 h2.2, show x = y by omega]
def askP (c : Bool) (o y : List Int) : Bool := cov y o && (c || cov o y)
def waySpec (c : Bool) (n : Int) (ts : List S64) (x0 o : List Int) : List Int × Int := if asks n ts [x0, o] = 0 then askS (askP c o) (rfound ts x0) else ([], asks n ts [x0, o])
theorem way_ev (c : Bool) (n : Int) (ts : List S64) (x0 o : List Int) (hf : Fits ts) (h1 : x0.length ≤ 9223372036854775807) (h2 : o.length ≤ 9223372036854775807) : Ev (fun k => dropperref06_way.f k n ts x0 o c) (waySpec c n ts x0 o) := by
 unfold dropperref06_way.f waySpec
 refine ev_bind1 (asked_ev n ts [x0, o] hf (by simp) (fun l hl => by rcases List.mem_cons.1 hl with rfl | hl; exact h1; rw [List.mem_singleton.1 hl]; exact h2)) ?_
 by_cases h : asks n ts [x0, o] = 0
 ·
  rw [if_pos h]
  refine ev_pos h ?_
  obtain ⟨hb, hls⟩ := asks_zero h
  obtain ⟨⟨b1, b2⟩, b3, b4⟩ := (okB_iff n ts).1 hb
  have h0 := St.of (hls x0 (by simp))
  have ho := St.of (hls o (by simp))
  have hol := ho.len
  refine ev_bind1 (rfound_ev b2 b3 b4 h0) ?_
  rcases (rfound_cases ts x0).2 with ⟨a, b⟩ | ⟨L, st, out, hfo, hr, hT⟩
  ·
   rw [b]
   exact ev_neg (by decide) (Ev.now _)
  ·
   rw [hr]
   refine ev_pos rfl ?_
   obtain ⟨D, hD⟩ := found_inv b4 h0 hfo
   have e := hT.len2
   have hle := hT.le
   have hst : ∀ x ∈ out, St n x.f0 := fun x hx => by
    have : x.f0 ∈ L := by rw [← hT.keys]; exact List.mem_map.2 ⟨x, hx, rfl⟩
    exact hD.sts _ this
   unfold askS
   have H : ∀ (m i : Nat), i + m = out.length → Ev (fun k => dropperref06_way.l0 k o c out (i : Int)) (match (out.drop i).find? (fun x => askP c o x.f0) with | none => ([], 5) | some x => (x.f1, 0)) := by
    intro m
    induction m with
    | zero =>
     intro i hi
     rw [List.drop_eq_nil_of_le (by omega), List.find?_nil]
     exact Ev.step (fun k => by rw [dropperref06_way.l0]) (ev_neg (by omega) (Ev.now _))
    | succ m ih =>
     intro i hi
     have hil : i < out.length := by omega
     have hs := hst _ (List.getElem_mem hil)
     have hsl := hs.len
     have hnx := ih (i + 1) (by omega)
     refine Ev.step (fun k => by rw [dropperref06_way.l0]) (ev_pos (by omega) (ev_pos (by omega) ?_))
     rw [rd_F out i hil, wrap_succ i hil (by omega), List.drop_eq_getElem_cons hil, List.find?_cons]
     refine ev_bind1 (Covers_ev _ _ (by omega) (by omega)) ?_
     cases hc : cov out[i].f0 o with
     | false =>
      have ep : askP c o out[i].f0 = false := by rw [askP, hc]; rfl
      rw [ep]
      exact ev_neg (by decide) hnx
     | true =>
      refine ev_pos rfl ?_
      cases c with
      | true =>
       have ep : askP true o out[i].f0 = true := by rw [askP, hc]; rfl
       rw [ep]
       exact ev_pos rfl (Ev.now _)
      | false =>
       refine ev_neg (by decide) (ev_bind1 (Covers_ev _ _ (by omega) (by omega)) ?_)
       cases hd : cov o out[i].f0 with
       | true =>
        have ep : askP false o out[i].f0 = true := by rw [askP, hc, hd]; rfl
        rw [ep]
        exact ev_pos rfl (Ev.now _)
       | false =>
        have ep : askP false o out[i].f0 = false := by rw [askP, hc, hd]; rfl
        rw [ep]
        exact ev_neg (by decide) hnx
   exact H out.length 0 (by omega)
 ·
  rw [if_neg h]
  exact ev_neg h (Ev.now _)
theorem play_err {n : Int} {ts : List S64} {x0 o : List Int} (is : S70 → Bool) (h : ¬ asks n ts [x0, o] = 0) : key_play.play is n ts x0 o = some ([], asks n ts [x0, o]) := by
 unfold key_play.play
 rw [open_val, Option.bind_some, if_neg h]
theorem Way_val (n : Int) (ts : List S64) (x0 o : List Int) : key_Way.f n ts x0 o = some (waySpec false n ts x0 o) := by
 unfold waySpec key_Way.f
 by_cases h : asks n ts [x0, o] = 0
 ·
  rw [if_pos h]
  obtain ⟨hb, hls⟩ := asks_zero h
  obtain ⟨⟨b1, b2⟩, b3, b4⟩ := (okB_iff n ts).1 hb
  have ho := St.of (hls o (by simp))
  refine play_val _ _ h (fun y hy => ?_)
  rw [way_is b2 ho hy, askP, Bool.eq_iff_iff, decide_eq_true_eq, Bool.and_eq_true, Bool.false_or]
  constructor
  ·
   rintro rfl
   exact ⟨cov_refl _, cov_refl _⟩
  ·
   intro hh
   exact cov_anti (by have := hy.len; have := ho.len; omega) hh.1 hh.2
 ·
  rw [if_neg h]
  exact play_err _ h
theorem Cover_val (n : Int) (ts : List S64) (x0 o : List Int) : key_Cover.f n ts x0 o = some (waySpec true n ts x0 o) := by
 unfold waySpec key_Cover.f
 by_cases h : asks n ts [x0, o] = 0
 ·
  rw [if_pos h]
  obtain ⟨hb, hls⟩ := asks_zero h
  obtain ⟨⟨b1, b2⟩, b3, b4⟩ := (okB_iff n ts).1 hb
  have ho := St.of (hls o (by simp))
  refine play_val _ _ h (fun y hy => ?_)
  rw [cover_is b2 ho hy, askP, Bool.true_or, Bool.and_true]
 ·
  rw [if_neg h]
  exact play_err _ h
theorem waySpec_len (c : Bool) (n : Int) (ts : List S64) (x0 o : List Int) : (waySpec c n ts x0 o).1.length ≤ 9223372036854775807 := by
 unfold waySpec
 split
 ·
  unfold askS
  split
  ·
   simp
  ·
   rename_i out hr
   split
   ·
    simp
   ·
    rename_i x hx
    rcases (rfound_cases ts x0).2 with ⟨a, b⟩ | ⟨L, st, out', hfo, hr', hT⟩
    ·
     rw [b] at hr; cases hr
    ·
     rw [hr'] at hr
     cases hr
     obtain ⟨j, hj, rfl⟩ := List.getElem_of_mem (List.mem_of_find?_eq_some hx)
     have := hT.pl j _ (List.getElem?_eq_getElem hj)
     have := hT.len2
     have := hT.le
     simp only
     omega
 ·
  simp
end Go.Proofs.Ytgdfakmlpdeabaa.Keys

/- The law's last question: evaluated. -/
namespace Go.Proofs.Ytgdfakmlpdeabaa.Keys
set_option linter.unusedVariables false
set_option linter.unusedSimpArgs false
open Go.RowKit Go.Proofs.Ytgdfakmlpdeabaa.XKey Go.Proofs.YtgdfakmlpdeabaaW.PrintWords Go.Proofs.YtgdfakmlpdeabaaW.PrintLast Go.Proofs.YtgdfakmlpdeabaaW.PrintMore
def line : List S70 := (List.range 101).map fun i => ⟨(i : Nat), 0, 0, 0, 0, 0⟩
theorem go1 : (key_spread.go [(⟨[0], [1]⟩ : S64)] 400 0 [⟨0, 0, 0, 0, 0, 0⟩] [⟨-1, -1⟩]).map (fun p => (p.1.map key_spread.toL, p.2.2)) = some (line.map key_spread.toL, true) := by decide +kernel
theorem go2 : (key_spread.go [(⟨[1, 0], [0, 1]⟩ : S64), ⟨[0, 1], [1, 0]⟩] 400 0 [⟨1, 0, 0, 0, 0, 0⟩] [⟨-1, -1⟩]).map (fun p => (p.1.map key_spread.toL, p.2.2)) = some ([[1, 0, 0, 0, 0, 0], [0, 1, 0, 0, 0, 0]], true) := by decide +kernel
theorem toL_map {l m : List S70} (h : l.map key_spread.toL = m.map key_spread.toL) : l = m :=
 List.map_inj_right (fun x y h => key_reach.toL_inj h) |>.1 h
theorem sorted_line : line.Pairwise (fun a b => key_reach.le a b = true) := by decide +kernel
theorem reach1 : key_reach.f 1 [(⟨[0], [1]⟩ : S64)] [0] = some (line, 0) := by
 unfold key_reach.f
 rw [show key_open.f 1 [(⟨[0], [1]⟩ : S64)] [[0]] = some 0 by decide +kernel, show key_keysOf.f [0] = some (0, 0, 0, 0, 0, 0) by decide +kernel]
 have h := go1
 obtain ⟨⟨a, s, ok⟩, e, h⟩ := Option.map_eq_some_iff.1 h
 injection h with h1 h2
 have ha := toL_map h1
 subst ha
 simp only at h2
 subst h2
 have e' : key_spread.f 1 [(⟨[0], [1]⟩ : S64)] 0 0 0 0 0 0 = some (line, s, true) := by
  unfold key_spread.f; rw [if_pos (by decide)]; exact e
 simp only [Option.bind_some, if_true, e', List.mergeSort_of_pairwise sorted_line]
theorem reach2 : key_reach.f 2 [(⟨[1, 0], [0, 1]⟩ : S64), ⟨[0, 1], [1, 0]⟩] [1, 0] = some ([⟨0, 1, 0, 0, 0, 0⟩, ⟨1, 0, 0, 0, 0, 0⟩], 0) := by
 unfold key_reach.f
 rw [show key_open.f 2 [(⟨[1, 0], [0, 1]⟩ : S64), ⟨[0, 1], [1, 0]⟩] [[1, 0]] = some 0 by decide +kernel, show key_keysOf.f [1, 0] = some (1, 0, 0, 0, 0, 0) by decide +kernel]
 have h := go2
 obtain ⟨⟨a, s, ok⟩, e, h⟩ := Option.map_eq_some_iff.1 h
 injection h with h1 h2
 have ha := toL_map (l := a) (m := [⟨1, 0, 0, 0, 0, 0⟩, ⟨0, 1, 0, 0, 0, 0⟩]) h1
 subst ha
 simp only at h2
 subst h2
 have hs : List.mergeSort [(⟨1, 0, 0, 0, 0, 0⟩ : S70), ⟨0, 1, 0, 0, 0, 0⟩] key_reach.le = [⟨0, 1, 0, 0, 0, 0⟩, ⟨1, 0, 0, 0, 0, 0⟩] := by
  have hp := List.mergeSort_perm [(⟨1, 0, 0, 0, 0, 0⟩ : S70), ⟨0, 1, 0, 0, 0, 0⟩] key_reach.le
  have hw := List.pairwise_mergeSort (le := key_reach.le) (fun a b c => key_reach.le_trans a b c) (fun a b => key_reach.le_total a b) [(⟨1, 0, 0, 0, 0, 0⟩ : S70), ⟨0, 1, 0, 0, 0, 0⟩]
  refine List.Perm.eq_of_pairwise (le := fun a b => key_reach.le a b = true) (fun a b _ _ h1 h2 => key_reach.le_antisymm a b h1 h2) hw (by decide +kernel) (hp.trans (List.Perm.swap _ _ _))
 have e' : key_spread.f 2 [(⟨[1, 0], [0, 1]⟩ : S64), ⟨[0, 1], [1, 0]⟩] 1 0 0 0 0 0 = some ([⟨1, 0, 0, 0, 0, 0⟩, ⟨0, 1, 0, 0, 0, 0⟩], s, true) := by
  unfold key_spread.f; rw [if_pos (by decide)]; exact e
 simp only [Option.bind_some, if_true, e', hs]
theorem lists2 : key_lists.f 10 [⟨0, 1, 0, 0, 0, 0⟩, ⟨1, 0, 0, 0, 0, 0⟩] 2 = some [[0, 1], [1, 0]] := by decide +kernel
theorem keep1 : (key_Stuck.keep 10 1 [(⟨[0], [1]⟩ : S64)] line).map (List.map key_spread.toL) = some [[100, 0, 0, 0, 0, 0]] := by decide +kernel
theorem lists1 : key_lists.f 10 [⟨100, 0, 0, 0, 0, 0⟩] 1 = some [[100]] := by decide +kernel
theorem stuck1 : key_Stuck.f 10 1 [(⟨[0], [1]⟩ : S64)] [0] = some ([[100]], 0) := by
 unfold key_Stuck.f
 rw [reach1]
 obtain ⟨a, e, h⟩ := Option.map_eq_some_iff.1 keep1
 have ha := toL_map (l := a) (m := [⟨100, 0, 0, 0, 0, 0⟩]) h
 subst ha
 simp only [Option.bind_some, e, lists1]
theorem Reach2 : key_Reach.f 10 2 [(⟨[1, 0], [0, 1]⟩ : S64), ⟨[0, 1], [1, 0]⟩] [1, 0] = some ([[0, 1], [1, 0]], 0) := by
 unfold key_Reach.f
 rw [reach2]
 simp only [Option.bind_some, lists2]
theorem proves2 : key_Proves.f 10 2 [(⟨[1, 0], [0, 1]⟩ : S64), ⟨[0, 1], [1, 0]⟩] [1, 1] [1, 0] [1, 1] = some (true, 0) := by decide +kernel
theorem awake_ev : Ev (fun k => dropperlaw06_Awake.f k) true := by
 refine Ev.of dropperlaw06_Awake.mono (k := 10) ?_
 unfold dropperlaw06_Awake.f
 simp only [Option.bind_some, Reach2, proves2, stuck1]
 decide +kernel
end Go.Proofs.Ytgdfakmlpdeabaa.Keys

/- The first of the shortest plays: program and reference answer the same. -/
namespace Go.Proofs.Ytgdfakmlpdeabaa.Pure
set_option linter.unusedVariables false
set_option linter.unusedSimpArgs false
open Go.RowKit Go.Proofs.Ytgdfakmlpdeabaa.XKey Go.Proofs.YtgdfakmlpdeabaaW.PrintWords Go.Proofs.YtgdfakmlpdeabaaW.PrintLast Go.Proofs.YtgdfakmlpdeabaaW.PrintMore
open Go.Proofs.Ytgdfakmlpdeabaa.Keys
theorem KeyWays : dropperlaw06_KeyWays.Pure := by
 intro n ts l o _ ht hl ho
 have hf : Fits ts := ⟨ht.1, fun t h => ⟨(ht.2 t h).1.1, (ht.2 t h).2.1⟩⟩
 refine Ev.rounds (r := true) (g := fun k => dropperlaw06_KeyWays.f k n ts l o) ?_
 unfold dropperlaw06_KeyWays.f
 obtain ⟨b, hb⟩ := large_ev n ts [l, o] hf.1 (by simp)
 refine ev_bind1 hb ?_
 cases b with
 | true => exact ev_pos rfl (ev_bind1 awake_ev (Ev.now _))
 | false =>
  refine ev_neg (by decide) ?_
  have hw : Ev (fun k => dropperref06_Way.f k n ts l o) (waySpec false n ts l o) := by
   unfold dropperref06_Way.f
   exact ev_bind1 (way_ev false n ts l o hf hl.1 ho.1) (Ev.now _)
  have hc : Ev (fun k => dropperref06_Cover.f k n ts l o) (waySpec true n ts l o) := by
   unfold dropperref06_Cover.f
   exact ev_bind1 (way_ev true n ts l o hf hl.1 ho.1) (Ev.now _)
  refine ev_val (Way_val n ts l o) (ev_bind1 hw (ev_val (Cover_val n ts l o) (ev_bind1 hc ?_)))
  exact ev_pos rfl (ev_bind1 (same_refl _ (waySpec_len false n ts l o)) (ev_pos rfl (ev_pos rfl (ev_bind1 (same_refl _ (waySpec_len true n ts l o)) (ev_pos rfl (ev_bind1 awake_ev (Ev.now _)))))))
end Go.Proofs.Ytgdfakmlpdeabaa.Pure

namespace Go.Proofs.Ytgdfakmlpdeabaa.Open
open Go.RowKit Go.Proofs.YtgdfakmlpdeabaaW.PrintWords Go.Proofs.YtgdfakmlpdeabaaW.PrintLast Go.Proofs.YtgdfakmlpdeabaaW.PrintMore
set_option linter.unusedVariables false
set_option linter.unusedSimpArgs false
/-! What an argument of a type reads as, in the print's kinds. -/
def Opens {α : Type} (P : Program) (t : TypeId) (kd : Kd α) (G : α → Prop) : Prop :=
 ∀ (H : Type) (enc : TypeId × Value → H) (W : World) (fuel : Nat) (cs : List Value) (x : DataW H × List MemPlace), DataW.trod enc P W 0 (fun _ => true) true fuel t cs = some x → ∃ a, kd.K W a cs ∧ G a
section
variable {P : Program} {t e : TypeId} {α β : Type} {kd : Kd α} {G : α → Prop}
theorem opens_int {k : IntKind} (hu : P.underlying t = some (.int k)) : Opens P t (Kd.int k) (fun n => (Lit.int k n).wf = true) := by
 intro H enc W fuel cs x h
 obtain ⟨n, rfl, _, hw⟩ := DataW.trod_int hu h
 exact ⟨n, rfl, hw⟩
theorem exists_list {Q : Nat → α → Prop} : ∀ n, (∀ i, i < n → ∃ x, Q i x) → ∃ xs : List α, xs.length = n ∧ ∀ i x, xs[i]? = some x → Q i x := by
 intro n
 induction n with
 | zero => intro _; exact ⟨[], rfl, fun i x h => by simp at h⟩
 | succ n ih =>
  intro h
  obtain ⟨xs, hl, hq⟩ := ih (fun i hi => h i (by omega))
  obtain ⟨x, hx⟩ := h n (by omega)
  refine ⟨xs ++ [x], by simp [hl], fun i y hy => ?_⟩
  by_cases hi : i < n
  ·
   rw [List.getElem?_append_left (by omega)] at hy
   exact hq i y hy
  ·
   rw [List.getElem?_append_right (by omega)] at hy
   have : i - xs.length = 0 := by
    have := (List.getElem?_eq_some_iff.1 hy).1
    simp at this; omega
   rw [this] at hy
   have hin : i = n := by omega
   subst hin
   simp at hy
   subst hy
   exact hx
theorem add_add (a : Addr) (m n : Nat) : (a.add m).add n = a.add (m + n) := by
 unfold Addr.add
 by_cases h1 : m = 0
 ·
  subst h1; simp
 ·
  by_cases h2 : n = 0
  ·
   subst h2; simp [h1]
  ·
   have : ¬ m + n = 0 := by omega
   simp [h1, h2, this, Nat.add_assoc]
theorem opens_slice (hu : P.underlying t = some (.slice e)) (he : Opens P e kd G) (hc : P.cellsOf e = kd.sz) : Opens P t (Kd.slice e kd) (fun l => l.length ≤ 9223372036854775807 ∧ ∀ x ∈ l, G x) := by
 intro H enc W fuel cs x h
 rcases DataW.trod_slice hu h with ⟨rfl, _⟩ | ⟨a, len, cap, elems, rest, n, _, rfl, _, hb, hl, hm, hlen, hel, _, _⟩
 ·
  exact ⟨[], ⟨none, 0, rfl, Nat.le_refl _, rfl, by simp, fun h => absurd h (by simp)⟩, by simp, fun x hx => by simp at hx⟩
 ·
  have hx : ∀ i, i < len → ∃ y : α, (∃ c, c.length = kd.sz ∧ kd.K W y c ∧ ∀ j u, c[j]? = some u → W.cell? (a.add (i * kd.sz + j)) = some u) ∧ G y := by
   intro i hi
   have h1 := hel i hi
   rw [List.getElem?_eq_getElem (by omega)] at h1
   obtain ⟨c, hc1, hc2⟩ := Option.bind_eq_some_iff.1 h1
   obtain ⟨y, hk, hg⟩ := he H enc W n c _ hc2
   obtain ⟨_, hcl, hcell⟩ := World.cells?_some hc1
   refine ⟨y, ⟨c, kd.K_len hk, hk, fun j u hj => ?_⟩, hg⟩
   rw [hc] at hcell
   have := hcell j (by have := (List.getElem?_eq_some_iff.1 hj).1; have := kd.K_len hk; omega)
   rw [← add_add, this, hj]
  obtain ⟨xs, hxl, hxq⟩ := exists_list len hx
  have hmax : len ≤ 9223372036854775807 := by unfold maxLen at hm; omega
  refine ⟨xs, ⟨some a, cap, by rw [hxl], by omega, rfl, by omega, fun _ => ⟨a, rfl, fun j p hj => (hxq j p hj).1⟩⟩, by omega, fun y hy => ?_⟩
  obtain ⟨i, hi, rfl⟩ := List.mem_iff_getElem.1 hy
  exact (hxq i xs[i] (List.getElem?_eq_getElem hi)).2
def OpensF (P : Program) (fs : List Field) (off : Nat) (kd : Kd α) (G : α → Prop) : Prop :=
 ∀ (H : Type) (enc : TypeId × Value → H) (W : World) (fuel : Nat) (cs : List Value) (xs : List (DataW H × List MemPlace)), xs.length = fs.length → cs.length = off + kd.sz →
  (∀ (i : Nat) (f : Field), fs[i]? = some f → DataW.trod enc P W 0 (fun _ => true) true fuel f.type ((cs.drop f.offset).take (P.cellsOf f.type)) = xs[i]?) → ∃ a, kd.K W a (cs.drop off) ∧ G a
theorem opensF_one {f : Field} {off : Nat} (ho : f.offset = off) (hc : P.cellsOf f.type = kd.sz) (h : Opens P f.type kd G) : OpensF P [f] off kd G := by
 intro H enc W fuel cs xs hl hcs hx
 have h0 := hx 0 f rfl
 rw [List.getElem?_eq_getElem (by rw [hl]; simp), ho, hc, List.take_of_length_le (by rw [List.length_drop]; omega)] at h0
 exact h H enc W fuel _ _ h0
theorem opensF_cons {f : Field} {fs : List Field} {off : Nat} {ka : Kd α} {kb : Kd β} {Ga : α → Prop} {Gb : β → Prop} (ho : f.offset = off) (hc : P.cellsOf f.type = ka.sz) (h : Opens P f.type ka Ga) (hr : OpensF P fs (off + ka.sz) kb Gb) :
  OpensF P (f :: fs) off (Kd.pair ka kb) (fun p => Ga p.1 ∧ Gb p.2) := by
 intro H enc W fuel cs xs hl hcs hx
 have hcs' : cs.length = off + (ka.sz + kb.sz) := hcs
 match xs, hl with
 | x0 :: xs', hl =>
  have h0 := hx 0 f rfl
  rw [ho, hc] at h0
  obtain ⟨a, ha, hga⟩ := h H enc W fuel _ x0 h0
  obtain ⟨b, hb, hgb⟩ := hr H enc W fuel cs xs' (by simpa using hl) (by omega) (fun i f' hf' => hx (i + 1) f' (by simpa using hf'))
  refine ⟨(a, b), ⟨_, _, ?_, ha, hb⟩, hga, hgb⟩
  rw [← List.drop_drop, List.take_append_drop]
theorem opens_struct {fs : Array Field} (hu : P.underlying t = some (.struct fs)) (hc : P.cellsOf t = kd.sz) (h : OpensF P fs.toList 0 kd G) : Opens P t kd G := by
 intro H enc W fuel cs x hx
 obtain ⟨xs, n, _, _, hl, hxl, hf⟩ := DataW.trod_struct hu hx
 obtain ⟨a, ha, hg⟩ := h H enc W n cs xs (by rw [hxl]; simp) (by omega) (fun i f hf' => hf i f (by simpa using hf'))
 exact ⟨a, ha, hg⟩
theorem opens_iso {f : β → α} (g : α → β) (hfg : ∀ y, f (g y) = y) (h : Opens P t kd G) : Opens P t (Kd.iso kd f) (fun b => G (f b)) := by
 intro H enc W fuel cs x hx
 obtain ⟨a, ha, hg⟩ := h H enc W fuel cs x hx
 exact ⟨g a, by show kd.K W (f (g a)) cs; rw [hfg]; exact ha, by show G (f (g a)); rw [hfg]; exact hg⟩
theorem agg_of {cs : Array Value} {l : List Value} (h : (Value.agg cs).cells.toList = l) : cs = l.toArray := by
 have h' : cs.toList = l := h
 rw [← h']
end
end Go.Proofs.Ytgdfakmlpdeabaa.Open

-- Written by wip/xprint.py of this repo, over the kit's print.py: out of the translation; the oracles in it are by hand. Not trusted: Lean checks it.
namespace Go.Proofs.Ytgdfakmlpdeabaa.keyWays
open Go.ChangeShapes Go.WideShapes Go.ChangeAt Go.RowKit Go.Proofs.Ytgdfakmlpdeabaa.Open Go.Proofs.Ytgdfakmlpdeabaa.XKey Go.Proofs.YtgdfakmlpdeabaaW.PrintWords Go.Proofs.YtgdfakmlpdeabaaW.PrintLast Go.Proofs.YtgdfakmlpdeabaaW.PrintMore
open Go.ChangeMaps (open_string shut_string)
set_option linter.unusedVariables false
set_option linter.unusedSimpArgs false
theorem own : ownKnob Try.prog.godebug = none := by kernel_rfl
theorem laidOut : laidOutB Try.prog = true := by kernel_rfl
set_option maxHeartbeats 8000000 in
set_option maxRecDepth 100000 in
theorem lifted (os : Os) (started : os.Started) (H : Type) (enc : TypeId × Value → H) :
  ReturnsInHanded {} Try.checked os 10 .any (Rows.keyWaysSpec.pre6 enc Try.prog Try.f10 Rows.keyWaysRow.domain false) (Rows.keyWaysSpec.post enc Try.prog Try.f10 false true false false) := by
 refine returnsInHanded_of_change_sized (C := Try.checked) own started (by kernel_rfl) Try.func10
  (ChangeSpec.witness6 (enc := enc) (C := Try.checked) false ⟨#[], #[.agg #[.int .i64 0, .slice none 0 0], .agg #[.slice none 0 0, .slice none 0 0]], []⟩ 8 (by kernel_rfl) (by kernel_rfl) (by kernel_rfl) (by kernel_rfl)) ?_
 intro W base args ds gs before hval0 hW hcnd hsz0 _
 have hval : ∀ (j : Nat) t v, Try.f10.params[j]? = some t → args[j]? = some v → Value.okWide Try.prog W .any base t v := hval0
 have hW' := hW
 obtain ⟨p, q, hA0, hV, rfl, hfz, hnd⟩ := hW
 have hA : DataW.TrodAll enc Try.prog W 0 (fun _ => true) true Try.f10.params.toList args.toList ds p := hA0
 rw [Try.params10] at hA hval
 obtain ⟨v0, vs0, d0, ds0, p0, q0, hargs, rfl, rfl, h0, r0⟩ := trodAll_cons hA
 obtain ⟨v1, vs1, d1, ds1, p1, q1, rfl, rfl, rfl, h1, r1⟩ := trodAll_cons r0
 obtain ⟨rfl, rfl, rfl⟩ := trodAll_nil r1
 obtain rfl : args = #[v0, v1] := by cases args; simp_all
 obtain ⟨rfl, rfl⟩ := trodVars_none hV
 obtain ⟨cs0, rfl, hz0⟩ := okWide_struct Try.underlying24 (hval 0 24 v0 rfl rfl)
 have k0 := h0
 have lt0 : ∀ x ∈ p0, x.block < W.heap.size := by obtain ⟨m, hm⟩ := k0; exact DataW.trod_lt m _ _ _ hm
 obtain ⟨fuel0, hf0⟩ := h0
 obtain ⟨⟨u0_0, u0_1⟩, hK0, hG0⟩ := (opens_struct Try.underlying24 (by kernel_rfl) (opensF_cons rfl (by kernel_rfl) (opens_int Try.underlying3) (opensF_one rfl (by kernel_rfl) (opens_slice Try.underlying22 (opens_iso (f := fun x : S64 => (x.f0, x.f1)) (fun p => ⟨p.1, p.2⟩) (fun _ => rfl) (opens_struct Try.underlying64 (by kernel_rfl) (opensF_cons rfl (by kernel_rfl) (opens_slice Try.underlying25 (opens_int Try.underlying3) (by kernel_rfl)) (opensF_one rfl (by kernel_rfl) (opens_slice Try.underlying25 (opens_int Try.underlying3) (by kernel_rfl)))))) (by kernel_rfl))))) H enc W fuel0 _ _ hf0
 obtain ⟨c0_0, r0_0, e0_0, hk0_0, hk0_1⟩ := hK0
 obtain ⟨g0_0, g0_1⟩ := hG0
 have hq0_0 := hk0_0
 obtain ⟨A0_1, q0_1, hq0_1, hc0_1, hr0_1⟩ := hk0_1
 have hq0_0' : c0_0 = _ := hq0_0
 obtain rfl : cs0 = #[.int .i64 u0_0, .slice A0_1 u0_1.length q0_1] := by
  have h_ := agg_of (l := [.int .i64 u0_0, .slice A0_1 u0_1.length q0_1]) (cs := cs0) (by rw [e0_0, hq0_0', hq0_1]; rfl)
  exact h_
 obtain ⟨cs1, rfl, hz1⟩ := okWide_struct Try.underlying47 (hval 1 47 v1 rfl rfl)
 have k1 := h1
 have lt1 : ∀ x ∈ p1, x.block < W.heap.size := by obtain ⟨m, hm⟩ := k1; exact DataW.trod_lt m _ _ _ hm
 obtain ⟨fuel1, hf1⟩ := h1
 obtain ⟨⟨u1_0, u1_1⟩, hK1, hG1⟩ := (opens_struct Try.underlying47 (by kernel_rfl) (opensF_cons rfl (by kernel_rfl) (opens_slice Try.underlying25 (opens_int Try.underlying3) (by kernel_rfl)) (opensF_one rfl (by kernel_rfl) (opens_slice Try.underlying25 (opens_int Try.underlying3) (by kernel_rfl))))) H enc W fuel1 _ _ hf1
 obtain ⟨c1_0, r1_0, e1_0, hk1_0, hk1_1⟩ := hK1
 obtain ⟨g1_0, g1_1⟩ := hG1
 obtain ⟨A1_0, q1_0, hq1_0, hc1_0, hr1_0⟩ := hk1_0
 obtain ⟨A1_1, q1_1, hq1_1, hc1_1, hr1_1⟩ := hk1_1
 have hq1_0' : c1_0 = _ := hq1_0
 obtain rfl : cs1 = #[.slice A1_0 u1_0.length q1_0, .slice A1_1 u1_1.length q1_1] := by
  have h_ := agg_of (l := [.slice A1_0 u1_0.length q1_0, .slice A1_1 u1_1.length q1_1]) (cs := cs1) (by rw [e1_0, hq1_0', hq1_1]; rfl)
  exact h_
 clear hA0 hval0 hsz0
 obtain ⟨k, h⟩ := Pure.KeyWays u0_0 u0_1 u1_0 u1_1 g0_0 g0_1 g1_0 g1_1
 refine (dropperlaw06_KeyWays.calls k u0_0 _ _ u0_1 (fun k_ => k_ < W.heap.size) _ _ u1_0 (fun k_ => k_ < W.heap.size) _ _ u1_1 true W hr0_1 hc0_1 (Kd.V_mk hc1_0 (Kd.C_F (Kd.heap_int .i64) hr1_0)) (Kd.V_mk hc1_1 (Kd.C_F (Kd.heap_int .i64) hr1_1)) h).mono fun e W' ⟨he, bel0⟩ => ?_
 have bel : Below W.heap.size W W' := bel0
 subst he
 exact ⟨_, rfl, _, _, _, [], _, [], hW', trodAll_mk1 (shut_bool Try.underlying4 _), (trodAll_cons_mk (Below.trod laidOut (by kernel_rfl) (of_decide_eq_true (by kernel_rfl)) k0 bel lt0) (trodAll_cons_mk (Below.trod laidOut (by kernel_rfl) (of_decide_eq_true (by kernel_rfl)) k1 bel lt1) trodAll_mk0)), rfl, bel.frame _, fun h => by cases h⟩
theorem over : Rows.keyWaysRow.holds Try.pinned (OpenSpec.ofChange Rows.keyWaysSpec) :=
 OpenClaim.holds_of_wide 10 Try.f10 rfl rfl rfl rfl rfl rfl rfl ⟨rfl, rfl, rfl, rfl, rfl⟩ rfl rfl rfl rfl rfl (by kernel_rfl) Try.func10 (by kernel_rfl)
  (of_decide_eq_true (by kernel_rfl)) (by unfold Func.isWrapper; first | (rw [if_pos (by decide +kernel)]; kernel_rfl) | (rw [if_neg (by decide +kernel)]; exact ⟨rfl, rfl⟩))
  (fun os started H enc _ => lifted os started H enc)
theorem proved : Rows.KeyWaysSaid := over
#print axioms proved
end Go.Proofs.Ytgdfakmlpdeabaa.keyWays
namespace Go.Proofs.Ytgdfakmlpdeabaa
theorem keyWays_holds : Rows.KeyWaysSaid := keyWays.proved
end Go.Proofs.Ytgdfakmlpdeabaa
