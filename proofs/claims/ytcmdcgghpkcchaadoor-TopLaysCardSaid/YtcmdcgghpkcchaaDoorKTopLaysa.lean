-- Written by wip/pack.py of this repo: texts of this claim, put together.
import Derived.Test.YtcmdcgghpkcchaaDoorRows
import Derived.Test.YtcmdcgghpkcchaaDoorTie
import Derived.Test.YtcmdcgghpkcchaaDoorCards
import Derived.SevenTiedAt
import Derived.LaidMore
import Derived.Stop.Joined
import Derived.WalkKit
import Derived.ProofKit
import Derived.OpenShut
import Derived.ShutString
import Derived.ChangeOld
import Derived.Below
import Derived.SizedLaws
import Derived.Test.YtcmdcgghpkcchaaDoorKMastf
/- How many metres: the lengths of lays are sums over the metres; and how many stretches a lay has at most. -/
namespace Go.Proofs.YtcmdcgghpkcchaaDoor.Lay
set_option linter.unusedVariables false
set_option linter.unusedSimpArgs false
open Go.RowKit Go.Proofs.YtcmdcgghpkcchaaDoor.XMast Go.Proofs.YtcmdcgghpkcchaaDoorW.PrintWords Go.Proofs.YtcmdcgghpkcchaaDoorW.PrintLast Go.Proofs.YtcmdcgghpkcchaaDoorW.PrintMore
def S (f : Int → Int) : Nat → Int
 | 0 => 0
 | n + 1 => S f n + f (n : Int)
theorem S_congr {f g : Int → Int} : ∀ (n : Nat), (∀ x : Int, 0 ≤ x → x < (n : Int) → f x = g x) → S f n = S g n
 | 0, _ => rfl
 | n + 1, h => by rw [S, S, S_congr n (fun x h0 h1 => h x h0 (by omega)), h (n : Int) (by omega) (by omega)]
theorem S_add (f g : Int → Int) : ∀ n : Nat, S (fun x => f x + g x) n = S f n + S g n
 | 0 => rfl
 | n + 1 => by rw [S, S, S, S_add f g n]; omega
theorem sum_le_ {f g : Int → Int} : ∀ (n : Nat), (∀ x : Int, 0 ≤ x → x < (n : Int) → f x ≤ g x) → S f n ≤ S g n
 | 0, _ => Int.le_refl _
 | n + 1, h => by
  have h1 := sum_le_ n (fun x h0 h1 => h x h0 (by omega))
  have h2 := h (n : Int) (by omega) (by omega)
  rw [S, S]
  omega
theorem S_zero : ∀ n : Nat, S (fun _ => 0) n = 0
 | 0 => rfl
 | n + 1 => by rw [S, S_zero n]; rfl
theorem S_one : ∀ n : Nat, S (fun _ => 1) n = n
 | 0 => rfl
 | n + 1 => by rw [S, S_one n]; omega
theorem S_ind (a b : Int) (h0 : 0 ≤ a) (h1 : a ≤ b) : ∀ n : Nat, S (fun x => if a ≤ x ∧ x < b then 1 else 0) n = if (n : Int) ≤ a then 0 else if (n : Int) ≤ b then (n : Int) - a else b - a
 | 0 => by rw [S, if_pos (by omega)]
 | n + 1 => by
  rw [S, S_ind a b h0 h1 n]
  by_cases c1 : a ≤ (n : Int) ∧ (n : Int) < b
  ·
   rw [if_pos c1, if_neg (show ¬ ((n + 1 : Nat) : Int) ≤ a by omega), if_pos (show ((n + 1 : Nat) : Int) ≤ b by omega)]
   by_cases c2 : (n : Int) ≤ a
   ·
    rw [if_pos c2]; omega
   ·
    rw [if_neg c2, if_pos (by omega)]; omega
  ·
   rw [if_neg c1]
   by_cases c2 : (n : Int) < a
   ·
    rw [if_pos (show (n : Int) ≤ a by omega), if_pos (show ((n + 1 : Nat) : Int) ≤ a by omega)]; omega
   ·
    rw [if_neg (show ¬ ((n + 1 : Nat) : Int) ≤ a by omega), if_neg (show ¬ ((n + 1 : Nat) : Int) ≤ b by omega)]
    by_cases c3 : (n : Int) ≤ a
    ·
     rw [if_pos c3]; omega
    ·
     rw [if_neg c3]
     by_cases c4 : (n : Int) ≤ b
     ·
      rw [if_pos c4]; omega
     ·
      rw [if_neg c4]; omega
theorem tot_S : ∀ (l : List St), (∀ s ∈ l, isSt s) → tot l = S (cnt l) 100000
 | [], _ => (S_zero 100000).symm
 | s :: t, h => by
  have hs := h s List.mem_cons_self
  unfold isSt at hs
  have e : S (cnt (s :: t)) 100000 = S (fun x => (if s.f0 ≤ x ∧ x < s.f1 then 1 else 0) + cnt t x) 100000 := rfl
  rw [e, S_add, S_ind s.f0 s.f1 (by omega) (by omega), ← tot_S t (fun u hu => h u (List.mem_cons_of_mem _ hu)), tot]
  by_cases c : ((100000 : Nat) : Int) ≤ s.f1
  ·
   rw [if_neg (by omega), if_pos c]; omega
  ·
   rw [if_neg (by omega), if_neg c]
theorem Norm.cnt_cov {l : List St} (h : Norm l) (x : Int) : (cov l x ∧ cnt l x = 1) ∨ (¬ cov l x ∧ cnt l x = 0) := by
 have h1 := cnt_nonneg l x
 have h2 := h.cnt_le x
 by_cases hc : cov l x
 ·
  have := cnt_pos.2 hc; exact .inl ⟨hc, by omega⟩
 ·
  exact .inr ⟨hc, by have : ¬ 0 < cnt l x := fun h => hc (cnt_pos.1 h); omega⟩
/-! ### how many stretches -/
theorem asc_len : ∀ (o pts : List Int), o.Pairwise (· < ·) → (∀ x ∈ o, x ∈ pts) → o.length ≤ pts.length
 | [], _, _, _ => Nat.zero_le _
 | x :: t, pts, h, hm => by
  rw [List.pairwise_cons] at h
  have hx := hm x List.mem_cons_self
  have h1 := asc_len t (pts.erase x) h.2 (fun y hy => (List.mem_erase_of_ne (by have := h.1 y hy; omega)).2 (hm y (List.mem_cons_of_mem _ hy)))
  have h2 := List.length_erase_of_mem hx
  have h3 : 0 < pts.length := List.length_pos_of_mem hx
  rw [List.length_cons]
  omega
theorem lay_len {Q : Int → Prop} {o : List St} (h : IsLay Q o) (pts : List Int) (hp : ∀ x, 0 ≤ x → x < 100000 → Q x → (x = 0 ∨ ¬ Q (x - 1)) → x ∈ pts) : o.length ≤ pts.length := by
 have h1 : (o.map (·.f0)).Pairwise (· < ·) := by
  rw [List.pairwise_map]
  refine List.Pairwise.imp_of_mem (fun {a b} ha hb hlt => ?_) h.1.1
  have := h.1.2 a ha
  show a.f0 < b.f0
  omega
 have h2 := asc_len _ pts h1 (fun x hx => by
  obtain ⟨s, hs, rfl⟩ := List.mem_map.1 hx
  show s.f0 ∈ pts
  have hs2 := h.1.2 s hs
  have hc := (h.2 s.f0).1 ⟨s, hs, Int.le_refl _, hs2.2.1⟩
  refine hp _ hc.1 hc.2.1 hc.2.2 ?_
  by_cases h0 : s.f0 = 0
  ·
   exact .inl h0
  ·
   refine .inr fun hq => ?_
   obtain ⟨u, hu, h3, h4⟩ := (h.2 (s.f0 - 1)).2 ⟨by omega, by omega, hq⟩
   have hu2 := h.1.2 u hu
   obtain ⟨i, hi, rfl⟩ := List.mem_iff_getElem.1 hs
   obtain ⟨j, hj, rfl⟩ := List.mem_iff_getElem.1 hu
   rcases Nat.lt_trichotomy i j with h5 | h5 | h5
   ·
    have := h.1.lt hi hj h5; omega
   ·
    subst h5; omega
   ·
    have := h.1.lt hj hi h5; omega)
 rwa [List.length_map] at h2
theorem cov_begin {l : List St} {x : Int} (h : cov l x) (h' : ¬ cov l (x - 1)) : x ∈ l.map (·.f0) := by
 obtain ⟨s, hs, h1, h2⟩ := h
 refine List.mem_map.2 ⟨s, hs, ?_⟩
 rcases Int.lt_or_eq_of_le h1 with h3 | h3
 ·
  exact absurd ⟨s, hs, by omega, by omega⟩ h'
 ·
  exact h3
theorem cov_end {l : List St} {x : Int} (h : ¬ cov l x) (h' : cov l (x - 1)) : x ∈ l.map (·.f1) := by
 obtain ⟨s, hs, h1, h2⟩ := h'
 refine List.mem_map.2 ⟨s, hs, ?_⟩
 rcases Int.lt_or_le x s.f1 with h3 | h3
 ·
  exact absurd ⟨s, hs, by omega, by omega⟩ h
 ·
  show s.f1 = x; omega
theorem cnt_begin : ∀ {l : List St} {x : Int}, cnt l (x - 1) < cnt l x → x ∈ l.map (·.f0)
 | [], x, h => by simp [cnt] at h
 | s :: t, x, h => by
  rw [cnt, cnt] at h
  rw [List.map_cons, List.mem_cons]
  by_cases h1 : s.f0 = x
  ·
   exact .inl h1.symm
  ·
   refine .inr (cnt_begin ?_)
   by_cases h2 : s.f0 ≤ x ∧ x < s.f1
   ·
    rw [if_pos h2, if_pos (show s.f0 ≤ x - 1 ∧ x - 1 < s.f1 by omega)] at h; omega
   ·
    rw [if_neg h2] at h
    split at h <;> omega
theorem often_len {l : List St} (h : rawOk l) {n : Int} (hn : 1 ≤ n) : (oftenL l n).length ≤ l.length := by
 have h1 := lay_len (often_lay h n) (l.map (·.f0)) (fun x h0 h1 h2 h3 => cnt_begin (by
  rcases h3 with rfl | h3
  ·
   have e := cnt_before h.2 (x := 0 - 1) (by omega)
   rw [e]; omega
  ·
   omega))
 rwa [List.length_map] at h1
theorem join_cov {a b : List St} (ha : Ok a) (hb : Ok b) : IsLay (fun x => cov a x ∨ cov b x) (bothL mast_Join.p a b) :=
 (both_lay mast_Join.p ha hb).congr fun x _ _ => by
  rw [p_join (cnt_nonneg a x).1 (ha.1.cnt_le x) (cnt_nonneg b x).1 (hb.1.cnt_le x)]
  have e : tog 1 (cnt a x) (cnt b x) = (decide (0 < cnt a x) || decide (0 < cnt b x)) := rfl
  rw [e, Bool.or_eq_true, decide_eq_true_iff, decide_eq_true_iff, cnt_pos, cnt_pos]
theorem both_cov {a b : List St} (ha : Ok a) (hb : Ok b) : IsLay (fun x => cov a x ∧ cov b x) (bothL mast_Both.p a b) :=
 (both_lay mast_Both.p ha hb).congr fun x _ _ => by
  rw [p_both (cnt_nonneg a x).1 (ha.1.cnt_le x) (cnt_nonneg b x).1 (hb.1.cnt_le x)]
  have e : tog 2 (cnt a x) (cnt b x) = (decide (0 < cnt a x) && decide (0 < cnt b x)) := rfl
  rw [e, Bool.and_eq_true, decide_eq_true_iff, decide_eq_true_iff, cnt_pos, cnt_pos]
theorem rest_cov {l : List St} (h : Ok l) : IsLay (fun x => ¬ cov l x) (bothL mast_Rest.p l []) :=
 (both_lay mast_Rest.p h ok_nil).congr fun x _ _ => by
  have e : cnt [] x = 0 := rfl
  have h1 := cnt_nonneg l x
  unfold mast_Rest.p
  rw [beq_iff_eq, e, ← cnt_pos]
  omega
theorem join_len {a b : List St} (ha : Ok a) (hb : Ok b) : (bothL mast_Join.p a b).length ≤ a.length + b.length := by
 have h := lay_len (join_cov ha hb) (a.map (·.f0) ++ b.map (·.f0)) (fun x h0 h1 h2 h3 => by
  rw [List.mem_append]
  have n1 : x = 0 → ¬ cov a (x - 1) := fun e h => by have := cov_in ha.1 h; omega
  have n2 : x = 0 → ¬ cov b (x - 1) := fun e h => by have := cov_in hb.1 h; omega
  rcases h2 with h2 | h2
  ·
   exact .inl (cov_begin h2 (fun h => h3.elim (fun e => n1 e h) (fun h4 => h4 (.inl h))))
  ·
   exact .inr (cov_begin h2 (fun h => h3.elim (fun e => n2 e h) (fun h4 => h4 (.inr h)))))
 simpa using h
theorem both_len {a b : List St} (ha : Ok a) (hb : Ok b) : (bothL mast_Both.p a b).length ≤ a.length + b.length := by
 have h := lay_len (both_cov ha hb) (a.map (·.f0) ++ b.map (·.f0)) (fun x h0 h1 h2 h3 => by
  rw [List.mem_append]
  have n1 : x = 0 → ¬ cov a (x - 1) := fun e h => by have := cov_in ha.1 h; omega
  by_cases hc : cov a (x - 1)
  ·
   refine .inr (cov_begin h2.2 (fun h => ?_))
   exact h3.elim (fun e => n1 e hc) (fun h4 => h4 ⟨hc, h⟩)
  ·
   exact .inl (cov_begin h2.1 hc))
 simpa using h
theorem less_len {a b : List St} (ha : Ok a) (hb : Ok b) : (bothL mast_Without.p a b).length ≤ a.length + b.length := by
 have h := lay_len (less_cov ha hb) (a.map (·.f0) ++ b.map (·.f1)) (fun x h0 h1 h2 h3 => by
  rw [List.mem_append]
  have n1 : x = 0 → ¬ cov a (x - 1) := fun e h => by have := cov_in ha.1 h; omega
  by_cases hc : cov a (x - 1)
  ·
   refine .inr (cov_end h2.2 (Classical.byContradiction fun h => ?_))
   exact h3.elim (fun e => n1 e hc) (fun h4 => h4 ⟨hc, h⟩)
  ·
   exact .inl (cov_begin h2.1 hc))
 simpa using h
theorem rest_len {l : List St} (h : Ok l) : (bothL mast_Rest.p l []).length ≤ l.length + 1 := by
 have h := lay_len (rest_cov h) (0 :: l.map (·.f1)) (fun x h0 h1 h2 h3 => by
  rw [List.mem_cons]
  rcases h3 with h3 | h3
  ·
   exact .inl h3
  ·
   exact .inr (cov_end h2 (Classical.byContradiction h3)))
 simpa using h
theorem fin_ok {o : List St} (h : o.length ≤ 60) : fin o = (o, 0) := by unfold fin; rw [if_neg (by omega)]
theorem join_ev {a b : List St} (ha : Ok a) (hb : Ok b) (h : a.length + b.length ≤ 60) : Ok (bothL mast_Join.p a b) ∧ Ev (fun k => mast_Join.f k a b) (bothL mast_Join.p a b, 0) := by
 have h1 := join_len ha hb
 refine ⟨⟨(join_cov ha hb).1, by omega⟩, ?_⟩
 rw [← fin_ok (o := bothL mast_Join.p a b) (by omega)]
 exact both_ev mast_Join.p ha hb
theorem both_ev' {a b : List St} (ha : Ok a) (hb : Ok b) (h : a.length + b.length ≤ 60) : Ok (bothL mast_Both.p a b) ∧ Ev (fun k => mast_Both.f k a b) (bothL mast_Both.p a b, 0) := by
 have h1 := both_len ha hb
 refine ⟨⟨(both_cov ha hb).1, by omega⟩, ?_⟩
 rw [← fin_ok (o := bothL mast_Both.p a b) (by omega)]
 exact both_ev mast_Both.p ha hb
theorem less_ev {a b : List St} (ha : Ok a) (hb : Ok b) (h : a.length + b.length ≤ 60) : Ok (bothL mast_Without.p a b) ∧ Ev (fun k => mast_Without.f k a b) (bothL mast_Without.p a b, 0) := by
 have h1 := less_len ha hb
 refine ⟨⟨(less_cov ha hb).1, by omega⟩, ?_⟩
 rw [← fin_ok (o := bothL mast_Without.p a b) (by omega)]
 exact both_ev mast_Without.p ha hb
theorem rest_ev {l : List St} (hl : Ok l) (h : l.length + 1 ≤ 60) : Ok (bothL mast_Rest.p l []) ∧ Ev (fun k => mast_Rest.f k l) (bothL mast_Rest.p l [], 0) := by
 have h1 := rest_len hl
 refine ⟨⟨(rest_cov hl).1, by omega⟩, ?_⟩
 rw [← fin_ok (o := bothL mast_Rest.p l []) (by omega)]
 exact both_ev mast_Rest.p hl ok_nil
end Go.Proofs.YtcmdcgghpkcchaaDoor.Lay

namespace Go.Proofs.YtcmdcgghpkcchaaDoor.XMast
open Go.RowKit Go.Proofs.YtcmdcgghpkcchaaDoorW.PrintWords Go.Proofs.YtcmdcgghpkcchaaDoorW.PrintLast Go.Proofs.YtcmdcgghpkcchaaDoorW.PrintMore
attribute [local go_sem] max2_int min2_int max_two min_two max_three min_three max_four min_four   -- for this text's walks alone
set_option linter.unusedVariables false
set_option linter.unusedSimpArgs false
/-! ### droppertop_over: function 39 -/
mutual
def droppertop_over.j0 : Nat → List (S46) → List (S46) → List (S46) → List (S46) → List (S46) → List (S46) → List (S46) → Bool → Option (Bool)
 | 0, _, _, _, _, _, _, _, _ => none
 | k + 1, x0, x1, x2, x7, x9, x11, x13, x54 => if x54 = true then (some false) else ((mast_Both.f k x0 x7).bind fun bt464 => ((mast_Join.f k x11 x13).bind fun bt468 => (if bt464.2 = 0 then (if bt468.2 = 0 then ((dropperlaw01_Same.f k bt464.1 bt468.1).bind fun t472 => (droppertop_over.j1 k x0 x1 x2 x9 (!t472))) else (droppertop_over.j1 k x0 x1 x2 x9 true)) else (droppertop_over.j1 k x0 x1 x2 x9 true))))
def droppertop_over.j1 : Nat → List (S46) → List (S46) → List (S46) → List (S46) → Bool → Option (Bool)
 | 0, _, _, _, _, _ => none
 | k + 1, x0, x1, x2, x9, x78 => if x78 = true then (some false) else ((mast_Join.f k x0 x1).bind fun bt473 => ((mast_Join.f k x0 x2).bind fun bt477 => (if bt473.2 = 0 then (droppertop_over.j2 k x0 x9 bt473.1 bt477.1 (bt477.2 != 0)) else (droppertop_over.j2 k x0 x9 bt473.1 bt477.1 true))))
def droppertop_over.j2 : Nat → List (S46) → List (S46) → List (S46) → List (S46) → Bool → Option (Bool)
 | 0, _, _, _, _, _ => none
 | k + 1, x0, x9, x11, x13, x96 => if x96 = true then (some false) else ((mast_Join.f k x0 x9).bind fun bt481 => ((mast_Both.f k x11 x13).bind fun bt485 => (if bt481.2 = 0 then (if bt485.2 = 0 then ((dropperlaw01_Same.f k bt481.1 bt485.1).bind fun t489 => (some t489)) else (some false)) else (some false))))
end
def droppertop_over.f (k : Nat) (l0 : List (S46)) (l1 : List (S46)) (l2 : List (S46)) : Option (Bool) := (mast_Join.f k l1 l2).bind fun bt448 => ((mast_Both.f k l1 l2).bind fun bt452 => ((mast_Both.f k l0 l1).bind fun bt456 => ((mast_Both.f k l0 l2).bind fun bt460 => (if bt448.2 = 0 then (if bt452.2 = 0 then (if bt456.2 = 0 then (droppertop_over.j0 k l0 l1 l2 bt448.1 bt452.1 bt456.1 bt460.1 (bt460.2 != 0)) else (droppertop_over.j0 k l0 l1 l2 bt448.1 bt452.1 bt456.1 bt460.1 true)) else (droppertop_over.j0 k l0 l1 l2 bt448.1 bt452.1 bt456.1 bt460.1 true)) else (droppertop_over.j0 k l0 l1 l2 bt448.1 bt452.1 bt456.1 bt460.1 true)))))
set_option maxHeartbeats 8000000 in
set_option maxRecDepth 100000 in
theorem droppertop_over.calls (k : Nat) (A0 : Option Addr) (c0 : Nat) (l0 : List (S46)) (A1 : Option Addr) (c1 : Nat) (l1 : List (S46)) (A2 : Option Addr) (c2 : Nat) (l2 : List (S46)) (r : Bool) (w : World) (hr0 : Kd.C k46 w A0 l0.length l0) (hc0 : l0.length ≤ c0) (hr1 : Kd.C k46 w A1 l1.length l1) (hc1 : l1.length ≤ c1) (hr2 : Kd.C k46 w A2 l2.length l2) (hc2 : l2.length ≤ c2) (h : droppertop_over.f k l0 l1 l2 = some r) :
  Calls Tryd.prog 39 #[.slice A0 l0.length c0, .slice A1 l1.length c1, .slice A2 l2.length c2] w fun e w' => e = .returned (.bool r) ∧ Below w.heap.size w w' := by
 have HR0 := Aside0.mk hr0
 have HC0 := Aside0.mk hc0
 clear hr0 hc0
 have HR1 := Aside0.mk hr1
 have HC1 := Aside0.mk hc1
 clear hr1 hc1
 have HR2 := Aside0.mk hr2
 have HC2 := Aside0.mk hc2
 clear hr2 hc2
 have HB := Aside0.mk (Below.refl w.heap.size w)
 have H : ((mast_Join.f k l1 l2).bind fun bt448 => ((mast_Both.f k l1 l2).bind fun bt452 => ((mast_Both.f k l0 l1).bind fun bt456 => ((mast_Both.f k l0 l2).bind fun bt460 => (if bt448.2 = 0 then (if bt452.2 = 0 then (if bt456.2 = 0 then (droppertop_over.j0 k l0 l1 l2 bt448.1 bt452.1 bt456.1 bt460.1 (bt460.2 != 0)) else (droppertop_over.j0 k l0 l1 l2 bt448.1 bt452.1 bt456.1 bt460.1 true)) else (droppertop_over.j0 k l0 l1 l2 bt448.1 bt452.1 bt456.1 bt460.1 true)) else (droppertop_over.j0 k l0 l1 l2 bt448.1 bt452.1 bt456.1 bt460.1 true)))))) = some r := h
 clear h
 replace H := Option.bind_eq_some_iff.mp H
 obtain ⟨⟨t448, t449⟩, A40, H⟩ := H
 try dsimp only at H
 have A4 := Aside0.mk A40
 clear A40
 replace H := Option.bind_eq_some_iff.mp H
 obtain ⟨⟨t452, t453⟩, A50, H⟩ := H
 try dsimp only at H
 have A5 := Aside0.mk A50
 clear A50
 replace H := Option.bind_eq_some_iff.mp H
 obtain ⟨⟨t456, t457⟩, A60, H⟩ := H
 try dsimp only at H
 have A6 := Aside0.mk A60
 clear A60
 replace H := Option.bind_eq_some_iff.mp H
 obtain ⟨⟨t460, t461⟩, A70, H⟩ := H
 try dsimp only at H
 have A7 := Aside0.mk A70
 clear A70
 have HC8 := Aside0.mk H
 clear H
 go_enter Tryd.func39, Tryd.ntmps39
 go_upto_region 5 with (first | ((with_reducible refine gate_callee (f := 29) rfl ?_); refine goesL_ (some 20) rfl rfl Tryd.func29 (by kernel_rfl) rfl #[.slice A1 l1.length c1, .slice A2 l2.length c2] rfl mapz ?_; (with_reducible refine (mast_Join.calls k _ _ l1 _ _ l2 t448 t449 _ ?side1 HC1.out ?side3 HC2.out A4.out).mono ?_); (case side1 => repeat (first | exact HR1.out | (with_reducible refine Kd.C_alloc ?_ _) | (with_reducible refine Kd.C_drewN ?_ _) | (with_reducible refine Kd.C_drew ?_))); (case side3 => repeat (first | exact HR2.out | (with_reducible refine Kd.C_alloc ?_ _) | (with_reducible refine Kd.C_drewN ?_ _) | (with_reducible refine Kd.C_drew ?_))); rintro e w9 ⟨v450, rfl, ho0, hb⟩; refine ⟨_, rfl, ?_⟩; have HO451 := Aside0.mk (Kd.R_lower ho0 (below_size bel)); replace HB := Aside0.mk (below_step bel hb); (try clear hb); (try clear hb2); (try clear hk); (try clear hi); (try clear ho0)) | ((with_reducible refine gate_callee (f := 31) rfl ?_); refine goesL_ (some 26) rfl rfl Tryd.func31 (by kernel_rfl) rfl #[.slice A1 l1.length c1, .slice A2 l2.length c2] rfl mapz ?_; (with_reducible refine (mast_Both.calls k _ _ l1 _ _ l2 t452 t453 _ (cbz HR1) HC1.out (cbz HR2) HC2.out A5.out).mono ?_); rintro e w10 ⟨v454, rfl, ho0, hb⟩; refine ⟨_, rfl, ?_⟩; have HO455 := Aside0.mk (Kd.R_lower (Kd.R_new' ho0 (Kd.R_lt (ownx HO451))) (below_size bel)); replace HO451 := Aside0.mk (Kd.R_elder' (ownx HO451) (Kd.R_base ho0) hb); replace HB := Aside0.mk (below_step bel hb); (try clear hb); (try clear hb2); (try clear hk); (try clear hi); (try clear ho0)) | ((with_reducible refine gate_callee (f := 31) rfl ?_); refine goesL_ (some 32) rfl rfl Tryd.func31 (by kernel_rfl) rfl #[.slice A0 l0.length c0, .slice A1 l1.length c1] rfl mapz ?_; (with_reducible refine (mast_Both.calls k _ _ l0 _ _ l1 t456 t457 _ (cbz HR0) HC0.out (cbz HR1) HC1.out A6.out).mono ?_); rintro e w11 ⟨v458, rfl, ho0, hb⟩; refine ⟨_, rfl, ?_⟩; have HO459 := Aside0.mk (Kd.R_lower (Kd.R_new' (Kd.R_new' ho0 (Kd.R_lt (ownx HO451))) (Kd.R_lt (ownx HO455))) (below_size bel)); replace HO451 := Aside0.mk (Kd.R_elder' (ownx HO451) (Kd.R_base ho0) hb); replace HO455 := Aside0.mk (Kd.R_elder' (ownx HO455) (Kd.R_base ho0) hb); replace HB := Aside0.mk (below_step bel hb); (try clear hb); (try clear hb2); (try clear hk); (try clear hi); (try clear ho0)) | ((with_reducible refine gate_callee (f := 31) rfl ?_); refine goesL_ (some 38) rfl rfl Tryd.func31 (by kernel_rfl) rfl #[.slice A0 l0.length c0, .slice A2 l2.length c2] rfl mapz ?_; (with_reducible refine (mast_Both.calls k _ _ l0 _ _ l2 t460 t461 _ (cbz HR0) HC0.out (cbz HR2) HC2.out A7.out).mono ?_); rintro e w12 ⟨v462, rfl, ho0, hb⟩; refine ⟨_, rfl, ?_⟩; have HO463 := Aside0.mk (Kd.R_lower (Kd.R_new' (Kd.R_new' (Kd.R_new' ho0 (Kd.R_lt (ownx HO451))) (Kd.R_lt (ownx HO455))) (Kd.R_lt (ownx HO459))) (below_size bel)); replace HO451 := Aside0.mk (Kd.R_elder' (ownx HO451) (Kd.R_base ho0) hb); replace HO455 := Aside0.mk (Kd.R_elder' (ownx HO455) (Kd.R_base ho0) hb); replace HO459 := Aside0.mk (Kd.R_elder' (ownx HO459) (Kd.R_base ho0) hb); replace HB := Aside0.mk (below_step bel hb); (try clear hb); (try clear hb2); (try clear hk); (try clear hi); (try clear ho0)))
 (try simp only [Act.put, List.setIfInBounds_toArray, List.set_cons_zero, List.set_cons_succ])
 go_cut [54] (fun v54 wc => ∃ (kq : Nat) (x54_7 : Bool), v54 = .bool x54_7 ∧ Aside0 (droppertop_over.j0 kq l0 l1 l2 t448 t452 t456 t460 x54_7 = some r) ∧ Aside0 (kq ≤ k) ∧ Aside0 (Kd.R k46 46 wc w.heap.size (fun k_ => some k_ ≠ (v454 : Value).ownBlock ∧ some k_ ≠ (v458 : Value).ownBlock ∧ some k_ ≠ (v462 : Value).ownBlock) v450 t448) ∧ Aside0 (Kd.R k46 46 wc w.heap.size (fun k_ => some k_ ≠ (v450 : Value).ownBlock ∧ some k_ ≠ (v458 : Value).ownBlock ∧ some k_ ≠ (v462 : Value).ownBlock) v454 t452) ∧ Aside0 (Kd.R k46 46 wc w.heap.size (fun k_ => some k_ ≠ (v450 : Value).ownBlock ∧ some k_ ≠ (v454 : Value).ownBlock ∧ some k_ ≠ (v462 : Value).ownBlock) v458 t456) ∧ Aside0 (Kd.R k46 46 wc w.heap.size (fun k_ => some k_ ≠ (v450 : Value).ownBlock ∧ some k_ ≠ (v454 : Value).ownBlock ∧ some k_ ≠ (v458 : Value).ownBlock) v462 t460) ∧ Aside0 (Below w.heap.size w wc))
 case first =>
  have H := HC8.out
  clear HC8
  by_cases c13 : t449 = 0
  ·
   rw [if_pos c13] at H
   have c13b0 : (t449 == 0) = true := beq_iff_eq.mpr c13
   have c13b1 : (t449 != 0) = false := bne_eq_false_iff_eq.mpr c13
   clear c13
   (first | rw [c13b0] | (simp only [i64_w, i32_w]; rw [c13b0]) | skip)
   by_cases c14 : t453 = 0
   ·
    rw [if_pos c14] at H
    have c14b0 : (t453 == 0) = true := beq_iff_eq.mpr c14
    have c14b1 : (t453 != 0) = false := bne_eq_false_iff_eq.mpr c14
    clear c14
    by_cases c15 : t457 = 0
    ·
     rw [if_pos c15] at H
     have c15b0 : (t457 == 0) = true := beq_iff_eq.mpr c15
     have c15b1 : (t457 != 0) = false := bne_eq_false_iff_eq.mpr c15
     clear c15
     have H' := Aside0.mk H
     clear H
     go_wp2
     go_meet
     case rel => exact ⟨_, ((t461 != 0)), rsz, H', ⟨by first | omega | exact Nat.le_refl _⟩, ⟨by (with_reducible repeat (first | apply Kd.R_alloc | apply Kd.R_drewN | apply Kd.R_drew)); exact Kd.R_mono HO451.out (fun _ hk => ⟨hk.1.1.2, ⟨hk.1.2, hk.2⟩⟩)⟩, ⟨by (with_reducible repeat (first | apply Kd.R_alloc | apply Kd.R_drewN | apply Kd.R_drew)); exact Kd.R_mono HO455.out (fun _ hk => ⟨hk.1.1.2, ⟨hk.1.2, hk.2⟩⟩)⟩, ⟨by (with_reducible repeat (first | apply Kd.R_alloc | apply Kd.R_drewN | apply Kd.R_drew)); exact Kd.R_mono HO459.out (fun _ hk => ⟨hk.1.1.2, ⟨hk.1.2, hk.2⟩⟩)⟩, ⟨by (with_reducible repeat (first | apply Kd.R_alloc | apply Kd.R_drewN | apply Kd.R_drew)); exact Kd.R_mono HO463.out (fun _ hk => ⟨hk.1.1.2, ⟨hk.1.2, hk.2⟩⟩)⟩, ⟨bel⟩⟩
    ·
     rw [if_neg c15] at H
     have c15b0 : (t457 == 0) = false := beq_eq_false_iff_ne.mpr c15
     have c15b1 : (t457 != 0) = true := bne_iff_ne.mpr c15
     have H' := Aside0.mk H
     clear H
     go_wp2
     go_meet
     case rel => exact ⟨_, (true), rsz, H', ⟨by first | omega | exact Nat.le_refl _⟩, ⟨by (with_reducible repeat (first | apply Kd.R_alloc | apply Kd.R_drewN | apply Kd.R_drew)); exact Kd.R_mono HO451.out (fun _ hk => ⟨hk.1.1.2, ⟨hk.1.2, hk.2⟩⟩)⟩, ⟨by (with_reducible repeat (first | apply Kd.R_alloc | apply Kd.R_drewN | apply Kd.R_drew)); exact Kd.R_mono HO455.out (fun _ hk => ⟨hk.1.1.2, ⟨hk.1.2, hk.2⟩⟩)⟩, ⟨by (with_reducible repeat (first | apply Kd.R_alloc | apply Kd.R_drewN | apply Kd.R_drew)); exact Kd.R_mono HO459.out (fun _ hk => ⟨hk.1.1.2, ⟨hk.1.2, hk.2⟩⟩)⟩, ⟨by (with_reducible repeat (first | apply Kd.R_alloc | apply Kd.R_drewN | apply Kd.R_drew)); exact Kd.R_mono HO463.out (fun _ hk => ⟨hk.1.1.2, ⟨hk.1.2, hk.2⟩⟩)⟩, ⟨bel⟩⟩
   ·
    rw [if_neg c14] at H
    have c14b0 : (t453 == 0) = false := beq_eq_false_iff_ne.mpr c14
    have c14b1 : (t453 != 0) = true := bne_iff_ne.mpr c14
    have H' := Aside0.mk H
    clear H
    go_wp2
    go_meet
    case rel => exact ⟨_, (true), rsz, H', ⟨by first | omega | exact Nat.le_refl _⟩, ⟨by (with_reducible repeat (first | apply Kd.R_alloc | apply Kd.R_drewN | apply Kd.R_drew)); exact Kd.R_mono HO451.out (fun _ hk => ⟨hk.1.1.2, ⟨hk.1.2, hk.2⟩⟩)⟩, ⟨by (with_reducible repeat (first | apply Kd.R_alloc | apply Kd.R_drewN | apply Kd.R_drew)); exact Kd.R_mono HO455.out (fun _ hk => ⟨hk.1.1.2, ⟨hk.1.2, hk.2⟩⟩)⟩, ⟨by (with_reducible repeat (first | apply Kd.R_alloc | apply Kd.R_drewN | apply Kd.R_drew)); exact Kd.R_mono HO459.out (fun _ hk => ⟨hk.1.1.2, ⟨hk.1.2, hk.2⟩⟩)⟩, ⟨by (with_reducible repeat (first | apply Kd.R_alloc | apply Kd.R_drewN | apply Kd.R_drew)); exact Kd.R_mono HO463.out (fun _ hk => ⟨hk.1.1.2, ⟨hk.1.2, hk.2⟩⟩)⟩, ⟨bel⟩⟩
  ·
   rw [if_neg c13] at H
   have c13b0 : (t449 == 0) = false := beq_eq_false_iff_ne.mpr c13
   have c13b1 : (t449 != 0) = true := bne_iff_ne.mpr c13
   (first | rw [c13b0] | (simp only [i64_w, i32_w]; rw [c13b0]) | skip)
   have H' := Aside0.mk H
   clear H
   go_wp2
   go_meet
   case rel => exact ⟨_, (true), rsz, H', ⟨by first | omega | exact Nat.le_refl _⟩, ⟨by (with_reducible repeat (first | apply Kd.R_alloc | apply Kd.R_drewN | apply Kd.R_drew)); exact Kd.R_mono HO451.out (fun _ hk => ⟨hk.1.1.2, ⟨hk.1.2, hk.2⟩⟩)⟩, ⟨by (with_reducible repeat (first | apply Kd.R_alloc | apply Kd.R_drewN | apply Kd.R_drew)); exact Kd.R_mono HO455.out (fun _ hk => ⟨hk.1.1.2, ⟨hk.1.2, hk.2⟩⟩)⟩, ⟨by (with_reducible repeat (first | apply Kd.R_alloc | apply Kd.R_drewN | apply Kd.R_drew)); exact Kd.R_mono HO459.out (fun _ hk => ⟨hk.1.1.2, ⟨hk.1.2, hk.2⟩⟩)⟩, ⟨by (with_reducible repeat (first | apply Kd.R_alloc | apply Kd.R_drewN | apply Kd.R_drew)); exact Kd.R_mono HO463.out (fun _ hk => ⟨hk.1.1.2, ⟨hk.1.2, hk.2⟩⟩)⟩, ⟨bel⟩⟩
 case rest =>
  clear HC8
  (try clear c1); (try clear c2); (try clear p2); (try clear c3); (try clear c13); (try clear c13b0); (try clear c13b1); (try clear c14); (try clear c14b0); (try clear c14b1); (try clear c15); (try clear c15b0); (try clear c15b1)
  obtain ⟨kq, x54_7, rfl, HA, HJ7, HO_7, HO_9, HO_11, HO_13, HB⟩ := hcut
  cases kq with
  | zero => exact absurd HA.out (by simp [droppertop_over.j0])
  | succ kj7 =>
   have H := HA.out
   clear HA
   simp only [droppertop_over.j0] at H
   by_cases c16 : x54_7 = true
   ·
    subst c16
    rw [if_pos rfl] at H
    obtain rfl := Option.some.inj H
    go_wp2
    go_ret
    exact ⟨ezz, bel⟩
   ·
    replace c16 := Bool.eq_false_iff.mpr c16
    subst c16
    rw [if_neg (show ¬ (false = true) by decide)] at H
    replace H := Option.bind_eq_some_iff.mp H
    obtain ⟨⟨t464, t465⟩, A170, H⟩ := H
    try dsimp only at H
    have A17 := Aside0.mk A170
    clear A170
    replace H := Option.bind_eq_some_iff.mp H
    obtain ⟨⟨t468, t469⟩, A180, H⟩ := H
    try dsimp only at H
    have A18 := Aside0.mk A180
    clear A180
    have HC19 := Aside0.mk H
    clear H
    obtain ⟨Ao20, co20, eo20⟩ := Kd.R_slice HO_7.out
    subst eo20
    go_upto_region 9 with (first | ((with_reducible refine gate_callee (f := 31) rfl ?_); refine goesL_ (some 58) rfl rfl Tryd.func31 (by kernel_rfl) rfl #[.slice A0 l0.length c0, .slice Ao20 t448.length co20] rfl mapz ?_; (with_reducible refine (mast_Both.calls kj7 _ _ l0 _ _ t448 t464 t465 _ (cbz HR0) HC0.out ?side3 ?side4 A17.out).mono ?_); (case side3 => repeat (first | exact (Kd.R_reads' HO_7.out).2.2 | (with_reducible refine Kd.C_alloc ?_ _) | (with_reducible refine Kd.C_drewN ?_ _) | (with_reducible refine Kd.C_drew ?_))); (case side4 => exact (Kd.R_reads' HO_7.out).2.1); rintro e w21 ⟨v466, rfl, ho0, hb⟩; refine ⟨_, rfl, ?_⟩; have HO467 := Aside0.mk (Kd.R_lower (Kd.R_new' (Kd.R_new' (Kd.R_new' (Kd.R_new' ho0 (Kd.R_lt (ownx HO_7))) (Kd.R_lt (ownx HO_9))) (Kd.R_lt (ownx HO_11))) (Kd.R_lt (ownx HO_13))) (below_size bel)); replace HO_7 := Aside0.mk (Kd.R_elder' (ownx HO_7) (Kd.R_base ho0) hb); replace HO_9 := Aside0.mk (Kd.R_elder' (ownx HO_9) (Kd.R_base ho0) hb); replace HO_11 := Aside0.mk (Kd.R_elder' (ownx HO_11) (Kd.R_base ho0) hb); replace HO_13 := Aside0.mk (Kd.R_elder' (ownx HO_13) (Kd.R_base ho0) hb); replace HB := Aside0.mk (below_step bel hb); (try clear hb); (try clear hb2); (try clear hk); (try clear hi); (try clear ho0); obtain ⟨Ao22, co22, eo22⟩ := Kd.R_slice HO_11.out; subst eo22; obtain ⟨Ao23, co23, eo23⟩ := Kd.R_slice HO_13.out; subst eo23) | ((with_reducible refine gate_callee (f := 29) rfl ?_); refine goesL_ (some 64) rfl rfl Tryd.func29 (by kernel_rfl) rfl #[.slice Ao22 t456.length co22, .slice Ao23 t460.length co23] rfl mapz ?_; (with_reducible refine (mast_Join.calls kj7 _ _ t456 _ _ t460 t468 t469 _ ?side1 ?side2 ?side3 ?side4 A18.out).mono ?_); (case side1 => repeat (first | exact (Kd.R_reads' HO_11.out).2.2 | (with_reducible refine Kd.C_alloc ?_ _) | (with_reducible refine Kd.C_drewN ?_ _) | (with_reducible refine Kd.C_drew ?_))); (case side2 => exact (Kd.R_reads' HO_11.out).2.1); (case side3 => repeat (first | exact (Kd.R_reads' HO_13.out).2.2 | (with_reducible refine Kd.C_alloc ?_ _) | (with_reducible refine Kd.C_drewN ?_ _) | (with_reducible refine Kd.C_drew ?_))); (case side4 => exact (Kd.R_reads' HO_13.out).2.1); rintro e w24 ⟨v470, rfl, ho0, hb⟩; refine ⟨_, rfl, ?_⟩; have HO471 := Aside0.mk (Kd.R_lower (Kd.R_new' (Kd.R_new' (Kd.R_new' (Kd.R_new' (Kd.R_new' ho0 (Kd.R_lt (ownx HO_7))) (Kd.R_lt (ownx HO_9))) (Kd.R_lt (ownx HO_11))) (Kd.R_lt (ownx HO_13))) (Kd.R_lt (ownx HO467))) (below_size bel)); replace HO_7 := Aside0.mk (Kd.R_elder' (ownx HO_7) (Kd.R_base ho0) hb); replace HO_9 := Aside0.mk (Kd.R_elder' (ownx HO_9) (Kd.R_base ho0) hb); replace HO_11 := Aside0.mk (Kd.R_elder' (ownx HO_11) (Kd.R_base ho0) hb); replace HO_13 := Aside0.mk (Kd.R_elder' (ownx HO_13) (Kd.R_base ho0) hb); replace HO467 := Aside0.mk (Kd.R_elder' (ownx HO467) (Kd.R_base ho0) hb); replace HB := Aside0.mk (below_step bel hb); (try clear hb); (try clear hb2); (try clear hk); (try clear hi); (try clear ho0)))
    (try simp only [Act.put, List.setIfInBounds_toArray, List.set_cons_zero, List.set_cons_succ])
    go_cut [78] (fun v78 wc => ∃ (kq : Nat) (x78_18 : Bool), v78 = .bool x78_18 ∧ Aside0 (droppertop_over.j1 kq l0 l1 l2 t452 x78_18 = some r) ∧ Aside0 (kq ≤ kj7) ∧ Aside0 (Kd.R k46 46 wc w.heap.size (fun _ => True) v454 t452) ∧ Aside0 (Below w.heap.size w wc))
    case first =>
     have H := HC19.out
     clear HC19
     by_cases c25 : t465 = 0
     ·
      rw [if_pos c25] at H
      have c25b0 : (t465 == 0) = true := beq_iff_eq.mpr c25
      have c25b1 : (t465 != 0) = false := bne_eq_false_iff_eq.mpr c25
      clear c25
      (first | rw [c25b0] | (simp only [i64_w, i32_w]; rw [c25b0]) | skip)
      by_cases c26 : t469 = 0
      ·
       rw [if_pos c26] at H
       have c26b0 : (t469 == 0) = true := beq_iff_eq.mpr c26
       have c26b1 : (t469 != 0) = false := bne_eq_false_iff_eq.mpr c26
       clear c26
       replace H := Option.bind_eq_some_iff.mp H
       obtain ⟨t472, A270, H⟩ := H
       try dsimp only at H
       have A27 := Aside0.mk A270
       clear A270
       have H' := Aside0.mk H
       clear H
       obtain ⟨Ao28, co28, eo28⟩ := Kd.R_slice HO467.out
       subst eo28
       obtain ⟨Ao29, co29, eo29⟩ := Kd.R_slice HO471.out
       subst eo29
       go_wp2_with (first | (go_at_call 16; (with_reducible refine (dropperlaw01_Same.calls kj7 _ _ t464 _ _ t468 t472 _ ?side1 ?side2 ?side3 ?side4 A27.out).mono ?_); (case side1 => repeat (first | exact (Kd.R_reads' HO467.out).2.2 | (with_reducible refine Kd.C_alloc ?_ _) | (with_reducible refine Kd.C_drewN ?_ _) | (with_reducible refine Kd.C_drew ?_))); (case side2 => exact (Kd.R_reads' HO467.out).2.1); (case side3 => repeat (first | exact (Kd.R_reads' HO471.out).2.2 | (with_reducible refine Kd.C_alloc ?_ _) | (with_reducible refine Kd.C_drewN ?_ _) | (with_reducible refine Kd.C_drew ?_))); (case side4 => exact (Kd.R_reads' HO471.out).2.1); rintro e w' ⟨rfl, ⟨nd, rfl⟩⟩))
       go_meet
       case rel => exact ⟨_, (!t472), rsz, H', ⟨by have := HJ7.out; first | omega | exact Nat.le_refl _⟩, ⟨by (with_reducible repeat (first | apply Kd.R_alloc | apply Kd.R_drewN | apply Kd.R_drew)); exact Kd.R_mono HO_9.out (fun _ hk => trivial)⟩, ⟨bel⟩⟩
      ·
       rw [if_neg c26] at H
       have c26b0 : (t469 == 0) = false := beq_eq_false_iff_ne.mpr c26
       have c26b1 : (t469 != 0) = true := bne_iff_ne.mpr c26
       have H' := Aside0.mk H
       clear H
       go_wp2
       go_meet
       case rel => exact ⟨_, (true), rsz, H', ⟨by have := HJ7.out; first | omega | exact Nat.le_refl _⟩, ⟨by (with_reducible repeat (first | apply Kd.R_alloc | apply Kd.R_drewN | apply Kd.R_drew)); exact Kd.R_mono HO_9.out (fun _ hk => trivial)⟩, ⟨bel⟩⟩
     ·
      rw [if_neg c25] at H
      have c25b0 : (t465 == 0) = false := beq_eq_false_iff_ne.mpr c25
      have c25b1 : (t465 != 0) = true := bne_iff_ne.mpr c25
      (first | rw [c25b0] | (simp only [i64_w, i32_w]; rw [c25b0]) | skip)
      have H' := Aside0.mk H
      clear H
      go_wp2
      go_meet
      case rel => exact ⟨_, (true), rsz, H', ⟨by have := HJ7.out; first | omega | exact Nat.le_refl _⟩, ⟨by (with_reducible repeat (first | apply Kd.R_alloc | apply Kd.R_drewN | apply Kd.R_drew)); exact Kd.R_mono HO_9.out (fun _ hk => trivial)⟩, ⟨bel⟩⟩
    case rest =>
     clear HC19
     (try clear c1); (try clear c2); (try clear p2); (try clear c3); (try clear c13); (try clear c13b0); (try clear c13b1); (try clear c14); (try clear c14b0); (try clear c14b1); (try clear c15); (try clear c15b0); (try clear c15b1); (try clear c16); (try clear c25); (try clear c25b0); (try clear c25b1); (try clear c26); (try clear c26b0); (try clear c26b1); (try clear c29); (try clear p2)
     obtain ⟨kq, x78_18, rfl, HA, HJ18, HO_9, HB⟩ := hcut
     cases kq with
     | zero => exact absurd HA.out (by simp [droppertop_over.j1])
     | succ kj18 =>
      have H := HA.out
      clear HA
      simp only [droppertop_over.j1] at H
      by_cases c30 : x78_18 = true
      ·
       subst c30
       rw [if_pos rfl] at H
       obtain rfl := Option.some.inj H
       go_wp2
       go_ret
       exact ⟨ezz, bel⟩
      ·
       replace c30 := Bool.eq_false_iff.mpr c30
       subst c30
       rw [if_neg (show ¬ (false = true) by decide)] at H
       replace H := Option.bind_eq_some_iff.mp H
       obtain ⟨⟨t473, t474⟩, A310, H⟩ := H
       try dsimp only at H
       have A31 := Aside0.mk A310
       clear A310
       replace H := Option.bind_eq_some_iff.mp H
       obtain ⟨⟨t477, t478⟩, A320, H⟩ := H
       try dsimp only at H
       have A32 := Aside0.mk A320
       clear A320
       have HC33 := Aside0.mk H
       clear H
       go_upto_region 13 with (first | ((with_reducible refine gate_callee (f := 29) rfl ?_); refine goesL_ (some 82) rfl rfl Tryd.func29 (by kernel_rfl) rfl #[.slice A0 l0.length c0, .slice A1 l1.length c1] rfl mapz ?_; (with_reducible refine (mast_Join.calls kj18 _ _ l0 _ _ l1 t473 t474 _ (cbz HR0) HC0.out (cbz HR1) HC1.out A31.out).mono ?_); rintro e w34 ⟨v475, rfl, ho0, hb⟩; refine ⟨_, rfl, ?_⟩; have HO476 := Aside0.mk (Kd.R_lower (Kd.R_new' ho0 (Kd.R_lt (ownx HO_9))) (below_size bel)); replace HO_9 := Aside0.mk (Kd.R_elder' (ownx HO_9) (Kd.R_base ho0) hb); replace HB := Aside0.mk (below_step bel hb); (try clear hb); (try clear hb2); (try clear hk); (try clear hi); (try clear ho0)) | ((with_reducible refine gate_callee (f := 29) rfl ?_); refine goesL_ (some 88) rfl rfl Tryd.func29 (by kernel_rfl) rfl #[.slice A0 l0.length c0, .slice A2 l2.length c2] rfl mapz ?_; (with_reducible refine (mast_Join.calls kj18 _ _ l0 _ _ l2 t477 t478 _ (cbz HR0) HC0.out (cbz HR2) HC2.out A32.out).mono ?_); rintro e w35 ⟨v479, rfl, ho0, hb⟩; refine ⟨_, rfl, ?_⟩; have HO480 := Aside0.mk (Kd.R_lower (Kd.R_new' (Kd.R_new' ho0 (Kd.R_lt (ownx HO_9))) (Kd.R_lt (ownx HO476))) (below_size bel)); replace HO_9 := Aside0.mk (Kd.R_elder' (ownx HO_9) (Kd.R_base ho0) hb); replace HO476 := Aside0.mk (Kd.R_elder' (ownx HO476) (Kd.R_base ho0) hb); replace HB := Aside0.mk (below_step bel hb); (try clear hb); (try clear hb2); (try clear hk); (try clear hi); (try clear ho0)))
       (try simp only [Act.put, List.setIfInBounds_toArray, List.set_cons_zero, List.set_cons_succ])
       go_cut [96] (fun v96 wc => ∃ (kq : Nat) (x96_32 : Bool), v96 = .bool x96_32 ∧ Aside0 (droppertop_over.j2 kq l0 t452 t473 t477 x96_32 = some r) ∧ Aside0 (kq ≤ kj18) ∧ Aside0 (Kd.R k46 46 wc w.heap.size (fun k_ => some k_ ≠ (v475 : Value).ownBlock ∧ some k_ ≠ (v479 : Value).ownBlock) v454 t452) ∧ Aside0 (Kd.R k46 46 wc w.heap.size (fun k_ => some k_ ≠ (v454 : Value).ownBlock ∧ some k_ ≠ (v479 : Value).ownBlock) v475 t473) ∧ Aside0 (Kd.R k46 46 wc w.heap.size (fun k_ => some k_ ≠ (v454 : Value).ownBlock ∧ some k_ ≠ (v475 : Value).ownBlock) v479 t477) ∧ Aside0 (Below w.heap.size w wc))
       case first =>
        have H := HC33.out
        clear HC33
        by_cases c36 : t474 = 0
        ·
         rw [if_pos c36] at H
         have c36b0 : (t474 == 0) = true := beq_iff_eq.mpr c36
         have c36b1 : (t474 != 0) = false := bne_eq_false_iff_eq.mpr c36
         clear c36
         (first | rw [c36b0] | (simp only [i64_w, i32_w]; rw [c36b0]) | skip)
         have H' := Aside0.mk H
         clear H
         go_wp2
         go_meet
         case rel => exact ⟨_, ((t478 != 0)), rsz, H', ⟨by have := HJ7.out; have := HJ18.out; first | omega | exact Nat.le_refl _⟩, ⟨by (with_reducible repeat (first | apply Kd.R_alloc | apply Kd.R_drewN | apply Kd.R_drew)); exact Kd.R_mono HO_9.out (fun _ hk => ⟨hk.1.2, hk.2⟩)⟩, ⟨by (with_reducible repeat (first | apply Kd.R_alloc | apply Kd.R_drewN | apply Kd.R_drew)); exact Kd.R_mono HO476.out (fun _ hk => ⟨hk.1.2, hk.2⟩)⟩, ⟨by (with_reducible repeat (first | apply Kd.R_alloc | apply Kd.R_drewN | apply Kd.R_drew)); exact Kd.R_mono HO480.out (fun _ hk => ⟨hk.1.2, hk.2⟩)⟩, ⟨bel⟩⟩
        ·
         rw [if_neg c36] at H
         have c36b0 : (t474 == 0) = false := beq_eq_false_iff_ne.mpr c36
         have c36b1 : (t474 != 0) = true := bne_iff_ne.mpr c36
         (first | rw [c36b0] | (simp only [i64_w, i32_w]; rw [c36b0]) | skip)
         have H' := Aside0.mk H
         clear H
         go_wp2
         go_meet
         case rel => exact ⟨_, (true), rsz, H', ⟨by have := HJ7.out; have := HJ18.out; first | omega | exact Nat.le_refl _⟩, ⟨by (with_reducible repeat (first | apply Kd.R_alloc | apply Kd.R_drewN | apply Kd.R_drew)); exact Kd.R_mono HO_9.out (fun _ hk => ⟨hk.1.2, hk.2⟩)⟩, ⟨by (with_reducible repeat (first | apply Kd.R_alloc | apply Kd.R_drewN | apply Kd.R_drew)); exact Kd.R_mono HO476.out (fun _ hk => ⟨hk.1.2, hk.2⟩)⟩, ⟨by (with_reducible repeat (first | apply Kd.R_alloc | apply Kd.R_drewN | apply Kd.R_drew)); exact Kd.R_mono HO480.out (fun _ hk => ⟨hk.1.2, hk.2⟩)⟩, ⟨bel⟩⟩
       case rest =>
        clear HC33
        (try clear c1); (try clear c2); (try clear p2); (try clear c3); (try clear c13); (try clear c13b0); (try clear c13b1); (try clear c14); (try clear c14b0); (try clear c14b1); (try clear c15); (try clear c15b0); (try clear c15b1); (try clear c16); (try clear c25); (try clear c25b0); (try clear c25b1); (try clear c26); (try clear c26b0); (try clear c26b1); (try clear c29); (try clear c30); (try clear c31); (try clear c36); (try clear c36b0); (try clear c36b1); (try clear p2)
        obtain ⟨kq, x96_32, rfl, HA, HJ32, HO_9, HO_11, HO_13, HB⟩ := hcut
        cases kq with
        | zero => exact absurd HA.out (by simp [droppertop_over.j2])
        | succ kj32 =>
         have H := HA.out
         clear HA
         simp only [droppertop_over.j2] at H
         by_cases c37 : x96_32 = true
         ·
          subst c37
          rw [if_pos rfl] at H
          obtain rfl := Option.some.inj H
          go_wp2
          go_ret
          exact ⟨ezz, bel⟩
         ·
          replace c37 := Bool.eq_false_iff.mpr c37
          subst c37
          rw [if_neg (show ¬ (false = true) by decide)] at H
          replace H := Option.bind_eq_some_iff.mp H
          obtain ⟨⟨t481, t482⟩, A380, H⟩ := H
          try dsimp only at H
          have A38 := Aside0.mk A380
          clear A380
          replace H := Option.bind_eq_some_iff.mp H
          obtain ⟨⟨t485, t486⟩, A390, H⟩ := H
          try dsimp only at H
          have A39 := Aside0.mk A390
          clear A390
          by_cases c40 : t482 = 0
          ·
           rw [if_pos c40] at H
           have c40b0 : (t482 == 0) = true := beq_iff_eq.mpr c40
           have c40b1 : (t482 != 0) = false := bne_eq_false_iff_eq.mpr c40
           clear c40
           by_cases c41 : t486 = 0
           ·
            rw [if_pos c41] at H
            have c41b0 : (t486 == 0) = true := beq_iff_eq.mpr c41
            have c41b1 : (t486 != 0) = false := bne_eq_false_iff_eq.mpr c41
            clear c41
            replace H := Option.bind_eq_some_iff.mp H
            obtain ⟨t489, A420, H⟩ := H
            try dsimp only at H
            have A42 := Aside0.mk A420
            clear A420
            obtain rfl := Option.some.inj H
            obtain ⟨Ao43, co43, eo43⟩ := Kd.R_slice HO_9.out
            subst eo43
            go_wp2_with (first | ((with_reducible refine gate_callee (f := 29) rfl ?_); refine goesL_ (some 100) rfl rfl Tryd.func29 (by kernel_rfl) rfl #[.slice A0 l0.length c0, .slice Ao43 t452.length co43] rfl mapz ?_; (with_reducible refine (mast_Join.calls kj32 _ _ l0 _ _ t452 t481 t482 _ (cbz HR0) HC0.out ?side3 ?side4 A38.out).mono ?_); (case side3 => repeat (first | exact (Kd.R_reads' HO_9.out).2.2 | (with_reducible refine Kd.C_alloc ?_ _) | (with_reducible refine Kd.C_drewN ?_ _) | (with_reducible refine Kd.C_drew ?_))); (case side4 => exact (Kd.R_reads' HO_9.out).2.1); rintro e w44 ⟨v483, rfl, ho0, hb⟩; refine ⟨_, rfl, ?_⟩; have HO484 := Aside0.mk (Kd.R_lower (Kd.R_new' (Kd.R_new' (Kd.R_new' ho0 (Kd.R_lt (ownx HO_9))) (Kd.R_lt (ownx HO_11))) (Kd.R_lt (ownx HO_13))) (below_size bel)); replace HO_9 := Aside0.mk (Kd.R_elder' (ownx HO_9) (Kd.R_base ho0) hb); replace HO_11 := Aside0.mk (Kd.R_elder' (ownx HO_11) (Kd.R_base ho0) hb); replace HO_13 := Aside0.mk (Kd.R_elder' (ownx HO_13) (Kd.R_base ho0) hb); replace HB := Aside0.mk (below_step bel hb); (try clear hb); (try clear hb2); (try clear hk); (try clear hi); (try clear ho0); obtain ⟨Ao45, co45, eo45⟩ := Kd.R_slice HO_11.out; subst eo45; obtain ⟨Ao46, co46, eo46⟩ := Kd.R_slice HO_13.out; subst eo46) | ((with_reducible refine gate_callee (f := 31) rfl ?_); refine goesL_ (some 106) rfl rfl Tryd.func31 (by kernel_rfl) rfl #[.slice Ao45 t473.length co45, .slice Ao46 t477.length co46] rfl mapz ?_; (with_reducible refine (mast_Both.calls kj32 _ _ t473 _ _ t477 t485 t486 _ ?side1 ?side2 ?side3 ?side4 A39.out).mono ?_); (case side1 => repeat (first | exact (Kd.R_reads' HO_11.out).2.2 | (with_reducible refine Kd.C_alloc ?_ _) | (with_reducible refine Kd.C_drewN ?_ _) | (with_reducible refine Kd.C_drew ?_))); (case side2 => exact (Kd.R_reads' HO_11.out).2.1); (case side3 => repeat (first | exact (Kd.R_reads' HO_13.out).2.2 | (with_reducible refine Kd.C_alloc ?_ _) | (with_reducible refine Kd.C_drewN ?_ _) | (with_reducible refine Kd.C_drew ?_))); (case side4 => exact (Kd.R_reads' HO_13.out).2.1); rintro e w47 ⟨v487, rfl, ho0, hb⟩; refine ⟨_, rfl, ?_⟩; have HO488 := Aside0.mk (Kd.R_lower (Kd.R_new' (Kd.R_new' (Kd.R_new' (Kd.R_new' ho0 (Kd.R_lt (ownx HO_9))) (Kd.R_lt (ownx HO_11))) (Kd.R_lt (ownx HO_13))) (Kd.R_lt (ownx HO484))) (below_size bel)); replace HO_9 := Aside0.mk (Kd.R_elder' (ownx HO_9) (Kd.R_base ho0) hb); replace HO_11 := Aside0.mk (Kd.R_elder' (ownx HO_11) (Kd.R_base ho0) hb); replace HO_13 := Aside0.mk (Kd.R_elder' (ownx HO_13) (Kd.R_base ho0) hb); replace HO484 := Aside0.mk (Kd.R_elder' (ownx HO484) (Kd.R_base ho0) hb); replace HB := Aside0.mk (below_step bel hb); (try clear hb); (try clear hb2); (try clear hk); (try clear hi); (try clear ho0); obtain ⟨Ao48, co48, eo48⟩ := Kd.R_slice HO484.out; subst eo48; obtain ⟨Ao49, co49, eo49⟩ := Kd.R_slice HO488.out; subst eo49) | (go_at_call 16; (with_reducible refine (dropperlaw01_Same.calls kj32 _ _ t481 _ _ t485 t489 _ ?side1 ?side2 ?side3 ?side4 A42.out).mono ?_); (case side1 => repeat (first | exact (Kd.R_reads' HO484.out).2.2 | (with_reducible refine Kd.C_alloc ?_ _) | (with_reducible refine Kd.C_drewN ?_ _) | (with_reducible refine Kd.C_drew ?_))); (case side2 => exact (Kd.R_reads' HO484.out).2.1); (case side3 => repeat (first | exact (Kd.R_reads' HO488.out).2.2 | (with_reducible refine Kd.C_alloc ?_ _) | (with_reducible refine Kd.C_drewN ?_ _) | (with_reducible refine Kd.C_drew ?_))); (case side4 => exact (Kd.R_reads' HO488.out).2.1); rintro e w' ⟨rfl, ⟨nd, rfl⟩⟩))
            go_ret
            exact ⟨ezz, bel⟩
           ·
            rw [if_neg c41] at H
            have c41b0 : (t486 == 0) = false := beq_eq_false_iff_ne.mpr c41
            have c41b1 : (t486 != 0) = true := bne_iff_ne.mpr c41
            obtain rfl := Option.some.inj H
            obtain ⟨Ao50, co50, eo50⟩ := Kd.R_slice HO_9.out
            subst eo50
            go_wp2_with (first | ((with_reducible refine gate_callee (f := 29) rfl ?_); refine goesL_ (some 100) rfl rfl Tryd.func29 (by kernel_rfl) rfl #[.slice A0 l0.length c0, .slice Ao50 t452.length co50] rfl mapz ?_; (with_reducible refine (mast_Join.calls kj32 _ _ l0 _ _ t452 t481 t482 _ (cbz HR0) HC0.out ?side3 ?side4 A38.out).mono ?_); (case side3 => repeat (first | exact (Kd.R_reads' HO_9.out).2.2 | (with_reducible refine Kd.C_alloc ?_ _) | (with_reducible refine Kd.C_drewN ?_ _) | (with_reducible refine Kd.C_drew ?_))); (case side4 => exact (Kd.R_reads' HO_9.out).2.1); rintro e w51 ⟨v483, rfl, ho0, hb⟩; refine ⟨_, rfl, ?_⟩; have HO484 := Aside0.mk (Kd.R_lower (Kd.R_new' (Kd.R_new' (Kd.R_new' ho0 (Kd.R_lt (ownx HO_9))) (Kd.R_lt (ownx HO_11))) (Kd.R_lt (ownx HO_13))) (below_size bel)); replace HO_9 := Aside0.mk (Kd.R_elder' (ownx HO_9) (Kd.R_base ho0) hb); replace HO_11 := Aside0.mk (Kd.R_elder' (ownx HO_11) (Kd.R_base ho0) hb); replace HO_13 := Aside0.mk (Kd.R_elder' (ownx HO_13) (Kd.R_base ho0) hb); replace HB := Aside0.mk (below_step bel hb); (try clear hb); (try clear hb2); (try clear hk); (try clear hi); (try clear ho0); obtain ⟨Ao52, co52, eo52⟩ := Kd.R_slice HO_11.out; subst eo52; obtain ⟨Ao53, co53, eo53⟩ := Kd.R_slice HO_13.out; subst eo53) | ((with_reducible refine gate_callee (f := 31) rfl ?_); refine goesL_ (some 106) rfl rfl Tryd.func31 (by kernel_rfl) rfl #[.slice Ao52 t473.length co52, .slice Ao53 t477.length co53] rfl mapz ?_; (with_reducible refine (mast_Both.calls kj32 _ _ t473 _ _ t477 t485 t486 _ ?side1 ?side2 ?side3 ?side4 A39.out).mono ?_); (case side1 => repeat (first | exact (Kd.R_reads' HO_11.out).2.2 | (with_reducible refine Kd.C_alloc ?_ _) | (with_reducible refine Kd.C_drewN ?_ _) | (with_reducible refine Kd.C_drew ?_))); (case side2 => exact (Kd.R_reads' HO_11.out).2.1); (case side3 => repeat (first | exact (Kd.R_reads' HO_13.out).2.2 | (with_reducible refine Kd.C_alloc ?_ _) | (with_reducible refine Kd.C_drewN ?_ _) | (with_reducible refine Kd.C_drew ?_))); (case side4 => exact (Kd.R_reads' HO_13.out).2.1); rintro e w54 ⟨v487, rfl, ho0, hb⟩; refine ⟨_, rfl, ?_⟩; have HO488 := Aside0.mk (Kd.R_lower (Kd.R_new' (Kd.R_new' (Kd.R_new' (Kd.R_new' ho0 (Kd.R_lt (ownx HO_9))) (Kd.R_lt (ownx HO_11))) (Kd.R_lt (ownx HO_13))) (Kd.R_lt (ownx HO484))) (below_size bel)); replace HO_9 := Aside0.mk (Kd.R_elder' (ownx HO_9) (Kd.R_base ho0) hb); replace HO_11 := Aside0.mk (Kd.R_elder' (ownx HO_11) (Kd.R_base ho0) hb); replace HO_13 := Aside0.mk (Kd.R_elder' (ownx HO_13) (Kd.R_base ho0) hb); replace HO484 := Aside0.mk (Kd.R_elder' (ownx HO484) (Kd.R_base ho0) hb); replace HB := Aside0.mk (below_step bel hb); (try clear hb); (try clear hb2); (try clear hk); (try clear hi); (try clear ho0)))
            go_ret
            exact ⟨ezz, bel⟩
          ·
           rw [if_neg c40] at H
           have c40b0 : (t482 == 0) = false := beq_eq_false_iff_ne.mpr c40
           have c40b1 : (t482 != 0) = true := bne_iff_ne.mpr c40
           obtain rfl := Option.some.inj H
           obtain ⟨Ao55, co55, eo55⟩ := Kd.R_slice HO_9.out
           subst eo55
           go_wp2_with (first | ((with_reducible refine gate_callee (f := 29) rfl ?_); refine goesL_ (some 100) rfl rfl Tryd.func29 (by kernel_rfl) rfl #[.slice A0 l0.length c0, .slice Ao55 t452.length co55] rfl mapz ?_; (with_reducible refine (mast_Join.calls kj32 _ _ l0 _ _ t452 t481 t482 _ (cbz HR0) HC0.out ?side3 ?side4 A38.out).mono ?_); (case side3 => repeat (first | exact (Kd.R_reads' HO_9.out).2.2 | (with_reducible refine Kd.C_alloc ?_ _) | (with_reducible refine Kd.C_drewN ?_ _) | (with_reducible refine Kd.C_drew ?_))); (case side4 => exact (Kd.R_reads' HO_9.out).2.1); rintro e w56 ⟨v483, rfl, ho0, hb⟩; refine ⟨_, rfl, ?_⟩; have HO484 := Aside0.mk (Kd.R_lower (Kd.R_new' (Kd.R_new' (Kd.R_new' ho0 (Kd.R_lt (ownx HO_9))) (Kd.R_lt (ownx HO_11))) (Kd.R_lt (ownx HO_13))) (below_size bel)); replace HO_9 := Aside0.mk (Kd.R_elder' (ownx HO_9) (Kd.R_base ho0) hb); replace HO_11 := Aside0.mk (Kd.R_elder' (ownx HO_11) (Kd.R_base ho0) hb); replace HO_13 := Aside0.mk (Kd.R_elder' (ownx HO_13) (Kd.R_base ho0) hb); replace HB := Aside0.mk (below_step bel hb); (try clear hb); (try clear hb2); (try clear hk); (try clear hi); (try clear ho0); obtain ⟨Ao57, co57, eo57⟩ := Kd.R_slice HO_11.out; subst eo57; obtain ⟨Ao58, co58, eo58⟩ := Kd.R_slice HO_13.out; subst eo58) | ((with_reducible refine gate_callee (f := 31) rfl ?_); refine goesL_ (some 106) rfl rfl Tryd.func31 (by kernel_rfl) rfl #[.slice Ao57 t473.length co57, .slice Ao58 t477.length co58] rfl mapz ?_; (with_reducible refine (mast_Both.calls kj32 _ _ t473 _ _ t477 t485 t486 _ ?side1 ?side2 ?side3 ?side4 A39.out).mono ?_); (case side1 => repeat (first | exact (Kd.R_reads' HO_11.out).2.2 | (with_reducible refine Kd.C_alloc ?_ _) | (with_reducible refine Kd.C_drewN ?_ _) | (with_reducible refine Kd.C_drew ?_))); (case side2 => exact (Kd.R_reads' HO_11.out).2.1); (case side3 => repeat (first | exact (Kd.R_reads' HO_13.out).2.2 | (with_reducible refine Kd.C_alloc ?_ _) | (with_reducible refine Kd.C_drewN ?_ _) | (with_reducible refine Kd.C_drew ?_))); (case side4 => exact (Kd.R_reads' HO_13.out).2.1); rintro e w59 ⟨v487, rfl, ho0, hb⟩; refine ⟨_, rfl, ?_⟩; have HO488 := Aside0.mk (Kd.R_lower (Kd.R_new' (Kd.R_new' (Kd.R_new' (Kd.R_new' ho0 (Kd.R_lt (ownx HO_9))) (Kd.R_lt (ownx HO_11))) (Kd.R_lt (ownx HO_13))) (Kd.R_lt (ownx HO484))) (below_size bel)); replace HO_9 := Aside0.mk (Kd.R_elder' (ownx HO_9) (Kd.R_base ho0) hb); replace HO_11 := Aside0.mk (Kd.R_elder' (ownx HO_11) (Kd.R_base ho0) hb); replace HO_13 := Aside0.mk (Kd.R_elder' (ownx HO_13) (Kd.R_base ho0) hb); replace HO484 := Aside0.mk (Kd.R_elder' (ownx HO484) (Kd.R_base ho0) hb); replace HB := Aside0.mk (below_step bel hb); (try clear hb); (try clear hb2); (try clear hk); (try clear hi); (try clear ho0)))
           go_ret
           exact ⟨ezz, bel⟩

/-! ### droppertop_TopLays: function 9 -/
mutual
def droppertop_TopLays.j0 : Nat → List (S46) → List (S46) → List (S46) → Bool → Option (Bool)
 | 0, _, _, _, _ => none
 | k + 1, x0, x1, x2, x57 => if x57 = true then ((dropperlaw01_First.f k).bind fun t493 => (some t493)) else ((mast_Join.f k x0 x1).bind fun bt494 => ((mast_Join.f k x1 x0).bind fun bt498 => ((mast_Both.f k x0 x1).bind fun bt502 => ((mast_Both.f k x1 x0).bind fun bt506 => ((mast_Rest.f k x0).bind fun bt510 => ((mast_Rest.f k x1).bind fun bt514 => (if bt494.2 = 0 then (if bt498.2 = 0 then (if bt502.2 = 0 then (if bt506.2 = 0 then (if bt510.2 = 0 then (if bt514.2 = 0 then ((dropperlaw01_Same.f k bt494.1 bt498.1).bind fun t518 => (if t518 = true then ((dropperlaw01_Same.f k bt502.1 bt506.1).bind fun t519 => (droppertop_TopLays.j1 k x0 x1 x2 bt494.1 bt502.1 bt510.1 bt514.1 (!t519))) else (droppertop_TopLays.j1 k x0 x1 x2 bt494.1 bt502.1 bt510.1 bt514.1 true))) else (droppertop_TopLays.j1 k x0 x1 x2 bt494.1 bt502.1 bt510.1 bt514.1 true)) else (droppertop_TopLays.j1 k x0 x1 x2 bt494.1 bt502.1 bt510.1 bt514.1 true)) else (droppertop_TopLays.j1 k x0 x1 x2 bt494.1 bt502.1 bt510.1 bt514.1 true)) else (droppertop_TopLays.j1 k x0 x1 x2 bt494.1 bt502.1 bt510.1 bt514.1 true)) else (droppertop_TopLays.j1 k x0 x1 x2 bt494.1 bt502.1 bt510.1 bt514.1 true)) else (droppertop_TopLays.j1 k x0 x1 x2 bt494.1 bt502.1 bt510.1 bt514.1 true))))))))
def droppertop_TopLays.j1 : Nat → List (S46) → List (S46) → List (S46) → List (S46) → List (S46) → List (S46) → List (S46) → Bool → Option (Bool)
 | 0, _, _, _, _, _, _, _, _ => none
 | k + 1, x0, x1, x2, x7, x11, x15, x17, x126 => if x126 = true then (none) else ((mast_Rest.f k x15).bind fun bt520 => ((mast_Rest.f k x7).bind fun bt524 => ((mast_Both.f k x15 x17).bind fun bt528 => ((mast_Without.f k x0 x1).bind fun bt532 => ((mast_Both.f k x0 x17).bind fun bt536 => (if bt520.2 = 0 then (if bt524.2 = 0 then (if bt528.2 = 0 then (if bt532.2 = 0 then (if bt536.2 = 0 then ((dropperlaw01_Same.f k bt520.1 x0).bind fun t540 => (if t540 = true then ((dropperlaw01_Same.f k bt524.1 bt528.1).bind fun t541 => (if t541 = true then ((dropperlaw01_Same.f k bt532.1 bt536.1).bind fun t542 => (droppertop_TopLays.j2 k x0 x1 x2 x7 x11 x15 (!t542))) else (droppertop_TopLays.j2 k x0 x1 x2 x7 x11 x15 true))) else (droppertop_TopLays.j2 k x0 x1 x2 x7 x11 x15 true))) else (droppertop_TopLays.j2 k x0 x1 x2 x7 x11 x15 true)) else (droppertop_TopLays.j2 k x0 x1 x2 x7 x11 x15 true)) else (droppertop_TopLays.j2 k x0 x1 x2 x7 x11 x15 true)) else (droppertop_TopLays.j2 k x0 x1 x2 x7 x11 x15 true)) else (droppertop_TopLays.j2 k x0 x1 x2 x7 x11 x15 true)))))))
def droppertop_TopLays.j2 : Nat → List (S46) → List (S46) → List (S46) → List (S46) → List (S46) → List (S46) → Bool → Option (Bool)
 | 0, _, _, _, _, _, _, _ => none
 | k + 1, x0, x1, x2, x7, x11, x15, x190 => if x190 = true then (none) else ((droppertop_over.f k x0 x1 x2).bind fun t543 => (if t543 = true then ((mast_Under.f k x0 x1).bind fun bt544 => ((mast_Length.f k x0).bind fun bt546 => ((mast_Length.f k x1).bind fun bt548 => ((mast_Length.f k x7).bind fun bt550 => ((mast_Length.f k x11).bind fun bt552 => ((mast_Length.f k x15).bind fun bt554 => (if bt544.2 = 0 then (if bt546.2 = 0 then (if bt548.2 = 0 then (if bt550.2 = 0 then (if bt552.2 = 0 then (if bt554.2 = 0 then ((dropperlaw01_Same.f k x11 x0).bind fun t556 => (if (bt544.1 == t556) = true then (if (wrap64 (bt550.1 + bt552.1)) = (wrap64 (bt546.1 + bt548.1)) then (if (wrap64 (bt546.1 + bt554.1)) = 100000 then ((dropperlaw01_First.f k).bind fun t557 => (some t557)) else (none)) else (none)) else (none))) else (none)) else (none)) else (none)) else (none)) else (none)) else (none)))))))) else (none)))
end
def droppertop_TopLays.f (k : Nat) (l0 : List (S46)) (l1 : List (S46)) (l2 : List (S46)) : Option (Bool) := if (l0.length : Int) > 15 then (droppertop_TopLays.j0 k l0 l1 l2 true) else (if (l1.length : Int) > 15 then (droppertop_TopLays.j0 k l0 l1 l2 true) else (if (l2.length : Int) > 15 then (droppertop_TopLays.j0 k l0 l1 l2 true) else ((dropperref01_Valid.f k l0).bind fun t490 => (if t490 = true then ((dropperref01_Valid.f k l1).bind fun t491 => (if t491 = true then ((dropperref01_Valid.f k l2).bind fun t492 => (droppertop_TopLays.j0 k l0 l1 l2 (!t492))) else (droppertop_TopLays.j0 k l0 l1 l2 true))) else (droppertop_TopLays.j0 k l0 l1 l2 true)))))
set_option maxHeartbeats 8000000 in
set_option maxRecDepth 100000 in
theorem droppertop_TopLays.calls (k : Nat) (A0 : Option Addr) (c0 : Nat) (l0 : List (S46)) (A1 : Option Addr) (c1 : Nat) (l1 : List (S46)) (A2 : Option Addr) (c2 : Nat) (l2 : List (S46)) (r : Bool) (w : World) (hr0 : Kd.C k46 w A0 l0.length l0) (hc0 : l0.length ≤ c0) (hr1 : Kd.C k46 w A1 l1.length l1) (hc1 : l1.length ≤ c1) (hr2 : Kd.C k46 w A2 l2.length l2) (hc2 : l2.length ≤ c2) (hT : Tab.Tabs w) (h : droppertop_TopLays.f k l0 l1 l2 = some r) :
  Calls Tryd.prog 9 #[.slice A0 l0.length c0, .slice A1 l1.length c1, .slice A2 l2.length c2] w fun e w' => e = .returned (.bool r) ∧ Below w.heap.size w w' := by
 have HT := Aside0.mk hT
 clear hT
 have HR0 := Aside0.mk hr0
 have HC0 := Aside0.mk hc0
 clear hr0 hc0
 have HR1 := Aside0.mk hr1
 have HC1 := Aside0.mk hc1
 clear hr1 hc1
 have HR2 := Aside0.mk hr2
 have HC2 := Aside0.mk hc2
 clear hr2 hc2
 have HB := Aside0.mk (Below.refl w.heap.size w)
 have H : (if (l0.length : Int) > 15 then (droppertop_TopLays.j0 k l0 l1 l2 true) else (if (l1.length : Int) > 15 then (droppertop_TopLays.j0 k l0 l1 l2 true) else (if (l2.length : Int) > 15 then (droppertop_TopLays.j0 k l0 l1 l2 true) else ((dropperref01_Valid.f k l0).bind fun t490 => (if t490 = true then ((dropperref01_Valid.f k l1).bind fun t491 => (if t491 = true then ((dropperref01_Valid.f k l2).bind fun t492 => (droppertop_TopLays.j0 k l0 l1 l2 (!t492))) else (droppertop_TopLays.j0 k l0 l1 l2 true))) else (droppertop_TopLays.j0 k l0 l1 l2 true)))))) = some r := h
 clear h
 have HC4 := Aside0.mk H
 clear H
 go_enter Tryd.func9, Tryd.ntmps9
 go_upto_region 1 with (fail)
 go_cut [57] (fun v57 wc => ∃ (kq : Nat) (x57_3 : Bool), v57 = .bool x57_3 ∧ Aside0 (droppertop_TopLays.j0 kq l0 l1 l2 x57_3 = some r) ∧ Aside0 (kq ≤ k) ∧ Aside0 (Below w.heap.size w wc))
 case first =>
  as_aux_lemma =>
   have H := HC4.out
   clear HC4
   by_cases c5 : (l0.length : Int) > 15
   ·
    rw [if_pos c5] at H
    have c5b0 : decide (15 < (l0.length : Int)) = true := decide_eq_true c5
    have c5b1 : decide (15 < l0.length) = true := decide_eq_true (by omega)
    clear c5
    (first | rw [c5b0] | (simp only [i64_w, i32_w]; rw [c5b0]) | skip)
    have H' := Aside0.mk H
    clear H
    go_wp2
    go_meet
    case rel => exact ⟨_, (true), rsz, H', ⟨by first | omega | exact Nat.le_refl _⟩, ⟨bel⟩⟩
   ·
    as_aux_lemma =>
     rw [if_neg c5] at H
     have c5b0 : decide (15 < (l0.length : Int)) = false := decide_eq_false c5
     have c5b1 : decide (15 < l0.length) = false := decide_eq_false (by omega)
     clear c5
     (first | rw [c5b0] | (simp only [i64_w, i32_w]; rw [c5b0]) | skip)
     by_cases c6 : (l1.length : Int) > 15
     ·
      rw [if_pos c6] at H
      have c6b0 : decide (15 < (l1.length : Int)) = true := decide_eq_true c6
      have c6b1 : decide (15 < l1.length) = true := decide_eq_true (by omega)
      clear c6
      have H' := Aside0.mk H
      clear H
      go_wp2
      go_meet
      case rel => exact ⟨_, (true), rsz, H', ⟨by first | omega | exact Nat.le_refl _⟩, ⟨bel⟩⟩
     ·
      as_aux_lemma =>
       rw [if_neg c6] at H
       have c6b0 : decide (15 < (l1.length : Int)) = false := decide_eq_false c6
       have c6b1 : decide (15 < l1.length) = false := decide_eq_false (by omega)
       clear c6
       by_cases c7 : (l2.length : Int) > 15
       ·
        rw [if_pos c7] at H
        have c7b0 : decide (15 < (l2.length : Int)) = true := decide_eq_true c7
        have c7b1 : decide (15 < l2.length) = true := decide_eq_true (by omega)
        clear c7
        have H' := Aside0.mk H
        clear H
        go_wp2
        go_meet
        case rel => exact ⟨_, (true), rsz, H', ⟨by first | omega | exact Nat.le_refl _⟩, ⟨bel⟩⟩
       ·
        as_aux_lemma =>
         rw [if_neg c7] at H
         have c7b0 : decide (15 < (l2.length : Int)) = false := decide_eq_false c7
         have c7b1 : decide (15 < l2.length) = false := decide_eq_false (by omega)
         clear c7
         replace H := Option.bind_eq_some_iff.mp H
         obtain ⟨t490, A80, H⟩ := H
         try dsimp only at H
         have A8 := Aside0.mk A80
         clear A80
         by_cases c9 : t490 = true
         ·
          subst c9
          rw [if_pos rfl] at H
          replace H := Option.bind_eq_some_iff.mp H
          obtain ⟨t491, A100, H⟩ := H
          try dsimp only at H
          have A10 := Aside0.mk A100
          clear A100
          by_cases c11 : t491 = true
          ·
           subst c11
           rw [if_pos rfl] at H
           replace H := Option.bind_eq_some_iff.mp H
           obtain ⟨t492, A120, H⟩ := H
           try dsimp only at H
           have A12 := Aside0.mk A120
           clear A120
           have H' := Aside0.mk H
           clear H
           go_wp2_with (first | (go_at_call 37; (with_reducible refine (dropperref01_Valid.calls k _ _ l0 true _ (cbz HR0) HC0.out A8.out).mono ?_); rintro e w13 ⟨rfl, hb⟩; replace HB := Aside0.mk (below_step bel hb); clear hb) | (go_at_call 37; (with_reducible refine (dropperref01_Valid.calls k _ _ l1 true _ (cbz HR1) HC1.out A10.out).mono ?_); rintro e w14 ⟨rfl, hb⟩; replace HB := Aside0.mk (below_step bel hb); clear hb) | (go_at_call 37; (with_reducible refine (dropperref01_Valid.calls k _ _ l2 t492 _ (cbz HR2) HC2.out A12.out).mono ?_); rintro e w15 ⟨rfl, hb⟩; replace HB := Aside0.mk (below_step bel hb); clear hb))
           go_meet
           case rel => exact ⟨_, (!t492), rsz, H', ⟨by first | omega | exact Nat.le_refl _⟩, ⟨bel⟩⟩
          ·
           as_aux_lemma =>
            replace c11 := Bool.eq_false_iff.mpr c11
            subst c11
            rw [if_neg (show ¬ (false = true) by decide)] at H
            have H' := Aside0.mk H
            clear H
            go_wp2_with (first | (go_at_call 37; (with_reducible refine (dropperref01_Valid.calls k _ _ l0 true _ (cbz HR0) HC0.out A8.out).mono ?_); rintro e w16 ⟨rfl, hb⟩; replace HB := Aside0.mk (below_step bel hb); clear hb) | (go_at_call 37; (with_reducible refine (dropperref01_Valid.calls k _ _ l1 false _ (cbz HR1) HC1.out A10.out).mono ?_); rintro e w17 ⟨rfl, hb⟩; replace HB := Aside0.mk (below_step bel hb); clear hb))
            go_meet
            case rel => exact ⟨_, (true), rsz, H', ⟨by first | omega | exact Nat.le_refl _⟩, ⟨bel⟩⟩
         ·
          as_aux_lemma =>
           replace c9 := Bool.eq_false_iff.mpr c9
           subst c9
           rw [if_neg (show ¬ (false = true) by decide)] at H
           have H' := Aside0.mk H
           clear H
           go_wp2_with (first | (go_at_call 37; (with_reducible refine (dropperref01_Valid.calls k _ _ l0 false _ (cbz HR0) HC0.out A8.out).mono ?_); rintro e w18 ⟨rfl, hb⟩; replace HB := Aside0.mk (below_step bel hb); clear hb))
           go_meet
           case rel => exact ⟨_, (true), rsz, H', ⟨by first | omega | exact Nat.le_refl _⟩, ⟨bel⟩⟩
 case rest =>
  as_aux_lemma =>
   clear HC4
   (try clear c1); (try clear c2); (try clear p2); (try clear c5); (try clear c5b0); (try clear c5b1); (try clear c6); (try clear c6b0); (try clear c6b1); (try clear c7); (try clear c7b0); (try clear c7b1); (try clear c9); (try clear c11)
   obtain ⟨kq, x57_3, rfl, HA, HJ3, HB⟩ := hcut
   cases kq with
   | zero => exact absurd HA.out (by simp [droppertop_TopLays.j0])
   | succ kj3 =>
    have H := HA.out
    clear HA
    simp only [droppertop_TopLays.j0] at H
    by_cases c19 : x57_3 = true
    ·
     subst c19
     rw [if_pos rfl] at H
     replace H := Option.bind_eq_some_iff.mp H
     obtain ⟨t493, A200, H⟩ := H
     try dsimp only at H
     have A20 := Aside0.mk A200
     clear A200
     obtain rfl := Option.some.inj H
     go_wp2_with (first | ((with_reducible refine gate_callee (f := 11) rfl ?_); refine goesL_ (some 58) rfl rfl Tryd.func11 (by kernel_rfl) rfl #[] rfl mapz ?_; (with_reducible refine (dropperlaw01_First.calls kj3  t493 _ (tbz HT) A20.out).mono ?_); rintro e w21 ⟨rfl, hb⟩; refine ⟨_, rfl, ?_⟩; replace HB := Aside0.mk (below_step bel hb); clear hb))
     go_ret
     exact ⟨ezz, bel⟩
    ·
     as_aux_lemma =>
      replace c19 := Bool.eq_false_iff.mpr c19
      subst c19
      rw [if_neg (show ¬ (false = true) by decide)] at H
      replace H := Option.bind_eq_some_iff.mp H
      obtain ⟨⟨t494, t495⟩, A220, H⟩ := H
      try dsimp only at H
      have A22 := Aside0.mk A220
      clear A220
      replace H := Option.bind_eq_some_iff.mp H
      obtain ⟨⟨t498, t499⟩, A230, H⟩ := H
      try dsimp only at H
      have A23 := Aside0.mk A230
      clear A230
      replace H := Option.bind_eq_some_iff.mp H
      obtain ⟨⟨t502, t503⟩, A240, H⟩ := H
      try dsimp only at H
      have A24 := Aside0.mk A240
      clear A240
      replace H := Option.bind_eq_some_iff.mp H
      obtain ⟨⟨t506, t507⟩, A250, H⟩ := H
      try dsimp only at H
      have A25 := Aside0.mk A250
      clear A250
      replace H := Option.bind_eq_some_iff.mp H
      obtain ⟨⟨t510, t511⟩, A260, H⟩ := H
      try dsimp only at H
      have A26 := Aside0.mk A260
      clear A260
      replace H := Option.bind_eq_some_iff.mp H
      obtain ⟨⟨t514, t515⟩, A270, H⟩ := H
      try dsimp only at H
      have A27 := Aside0.mk A270
      clear A270
      have HC28 := Aside0.mk H
      clear H
      go_upto_region 9 with (first | ((with_reducible refine gate_callee (f := 29) rfl ?_); refine goesL_ (some 62) rfl rfl Tryd.func29 (by kernel_rfl) rfl #[.slice A0 l0.length c0, .slice A1 l1.length c1] rfl mapz ?_; (with_reducible refine (mast_Join.calls kj3 _ _ l0 _ _ l1 t494 t495 _ (cbz HR0) HC0.out (cbz HR1) HC1.out A22.out).mono ?_); rintro e w29 ⟨v496, rfl, ho0, hb⟩; refine ⟨_, rfl, ?_⟩; have HO497 := Aside0.mk (Kd.R_lower ho0 (below_size bel)); replace HB := Aside0.mk (below_step bel hb); (try clear hb); (try clear hb2); (try clear hk); (try clear hi); (try clear ho0)) | ((with_reducible refine gate_callee (f := 29) rfl ?_); refine goesL_ (some 68) rfl rfl Tryd.func29 (by kernel_rfl) rfl #[.slice A1 l1.length c1, .slice A0 l0.length c0] rfl mapz ?_; (with_reducible refine (mast_Join.calls kj3 _ _ l1 _ _ l0 t498 t499 _ (cbz HR1) HC1.out (cbz HR0) HC0.out A23.out).mono ?_); rintro e w30 ⟨v500, rfl, ho0, hb⟩; refine ⟨_, rfl, ?_⟩; have HO501 := Aside0.mk (Kd.R_lower (Kd.R_new' ho0 (Kd.R_lt (ownx HO497))) (below_size bel)); replace HO497 := Aside0.mk (Kd.R_elder' (ownx HO497) (Kd.R_base ho0) hb); replace HB := Aside0.mk (below_step bel hb); (try clear hb); (try clear hb2); (try clear hk); (try clear hi); (try clear ho0)) | ((with_reducible refine gate_callee (f := 31) rfl ?_); refine goesL_ (some 74) rfl rfl Tryd.func31 (by kernel_rfl) rfl #[.slice A0 l0.length c0, .slice A1 l1.length c1] rfl mapz ?_; (with_reducible refine (mast_Both.calls kj3 _ _ l0 _ _ l1 t502 t503 _ (cbz HR0) HC0.out (cbz HR1) HC1.out A24.out).mono ?_); rintro e w31 ⟨v504, rfl, ho0, hb⟩; refine ⟨_, rfl, ?_⟩; have HO505 := Aside0.mk (Kd.R_lower (Kd.R_new' (Kd.R_new' ho0 (Kd.R_lt (ownx HO497))) (Kd.R_lt (ownx HO501))) (below_size bel)); replace HO497 := Aside0.mk (Kd.R_elder' (ownx HO497) (Kd.R_base ho0) hb); replace HO501 := Aside0.mk (Kd.R_elder' (ownx HO501) (Kd.R_base ho0) hb); replace HB := Aside0.mk (below_step bel hb); (try clear hb); (try clear hb2); (try clear hk); (try clear hi); (try clear ho0)) | ((with_reducible refine gate_callee (f := 31) rfl ?_); refine goesL_ (some 80) rfl rfl Tryd.func31 (by kernel_rfl) rfl #[.slice A1 l1.length c1, .slice A0 l0.length c0] rfl mapz ?_; (with_reducible refine (mast_Both.calls kj3 _ _ l1 _ _ l0 t506 t507 _ (cbz HR1) HC1.out (cbz HR0) HC0.out A25.out).mono ?_); rintro e w32 ⟨v508, rfl, ho0, hb⟩; refine ⟨_, rfl, ?_⟩; have HO509 := Aside0.mk (Kd.R_lower (Kd.R_new' (Kd.R_new' (Kd.R_new' ho0 (Kd.R_lt (ownx HO497))) (Kd.R_lt (ownx HO501))) (Kd.R_lt (ownx HO505))) (below_size bel)); replace HO497 := Aside0.mk (Kd.R_elder' (ownx HO497) (Kd.R_base ho0) hb); replace HO501 := Aside0.mk (Kd.R_elder' (ownx HO501) (Kd.R_base ho0) hb); replace HO505 := Aside0.mk (Kd.R_elder' (ownx HO505) (Kd.R_base ho0) hb); replace HB := Aside0.mk (below_step bel hb); (try clear hb); (try clear hb2); (try clear hk); (try clear hi); (try clear ho0)) | ((with_reducible refine gate_callee (f := 25) rfl ?_); refine goesL_ (some 85) rfl rfl Tryd.func25 (by kernel_rfl) rfl #[.slice A0 l0.length c0] rfl mapz ?_; (with_reducible refine (mast_Rest.calls kj3 _ _ l0 t510 t511 _ (cbz HR0) HC0.out A26.out).mono ?_); rintro e w33 ⟨v512, rfl, ho0, hb⟩; refine ⟨_, rfl, ?_⟩; have HO513 := Aside0.mk (Kd.R_lower (Kd.R_new' (Kd.R_new' (Kd.R_new' (Kd.R_new' ho0 (Kd.R_lt (ownx HO497))) (Kd.R_lt (ownx HO501))) (Kd.R_lt (ownx HO505))) (Kd.R_lt (ownx HO509))) (below_size bel)); replace HO497 := Aside0.mk (Kd.R_elder' (ownx HO497) (Kd.R_base ho0) hb); replace HO501 := Aside0.mk (Kd.R_elder' (ownx HO501) (Kd.R_base ho0) hb); replace HO505 := Aside0.mk (Kd.R_elder' (ownx HO505) (Kd.R_base ho0) hb); replace HO509 := Aside0.mk (Kd.R_elder' (ownx HO509) (Kd.R_base ho0) hb); replace HB := Aside0.mk (below_step bel hb); (try clear hb); (try clear hb2); (try clear hk); (try clear hi); (try clear ho0)) | ((with_reducible refine gate_callee (f := 25) rfl ?_); refine goesL_ (some 90) rfl rfl Tryd.func25 (by kernel_rfl) rfl #[.slice A1 l1.length c1] rfl mapz ?_; (with_reducible refine (mast_Rest.calls kj3 _ _ l1 t514 t515 _ (cbz HR1) HC1.out A27.out).mono ?_); rintro e w34 ⟨v516, rfl, ho0, hb⟩; refine ⟨_, rfl, ?_⟩; have HO517 := Aside0.mk (Kd.R_lower (Kd.R_new' (Kd.R_new' (Kd.R_new' (Kd.R_new' (Kd.R_new' ho0 (Kd.R_lt (ownx HO497))) (Kd.R_lt (ownx HO501))) (Kd.R_lt (ownx HO505))) (Kd.R_lt (ownx HO509))) (Kd.R_lt (ownx HO513))) (below_size bel)); replace HO497 := Aside0.mk (Kd.R_elder' (ownx HO497) (Kd.R_base ho0) hb); replace HO501 := Aside0.mk (Kd.R_elder' (ownx HO501) (Kd.R_base ho0) hb); replace HO505 := Aside0.mk (Kd.R_elder' (ownx HO505) (Kd.R_base ho0) hb); replace HO509 := Aside0.mk (Kd.R_elder' (ownx HO509) (Kd.R_base ho0) hb); replace HO513 := Aside0.mk (Kd.R_elder' (ownx HO513) (Kd.R_base ho0) hb); replace HB := Aside0.mk (below_step bel hb); (try clear hb); (try clear hb2); (try clear hk); (try clear hi); (try clear ho0)))
      (try simp only [Act.put, List.setIfInBounds_toArray, List.set_cons_zero, List.set_cons_succ])
      go_cut [126] (fun v126 wc => ∃ (kq : Nat) (x126_27 : Bool), v126 = .bool x126_27 ∧ Aside0 (droppertop_TopLays.j1 kq l0 l1 l2 t494 t502 t510 t514 x126_27 = some r) ∧ Aside0 (kq ≤ kj3) ∧ Aside0 (Kd.R k46 46 wc w.heap.size (fun k_ => some k_ ≠ (v504 : Value).ownBlock ∧ some k_ ≠ (v512 : Value).ownBlock ∧ some k_ ≠ (v516 : Value).ownBlock) v496 t494) ∧ Aside0 (Kd.R k46 46 wc w.heap.size (fun k_ => some k_ ≠ (v496 : Value).ownBlock ∧ some k_ ≠ (v512 : Value).ownBlock ∧ some k_ ≠ (v516 : Value).ownBlock) v504 t502) ∧ Aside0 (Kd.R k46 46 wc w.heap.size (fun k_ => some k_ ≠ (v496 : Value).ownBlock ∧ some k_ ≠ (v504 : Value).ownBlock ∧ some k_ ≠ (v516 : Value).ownBlock) v512 t510) ∧ Aside0 (Kd.R k46 46 wc w.heap.size (fun k_ => some k_ ≠ (v496 : Value).ownBlock ∧ some k_ ≠ (v504 : Value).ownBlock ∧ some k_ ≠ (v512 : Value).ownBlock) v516 t514) ∧ Aside0 (Below w.heap.size w wc))
      case first =>
       as_aux_lemma =>
        have H := HC28.out
        clear HC28
        by_cases c35 : t495 = 0
        ·
         rw [if_pos c35] at H
         have c35b0 : (t495 == 0) = true := beq_iff_eq.mpr c35
         have c35b1 : (t495 != 0) = false := bne_eq_false_iff_eq.mpr c35
         clear c35
         (first | rw [c35b0] | (simp only [i64_w, i32_w]; rw [c35b0]) | skip)
         by_cases c36 : t499 = 0
         ·
          rw [if_pos c36] at H
          have c36b0 : (t499 == 0) = true := beq_iff_eq.mpr c36
          have c36b1 : (t499 != 0) = false := bne_eq_false_iff_eq.mpr c36
          clear c36
          by_cases c37 : t503 = 0
          ·
           rw [if_pos c37] at H
           have c37b0 : (t503 == 0) = true := beq_iff_eq.mpr c37
           have c37b1 : (t503 != 0) = false := bne_eq_false_iff_eq.mpr c37
           clear c37
           by_cases c38 : t507 = 0
           ·
            rw [if_pos c38] at H
            have c38b0 : (t507 == 0) = true := beq_iff_eq.mpr c38
            have c38b1 : (t507 != 0) = false := bne_eq_false_iff_eq.mpr c38
            clear c38
            by_cases c39 : t511 = 0
            ·
             rw [if_pos c39] at H
             have c39b0 : (t511 == 0) = true := beq_iff_eq.mpr c39
             have c39b1 : (t511 != 0) = false := bne_eq_false_iff_eq.mpr c39
             clear c39
             by_cases c40 : t515 = 0
             ·
              rw [if_pos c40] at H
              have c40b0 : (t515 == 0) = true := beq_iff_eq.mpr c40
              have c40b1 : (t515 != 0) = false := bne_eq_false_iff_eq.mpr c40
              clear c40
              replace H := Option.bind_eq_some_iff.mp H
              obtain ⟨t518, A410, H⟩ := H
              try dsimp only at H
              have A41 := Aside0.mk A410
              clear A410
              by_cases c42 : t518 = true
              ·
               subst c42
               rw [if_pos rfl] at H
               replace H := Option.bind_eq_some_iff.mp H
               obtain ⟨t519, A430, H⟩ := H
               try dsimp only at H
               have A43 := Aside0.mk A430
               clear A430
               have H' := Aside0.mk H
               clear H
               obtain ⟨Ao44, co44, eo44⟩ := Kd.R_slice HO497.out
               subst eo44
               obtain ⟨Ao45, co45, eo45⟩ := Kd.R_slice HO501.out
               subst eo45
               go_wp2_with (first | (go_at_call 16; (with_reducible refine (dropperlaw01_Same.calls kj3 _ _ t494 _ _ t498 true _ ?side1 ?side2 ?side3 ?side4 A41.out).mono ?_); (case side1 => repeat (first | exact (Kd.R_reads' HO497.out).2.2 | (with_reducible refine Kd.C_alloc ?_ _) | (with_reducible refine Kd.C_drewN ?_ _) | (with_reducible refine Kd.C_drew ?_))); (case side2 => exact (Kd.R_reads' HO497.out).2.1); (case side3 => repeat (first | exact (Kd.R_reads' HO501.out).2.2 | (with_reducible refine Kd.C_alloc ?_ _) | (with_reducible refine Kd.C_drewN ?_ _) | (with_reducible refine Kd.C_drew ?_))); (case side4 => exact (Kd.R_reads' HO501.out).2.1); rintro e w' ⟨rfl, ⟨nd, rfl⟩⟩; obtain ⟨Ao46, co46, eo46⟩ := Kd.R_slice HO505.out; subst eo46; obtain ⟨Ao47, co47, eo47⟩ := Kd.R_slice HO509.out; subst eo47) | (go_at_call 16; (with_reducible refine (dropperlaw01_Same.calls kj3 _ _ t502 _ _ t506 t519 _ ?side1 ?side2 ?side3 ?side4 A43.out).mono ?_); (case side1 => repeat (first | exact (Kd.R_reads' HO505.out).2.2 | (with_reducible refine Kd.C_alloc ?_ _) | (with_reducible refine Kd.C_drewN ?_ _) | (with_reducible refine Kd.C_drew ?_))); (case side2 => exact (Kd.R_reads' HO505.out).2.1); (case side3 => repeat (first | exact (Kd.R_reads' HO509.out).2.2 | (with_reducible refine Kd.C_alloc ?_ _) | (with_reducible refine Kd.C_drewN ?_ _) | (with_reducible refine Kd.C_drew ?_))); (case side4 => exact (Kd.R_reads' HO509.out).2.1); rintro e w' ⟨rfl, ⟨nd, rfl⟩⟩))
               go_meet
               case rel => exact ⟨_, (!t519), rsz, H', ⟨by have := HJ3.out; first | omega | exact Nat.le_refl _⟩, ⟨by (with_reducible repeat (first | apply Kd.R_alloc | apply Kd.R_drewN | apply Kd.R_drew)); exact Kd.R_mono HO497.out (fun _ hk => ⟨hk.1.1.1.2, ⟨hk.1.2, hk.2⟩⟩)⟩, ⟨by (with_reducible repeat (first | apply Kd.R_alloc | apply Kd.R_drewN | apply Kd.R_drew)); exact Kd.R_mono HO505.out (fun _ hk => ⟨hk.1.1.1.1.2, ⟨hk.1.2, hk.2⟩⟩)⟩, ⟨by (with_reducible repeat (first | apply Kd.R_alloc | apply Kd.R_drewN | apply Kd.R_drew)); exact Kd.R_mono HO513.out (fun _ hk => ⟨hk.1.1.1.1.2, ⟨hk.1.1.2, hk.2⟩⟩)⟩, ⟨by (with_reducible repeat (first | apply Kd.R_alloc | apply Kd.R_drewN | apply Kd.R_drew)); exact Kd.R_mono HO517.out (fun _ hk => ⟨hk.1.1.1.1.2, ⟨hk.1.1.2, hk.2⟩⟩)⟩, ⟨bel⟩⟩
              ·
               as_aux_lemma =>
                replace c42 := Bool.eq_false_iff.mpr c42
                subst c42
                rw [if_neg (show ¬ (false = true) by decide)] at H
                have H' := Aside0.mk H
                clear H
                obtain ⟨Ao48, co48, eo48⟩ := Kd.R_slice HO497.out
                subst eo48
                obtain ⟨Ao49, co49, eo49⟩ := Kd.R_slice HO501.out
                subst eo49
                go_wp2_with (first | (go_at_call 16; (with_reducible refine (dropperlaw01_Same.calls kj3 _ _ t494 _ _ t498 false _ ?side1 ?side2 ?side3 ?side4 A41.out).mono ?_); (case side1 => repeat (first | exact (Kd.R_reads' HO497.out).2.2 | (with_reducible refine Kd.C_alloc ?_ _) | (with_reducible refine Kd.C_drewN ?_ _) | (with_reducible refine Kd.C_drew ?_))); (case side2 => exact (Kd.R_reads' HO497.out).2.1); (case side3 => repeat (first | exact (Kd.R_reads' HO501.out).2.2 | (with_reducible refine Kd.C_alloc ?_ _) | (with_reducible refine Kd.C_drewN ?_ _) | (with_reducible refine Kd.C_drew ?_))); (case side4 => exact (Kd.R_reads' HO501.out).2.1); rintro e w' ⟨rfl, ⟨nd, rfl⟩⟩))
                go_meet
                case rel => exact ⟨_, (true), rsz, H', ⟨by have := HJ3.out; first | omega | exact Nat.le_refl _⟩, ⟨by (with_reducible repeat (first | apply Kd.R_alloc | apply Kd.R_drewN | apply Kd.R_drew)); exact Kd.R_mono HO497.out (fun _ hk => ⟨hk.1.1.1.2, ⟨hk.1.2, hk.2⟩⟩)⟩, ⟨by (with_reducible repeat (first | apply Kd.R_alloc | apply Kd.R_drewN | apply Kd.R_drew)); exact Kd.R_mono HO505.out (fun _ hk => ⟨hk.1.1.1.1.2, ⟨hk.1.2, hk.2⟩⟩)⟩, ⟨by (with_reducible repeat (first | apply Kd.R_alloc | apply Kd.R_drewN | apply Kd.R_drew)); exact Kd.R_mono HO513.out (fun _ hk => ⟨hk.1.1.1.1.2, ⟨hk.1.1.2, hk.2⟩⟩)⟩, ⟨by (with_reducible repeat (first | apply Kd.R_alloc | apply Kd.R_drewN | apply Kd.R_drew)); exact Kd.R_mono HO517.out (fun _ hk => ⟨hk.1.1.1.1.2, ⟨hk.1.1.2, hk.2⟩⟩)⟩, ⟨bel⟩⟩
             ·
              as_aux_lemma =>
               rw [if_neg c40] at H
               have c40b0 : (t515 == 0) = false := beq_eq_false_iff_ne.mpr c40
               have c40b1 : (t515 != 0) = true := bne_iff_ne.mpr c40
               have H' := Aside0.mk H
               clear H
               go_wp2
               go_meet
               case rel => exact ⟨_, (true), rsz, H', ⟨by have := HJ3.out; first | omega | exact Nat.le_refl _⟩, ⟨by (with_reducible repeat (first | apply Kd.R_alloc | apply Kd.R_drewN | apply Kd.R_drew)); exact Kd.R_mono HO497.out (fun _ hk => ⟨hk.1.1.1.2, ⟨hk.1.2, hk.2⟩⟩)⟩, ⟨by (with_reducible repeat (first | apply Kd.R_alloc | apply Kd.R_drewN | apply Kd.R_drew)); exact Kd.R_mono HO505.out (fun _ hk => ⟨hk.1.1.1.1.2, ⟨hk.1.2, hk.2⟩⟩)⟩, ⟨by (with_reducible repeat (first | apply Kd.R_alloc | apply Kd.R_drewN | apply Kd.R_drew)); exact Kd.R_mono HO513.out (fun _ hk => ⟨hk.1.1.1.1.2, ⟨hk.1.1.2, hk.2⟩⟩)⟩, ⟨by (with_reducible repeat (first | apply Kd.R_alloc | apply Kd.R_drewN | apply Kd.R_drew)); exact Kd.R_mono HO517.out (fun _ hk => ⟨hk.1.1.1.1.2, ⟨hk.1.1.2, hk.2⟩⟩)⟩, ⟨bel⟩⟩
            ·
             as_aux_lemma =>
              rw [if_neg c39] at H
              have c39b0 : (t511 == 0) = false := beq_eq_false_iff_ne.mpr c39
              have c39b1 : (t511 != 0) = true := bne_iff_ne.mpr c39
              have H' := Aside0.mk H
              clear H
              go_wp2
              go_meet
              case rel => exact ⟨_, (true), rsz, H', ⟨by have := HJ3.out; first | omega | exact Nat.le_refl _⟩, ⟨by (with_reducible repeat (first | apply Kd.R_alloc | apply Kd.R_drewN | apply Kd.R_drew)); exact Kd.R_mono HO497.out (fun _ hk => ⟨hk.1.1.1.2, ⟨hk.1.2, hk.2⟩⟩)⟩, ⟨by (with_reducible repeat (first | apply Kd.R_alloc | apply Kd.R_drewN | apply Kd.R_drew)); exact Kd.R_mono HO505.out (fun _ hk => ⟨hk.1.1.1.1.2, ⟨hk.1.2, hk.2⟩⟩)⟩, ⟨by (with_reducible repeat (first | apply Kd.R_alloc | apply Kd.R_drewN | apply Kd.R_drew)); exact Kd.R_mono HO513.out (fun _ hk => ⟨hk.1.1.1.1.2, ⟨hk.1.1.2, hk.2⟩⟩)⟩, ⟨by (with_reducible repeat (first | apply Kd.R_alloc | apply Kd.R_drewN | apply Kd.R_drew)); exact Kd.R_mono HO517.out (fun _ hk => ⟨hk.1.1.1.1.2, ⟨hk.1.1.2, hk.2⟩⟩)⟩, ⟨bel⟩⟩
           ·
            as_aux_lemma =>
             rw [if_neg c38] at H
             have c38b0 : (t507 == 0) = false := beq_eq_false_iff_ne.mpr c38
             have c38b1 : (t507 != 0) = true := bne_iff_ne.mpr c38
             have H' := Aside0.mk H
             clear H
             go_wp2
             go_meet
             case rel => exact ⟨_, (true), rsz, H', ⟨by have := HJ3.out; first | omega | exact Nat.le_refl _⟩, ⟨by (with_reducible repeat (first | apply Kd.R_alloc | apply Kd.R_drewN | apply Kd.R_drew)); exact Kd.R_mono HO497.out (fun _ hk => ⟨hk.1.1.1.2, ⟨hk.1.2, hk.2⟩⟩)⟩, ⟨by (with_reducible repeat (first | apply Kd.R_alloc | apply Kd.R_drewN | apply Kd.R_drew)); exact Kd.R_mono HO505.out (fun _ hk => ⟨hk.1.1.1.1.2, ⟨hk.1.2, hk.2⟩⟩)⟩, ⟨by (with_reducible repeat (first | apply Kd.R_alloc | apply Kd.R_drewN | apply Kd.R_drew)); exact Kd.R_mono HO513.out (fun _ hk => ⟨hk.1.1.1.1.2, ⟨hk.1.1.2, hk.2⟩⟩)⟩, ⟨by (with_reducible repeat (first | apply Kd.R_alloc | apply Kd.R_drewN | apply Kd.R_drew)); exact Kd.R_mono HO517.out (fun _ hk => ⟨hk.1.1.1.1.2, ⟨hk.1.1.2, hk.2⟩⟩)⟩, ⟨bel⟩⟩
          ·
           as_aux_lemma =>
            rw [if_neg c37] at H
            have c37b0 : (t503 == 0) = false := beq_eq_false_iff_ne.mpr c37
            have c37b1 : (t503 != 0) = true := bne_iff_ne.mpr c37
            have H' := Aside0.mk H
            clear H
            go_wp2
            go_meet
            case rel => exact ⟨_, (true), rsz, H', ⟨by have := HJ3.out; first | omega | exact Nat.le_refl _⟩, ⟨by (with_reducible repeat (first | apply Kd.R_alloc | apply Kd.R_drewN | apply Kd.R_drew)); exact Kd.R_mono HO497.out (fun _ hk => ⟨hk.1.1.1.2, ⟨hk.1.2, hk.2⟩⟩)⟩, ⟨by (with_reducible repeat (first | apply Kd.R_alloc | apply Kd.R_drewN | apply Kd.R_drew)); exact Kd.R_mono HO505.out (fun _ hk => ⟨hk.1.1.1.1.2, ⟨hk.1.2, hk.2⟩⟩)⟩, ⟨by (with_reducible repeat (first | apply Kd.R_alloc | apply Kd.R_drewN | apply Kd.R_drew)); exact Kd.R_mono HO513.out (fun _ hk => ⟨hk.1.1.1.1.2, ⟨hk.1.1.2, hk.2⟩⟩)⟩, ⟨by (with_reducible repeat (first | apply Kd.R_alloc | apply Kd.R_drewN | apply Kd.R_drew)); exact Kd.R_mono HO517.out (fun _ hk => ⟨hk.1.1.1.1.2, ⟨hk.1.1.2, hk.2⟩⟩)⟩, ⟨bel⟩⟩
         ·
          as_aux_lemma =>
           rw [if_neg c36] at H
           have c36b0 : (t499 == 0) = false := beq_eq_false_iff_ne.mpr c36
           have c36b1 : (t499 != 0) = true := bne_iff_ne.mpr c36
           have H' := Aside0.mk H
           clear H
           go_wp2
           go_meet
           case rel => exact ⟨_, (true), rsz, H', ⟨by have := HJ3.out; first | omega | exact Nat.le_refl _⟩, ⟨by (with_reducible repeat (first | apply Kd.R_alloc | apply Kd.R_drewN | apply Kd.R_drew)); exact Kd.R_mono HO497.out (fun _ hk => ⟨hk.1.1.1.2, ⟨hk.1.2, hk.2⟩⟩)⟩, ⟨by (with_reducible repeat (first | apply Kd.R_alloc | apply Kd.R_drewN | apply Kd.R_drew)); exact Kd.R_mono HO505.out (fun _ hk => ⟨hk.1.1.1.1.2, ⟨hk.1.2, hk.2⟩⟩)⟩, ⟨by (with_reducible repeat (first | apply Kd.R_alloc | apply Kd.R_drewN | apply Kd.R_drew)); exact Kd.R_mono HO513.out (fun _ hk => ⟨hk.1.1.1.1.2, ⟨hk.1.1.2, hk.2⟩⟩)⟩, ⟨by (with_reducible repeat (first | apply Kd.R_alloc | apply Kd.R_drewN | apply Kd.R_drew)); exact Kd.R_mono HO517.out (fun _ hk => ⟨hk.1.1.1.1.2, ⟨hk.1.1.2, hk.2⟩⟩)⟩, ⟨bel⟩⟩
        ·
         as_aux_lemma =>
          rw [if_neg c35] at H
          have c35b0 : (t495 == 0) = false := beq_eq_false_iff_ne.mpr c35
          have c35b1 : (t495 != 0) = true := bne_iff_ne.mpr c35
          (first | rw [c35b0] | (simp only [i64_w, i32_w]; rw [c35b0]) | skip)
          have H' := Aside0.mk H
          clear H
          go_wp2
          go_meet
          case rel => exact ⟨_, (true), rsz, H', ⟨by have := HJ3.out; first | omega | exact Nat.le_refl _⟩, ⟨by (with_reducible repeat (first | apply Kd.R_alloc | apply Kd.R_drewN | apply Kd.R_drew)); exact Kd.R_mono HO497.out (fun _ hk => ⟨hk.1.1.1.2, ⟨hk.1.2, hk.2⟩⟩)⟩, ⟨by (with_reducible repeat (first | apply Kd.R_alloc | apply Kd.R_drewN | apply Kd.R_drew)); exact Kd.R_mono HO505.out (fun _ hk => ⟨hk.1.1.1.1.2, ⟨hk.1.2, hk.2⟩⟩)⟩, ⟨by (with_reducible repeat (first | apply Kd.R_alloc | apply Kd.R_drewN | apply Kd.R_drew)); exact Kd.R_mono HO513.out (fun _ hk => ⟨hk.1.1.1.1.2, ⟨hk.1.1.2, hk.2⟩⟩)⟩, ⟨by (with_reducible repeat (first | apply Kd.R_alloc | apply Kd.R_drewN | apply Kd.R_drew)); exact Kd.R_mono HO517.out (fun _ hk => ⟨hk.1.1.1.1.2, ⟨hk.1.1.2, hk.2⟩⟩)⟩, ⟨bel⟩⟩
      case rest =>
       as_aux_lemma =>
        clear HC28
        (try clear c1); (try clear c2); (try clear p2); (try clear c3); (try clear c4); (try clear c5); (try clear c5b0); (try clear c5b1); (try clear c6); (try clear c6b0); (try clear c6b1); (try clear c7); (try clear c7b0); (try clear c7b1); (try clear c9); (try clear c11); (try clear c19); (try clear c25); (try clear c29); (try clear c31); (try clear c35); (try clear c35b0); (try clear c35b1); (try clear c36); (try clear c36b0); (try clear c36b1); (try clear c37); (try clear c37b0); (try clear c37b1); (try clear c38); (try clear c38b0); (try clear c38b1); (try clear c39); (try clear c39b0); (try clear c39b1); (try clear c40); (try clear c40b0); (try clear c40b1); (try clear c42); (try clear p2)
        obtain ⟨kq, x126_27, rfl, HA, HJ27, HO_7, HO_11, HO_15, HO_17, HB⟩ := hcut
        cases kq with
        | zero => exact absurd HA.out (by simp [droppertop_TopLays.j1])
        | succ kj27 =>
         have H := HA.out
         clear HA
         simp only [droppertop_TopLays.j1] at H
         by_cases c50 : x126_27 = true
         ·
          subst c50
          rw [if_pos rfl] at H
          exact absurd H (by simp)
         ·
          as_aux_lemma =>
           replace c50 := Bool.eq_false_iff.mpr c50
           subst c50
           rw [if_neg (show ¬ (false = true) by decide)] at H
           replace H := Option.bind_eq_some_iff.mp H
           obtain ⟨⟨t520, t521⟩, A510, H⟩ := H
           try dsimp only at H
           have A51 := Aside0.mk A510
           clear A510
           replace H := Option.bind_eq_some_iff.mp H
           obtain ⟨⟨t524, t525⟩, A520, H⟩ := H
           try dsimp only at H
           have A52 := Aside0.mk A520
           clear A520
           replace H := Option.bind_eq_some_iff.mp H
           obtain ⟨⟨t528, t529⟩, A530, H⟩ := H
           try dsimp only at H
           have A53 := Aside0.mk A530
           clear A530
           replace H := Option.bind_eq_some_iff.mp H
           obtain ⟨⟨t532, t533⟩, A540, H⟩ := H
           try dsimp only at H
           have A54 := Aside0.mk A540
           clear A540
           replace H := Option.bind_eq_some_iff.mp H
           obtain ⟨⟨t536, t537⟩, A550, H⟩ := H
           try dsimp only at H
           have A55 := Aside0.mk A550
           clear A550
           have HC56 := Aside0.mk H
           clear H
           obtain ⟨Ao57, co57, eo57⟩ := Kd.R_slice HO_15.out
           subst eo57
           go_upto_region 16 with (first | ((with_reducible refine gate_callee (f := 25) rfl ?_); refine goesL_ (some 129) rfl rfl Tryd.func25 (by kernel_rfl) rfl #[.slice Ao57 t510.length co57] rfl mapz ?_; (with_reducible refine (mast_Rest.calls kj27 _ _ t510 t520 t521 _ ?side1 ?side2 A51.out).mono ?_); (case side1 => repeat (first | exact (Kd.R_reads' HO_15.out).2.2 | (with_reducible refine Kd.C_alloc ?_ _) | (with_reducible refine Kd.C_drewN ?_ _) | (with_reducible refine Kd.C_drew ?_))); (case side2 => exact (Kd.R_reads' HO_15.out).2.1); rintro e w58 ⟨v522, rfl, ho0, hb⟩; refine ⟨_, rfl, ?_⟩; have HO523 := Aside0.mk (Kd.R_lower (Kd.R_new' (Kd.R_new' (Kd.R_new' (Kd.R_new' ho0 (Kd.R_lt (ownx HO_7))) (Kd.R_lt (ownx HO_11))) (Kd.R_lt (ownx HO_15))) (Kd.R_lt (ownx HO_17))) (below_size bel)); replace HO_7 := Aside0.mk (Kd.R_elder' (ownx HO_7) (Kd.R_base ho0) hb); replace HO_11 := Aside0.mk (Kd.R_elder' (ownx HO_11) (Kd.R_base ho0) hb); replace HO_15 := Aside0.mk (Kd.R_elder' (ownx HO_15) (Kd.R_base ho0) hb); replace HO_17 := Aside0.mk (Kd.R_elder' (ownx HO_17) (Kd.R_base ho0) hb); replace HB := Aside0.mk (below_step bel hb); (try clear hb); (try clear hb2); (try clear hk); (try clear hi); (try clear ho0); obtain ⟨Ao59, co59, eo59⟩ := Kd.R_slice HO_7.out; subst eo59) | ((with_reducible refine gate_callee (f := 25) rfl ?_); refine goesL_ (some 134) rfl rfl Tryd.func25 (by kernel_rfl) rfl #[.slice Ao59 t494.length co59] rfl mapz ?_; (with_reducible refine (mast_Rest.calls kj27 _ _ t494 t524 t525 _ ?side1 ?side2 A52.out).mono ?_); (case side1 => repeat (first | exact (Kd.R_reads' HO_7.out).2.2 | (with_reducible refine Kd.C_alloc ?_ _) | (with_reducible refine Kd.C_drewN ?_ _) | (with_reducible refine Kd.C_drew ?_))); (case side2 => exact (Kd.R_reads' HO_7.out).2.1); rintro e w60 ⟨v526, rfl, ho0, hb⟩; refine ⟨_, rfl, ?_⟩; have HO527 := Aside0.mk (Kd.R_lower (Kd.R_new' (Kd.R_new' (Kd.R_new' (Kd.R_new' (Kd.R_new' ho0 (Kd.R_lt (ownx HO_7))) (Kd.R_lt (ownx HO_11))) (Kd.R_lt (ownx HO_15))) (Kd.R_lt (ownx HO_17))) (Kd.R_lt (ownx HO523))) (below_size bel)); replace HO_7 := Aside0.mk (Kd.R_elder' (ownx HO_7) (Kd.R_base ho0) hb); replace HO_11 := Aside0.mk (Kd.R_elder' (ownx HO_11) (Kd.R_base ho0) hb); replace HO_15 := Aside0.mk (Kd.R_elder' (ownx HO_15) (Kd.R_base ho0) hb); replace HO_17 := Aside0.mk (Kd.R_elder' (ownx HO_17) (Kd.R_base ho0) hb); replace HO523 := Aside0.mk (Kd.R_elder' (ownx HO523) (Kd.R_base ho0) hb); replace HB := Aside0.mk (below_step bel hb); (try clear hb); (try clear hb2); (try clear hk); (try clear hi); (try clear ho0); obtain ⟨Ao61, co61, eo61⟩ := Kd.R_slice HO_17.out; subst eo61) | ((with_reducible refine gate_callee (f := 31) rfl ?_); refine goesL_ (some 140) rfl rfl Tryd.func31 (by kernel_rfl) rfl #[.slice Ao57 t510.length co57, .slice Ao61 t514.length co61] rfl mapz ?_; (with_reducible refine (mast_Both.calls kj27 _ _ t510 _ _ t514 t528 t529 _ ?side1 ?side2 ?side3 ?side4 A53.out).mono ?_); (case side1 => repeat (first | exact (Kd.R_reads' HO_15.out).2.2 | (with_reducible refine Kd.C_alloc ?_ _) | (with_reducible refine Kd.C_drewN ?_ _) | (with_reducible refine Kd.C_drew ?_))); (case side2 => exact (Kd.R_reads' HO_15.out).2.1); (case side3 => repeat (first | exact (Kd.R_reads' HO_17.out).2.2 | (with_reducible refine Kd.C_alloc ?_ _) | (with_reducible refine Kd.C_drewN ?_ _) | (with_reducible refine Kd.C_drew ?_))); (case side4 => exact (Kd.R_reads' HO_17.out).2.1); rintro e w62 ⟨v530, rfl, ho0, hb⟩; refine ⟨_, rfl, ?_⟩; have HO531 := Aside0.mk (Kd.R_lower (Kd.R_new' (Kd.R_new' (Kd.R_new' (Kd.R_new' (Kd.R_new' (Kd.R_new' ho0 (Kd.R_lt (ownx HO_7))) (Kd.R_lt (ownx HO_11))) (Kd.R_lt (ownx HO_15))) (Kd.R_lt (ownx HO_17))) (Kd.R_lt (ownx HO523))) (Kd.R_lt (ownx HO527))) (below_size bel)); replace HO_7 := Aside0.mk (Kd.R_elder' (ownx HO_7) (Kd.R_base ho0) hb); replace HO_11 := Aside0.mk (Kd.R_elder' (ownx HO_11) (Kd.R_base ho0) hb); replace HO_15 := Aside0.mk (Kd.R_elder' (ownx HO_15) (Kd.R_base ho0) hb); replace HO_17 := Aside0.mk (Kd.R_elder' (ownx HO_17) (Kd.R_base ho0) hb); replace HO523 := Aside0.mk (Kd.R_elder' (ownx HO523) (Kd.R_base ho0) hb); replace HO527 := Aside0.mk (Kd.R_elder' (ownx HO527) (Kd.R_base ho0) hb); replace HB := Aside0.mk (below_step bel hb); (try clear hb); (try clear hb2); (try clear hk); (try clear hi); (try clear ho0)) | ((with_reducible refine gate_callee (f := 33) rfl ?_); refine goesL_ (some 146) rfl rfl Tryd.func33 (by kernel_rfl) rfl #[.slice A0 l0.length c0, .slice A1 l1.length c1] rfl mapz ?_; (with_reducible refine (mast_Without.calls kj27 _ _ l0 _ _ l1 t532 t533 _ (cbz HR0) HC0.out (cbz HR1) HC1.out A54.out).mono ?_); rintro e w63 ⟨v534, rfl, ho0, hb⟩; refine ⟨_, rfl, ?_⟩; have HO535 := Aside0.mk (Kd.R_lower (Kd.R_new' (Kd.R_new' (Kd.R_new' (Kd.R_new' (Kd.R_new' (Kd.R_new' (Kd.R_new' ho0 (Kd.R_lt (ownx HO_7))) (Kd.R_lt (ownx HO_11))) (Kd.R_lt (ownx HO_15))) (Kd.R_lt (ownx HO_17))) (Kd.R_lt (ownx HO523))) (Kd.R_lt (ownx HO527))) (Kd.R_lt (ownx HO531))) (below_size bel)); replace HO_7 := Aside0.mk (Kd.R_elder' (ownx HO_7) (Kd.R_base ho0) hb); replace HO_11 := Aside0.mk (Kd.R_elder' (ownx HO_11) (Kd.R_base ho0) hb); replace HO_15 := Aside0.mk (Kd.R_elder' (ownx HO_15) (Kd.R_base ho0) hb); replace HO_17 := Aside0.mk (Kd.R_elder' (ownx HO_17) (Kd.R_base ho0) hb); replace HO523 := Aside0.mk (Kd.R_elder' (ownx HO523) (Kd.R_base ho0) hb); replace HO527 := Aside0.mk (Kd.R_elder' (ownx HO527) (Kd.R_base ho0) hb); replace HO531 := Aside0.mk (Kd.R_elder' (ownx HO531) (Kd.R_base ho0) hb); replace HB := Aside0.mk (below_step bel hb); (try clear hb); (try clear hb2); (try clear hk); (try clear hi); (try clear ho0)) | ((with_reducible refine gate_callee (f := 31) rfl ?_); refine goesL_ (some 152) rfl rfl Tryd.func31 (by kernel_rfl) rfl #[.slice A0 l0.length c0, .slice Ao61 t514.length co61] rfl mapz ?_; (with_reducible refine (mast_Both.calls kj27 _ _ l0 _ _ t514 t536 t537 _ (cbz HR0) HC0.out ?side3 ?side4 A55.out).mono ?_); (case side3 => repeat (first | exact (Kd.R_reads' HO_17.out).2.2 | (with_reducible refine Kd.C_alloc ?_ _) | (with_reducible refine Kd.C_drewN ?_ _) | (with_reducible refine Kd.C_drew ?_))); (case side4 => exact (Kd.R_reads' HO_17.out).2.1); rintro e w64 ⟨v538, rfl, ho0, hb⟩; refine ⟨_, rfl, ?_⟩; have HO539 := Aside0.mk (Kd.R_lower (Kd.R_new' (Kd.R_new' (Kd.R_new' (Kd.R_new' (Kd.R_new' (Kd.R_new' (Kd.R_new' (Kd.R_new' ho0 (Kd.R_lt (ownx HO_7))) (Kd.R_lt (ownx HO_11))) (Kd.R_lt (ownx HO_15))) (Kd.R_lt (ownx HO_17))) (Kd.R_lt (ownx HO523))) (Kd.R_lt (ownx HO527))) (Kd.R_lt (ownx HO531))) (Kd.R_lt (ownx HO535))) (below_size bel)); replace HO_7 := Aside0.mk (Kd.R_elder' (ownx HO_7) (Kd.R_base ho0) hb); replace HO_11 := Aside0.mk (Kd.R_elder' (ownx HO_11) (Kd.R_base ho0) hb); replace HO_15 := Aside0.mk (Kd.R_elder' (ownx HO_15) (Kd.R_base ho0) hb); replace HO_17 := Aside0.mk (Kd.R_elder' (ownx HO_17) (Kd.R_base ho0) hb); replace HO523 := Aside0.mk (Kd.R_elder' (ownx HO523) (Kd.R_base ho0) hb); replace HO527 := Aside0.mk (Kd.R_elder' (ownx HO527) (Kd.R_base ho0) hb); replace HO531 := Aside0.mk (Kd.R_elder' (ownx HO531) (Kd.R_base ho0) hb); replace HO535 := Aside0.mk (Kd.R_elder' (ownx HO535) (Kd.R_base ho0) hb); replace HB := Aside0.mk (below_step bel hb); (try clear hb); (try clear hb2); (try clear hk); (try clear hi); (try clear ho0)))
           (try simp only [Act.put, List.setIfInBounds_toArray, List.set_cons_zero, List.set_cons_succ])
           go_cut [190] (fun v190 wc => ∃ (kq : Nat) (x190_55 : Bool), v190 = .bool x190_55 ∧ Aside0 (droppertop_TopLays.j2 kq l0 l1 l2 t494 t502 t510 x190_55 = some r) ∧ Aside0 (kq ≤ kj27) ∧ Aside0 (Kd.R k46 46 wc w.heap.size (fun k_ => some k_ ≠ (v504 : Value).ownBlock ∧ some k_ ≠ ((.slice Ao57 t510.length co57) : Value).ownBlock) (.slice Ao59 t494.length co59) t494) ∧ Aside0 (Kd.R k46 46 wc w.heap.size (fun k_ => some k_ ≠ ((.slice Ao59 t494.length co59) : Value).ownBlock ∧ some k_ ≠ ((.slice Ao57 t510.length co57) : Value).ownBlock) v504 t502) ∧ Aside0 (Kd.R k46 46 wc w.heap.size (fun k_ => some k_ ≠ ((.slice Ao59 t494.length co59) : Value).ownBlock ∧ some k_ ≠ (v504 : Value).ownBlock) (.slice Ao57 t510.length co57) t510) ∧ Aside0 (Below w.heap.size w wc))
           case first =>
            as_aux_lemma =>
             have H := HC56.out
             clear HC56
             by_cases c65 : t521 = 0
             ·
              rw [if_pos c65] at H
              have c65b0 : (t521 == 0) = true := beq_iff_eq.mpr c65
              have c65b1 : (t521 != 0) = false := bne_eq_false_iff_eq.mpr c65
              clear c65
              (first | rw [c65b0] | (simp only [i64_w, i32_w]; rw [c65b0]) | skip)
              by_cases c66 : t525 = 0
              ·
               rw [if_pos c66] at H
               have c66b0 : (t525 == 0) = true := beq_iff_eq.mpr c66
               have c66b1 : (t525 != 0) = false := bne_eq_false_iff_eq.mpr c66
               clear c66
               by_cases c67 : t529 = 0
               ·
                rw [if_pos c67] at H
                have c67b0 : (t529 == 0) = true := beq_iff_eq.mpr c67
                have c67b1 : (t529 != 0) = false := bne_eq_false_iff_eq.mpr c67
                clear c67
                by_cases c68 : t533 = 0
                ·
                 rw [if_pos c68] at H
                 have c68b0 : (t533 == 0) = true := beq_iff_eq.mpr c68
                 have c68b1 : (t533 != 0) = false := bne_eq_false_iff_eq.mpr c68
                 clear c68
                 by_cases c69 : t537 = 0
                 ·
                  rw [if_pos c69] at H
                  have c69b0 : (t537 == 0) = true := beq_iff_eq.mpr c69
                  have c69b1 : (t537 != 0) = false := bne_eq_false_iff_eq.mpr c69
                  clear c69
                  replace H := Option.bind_eq_some_iff.mp H
                  obtain ⟨t540, A700, H⟩ := H
                  try dsimp only at H
                  have A70 := Aside0.mk A700
                  clear A700
                  by_cases c71 : t540 = true
                  ·
                   subst c71
                   rw [if_pos rfl] at H
                   replace H := Option.bind_eq_some_iff.mp H
                   obtain ⟨t541, A720, H⟩ := H
                   try dsimp only at H
                   have A72 := Aside0.mk A720
                   clear A720
                   by_cases c73 : t541 = true
                   ·
                    subst c73
                    rw [if_pos rfl] at H
                    replace H := Option.bind_eq_some_iff.mp H
                    obtain ⟨t542, A740, H⟩ := H
                    try dsimp only at H
                    have A74 := Aside0.mk A740
                    clear A740
                    have H' := Aside0.mk H
                    clear H
                    obtain ⟨Ao75, co75, eo75⟩ := Kd.R_slice HO523.out
                    subst eo75
                    go_wp2_with (first | (go_at_call 16; (with_reducible refine (dropperlaw01_Same.calls kj27 _ _ t520 _ _ l0 true _ ?side1 ?side2 (cbz HR0) HC0.out A70.out).mono ?_); (case side1 => repeat (first | exact (Kd.R_reads' HO523.out).2.2 | (with_reducible refine Kd.C_alloc ?_ _) | (with_reducible refine Kd.C_drewN ?_ _) | (with_reducible refine Kd.C_drew ?_))); (case side2 => exact (Kd.R_reads' HO523.out).2.1); rintro e w' ⟨rfl, ⟨nd, rfl⟩⟩; obtain ⟨Ao76, co76, eo76⟩ := Kd.R_slice HO527.out; subst eo76; obtain ⟨Ao77, co77, eo77⟩ := Kd.R_slice HO531.out; subst eo77) | (go_at_call 16; (with_reducible refine (dropperlaw01_Same.calls kj27 _ _ t524 _ _ t528 true _ ?side1 ?side2 ?side3 ?side4 A72.out).mono ?_); (case side1 => repeat (first | exact (Kd.R_reads' HO527.out).2.2 | (with_reducible refine Kd.C_alloc ?_ _) | (with_reducible refine Kd.C_drewN ?_ _) | (with_reducible refine Kd.C_drew ?_))); (case side2 => exact (Kd.R_reads' HO527.out).2.1); (case side3 => repeat (first | exact (Kd.R_reads' HO531.out).2.2 | (with_reducible refine Kd.C_alloc ?_ _) | (with_reducible refine Kd.C_drewN ?_ _) | (with_reducible refine Kd.C_drew ?_))); (case side4 => exact (Kd.R_reads' HO531.out).2.1); rintro e w' ⟨rfl, ⟨nd, rfl⟩⟩; obtain ⟨Ao78, co78, eo78⟩ := Kd.R_slice HO535.out; subst eo78; obtain ⟨Ao79, co79, eo79⟩ := Kd.R_slice HO539.out; subst eo79) | (go_at_call 16; (with_reducible refine (dropperlaw01_Same.calls kj27 _ _ t532 _ _ t536 t542 _ ?side1 ?side2 ?side3 ?side4 A74.out).mono ?_); (case side1 => repeat (first | exact (Kd.R_reads' HO535.out).2.2 | (with_reducible refine Kd.C_alloc ?_ _) | (with_reducible refine Kd.C_drewN ?_ _) | (with_reducible refine Kd.C_drew ?_))); (case side2 => exact (Kd.R_reads' HO535.out).2.1); (case side3 => repeat (first | exact (Kd.R_reads' HO539.out).2.2 | (with_reducible refine Kd.C_alloc ?_ _) | (with_reducible refine Kd.C_drewN ?_ _) | (with_reducible refine Kd.C_drew ?_))); (case side4 => exact (Kd.R_reads' HO539.out).2.1); rintro e w' ⟨rfl, ⟨nd, rfl⟩⟩))
                    go_meet
                    case rel => exact ⟨_, (!t542), rsz, H', ⟨by have := HJ3.out; have := HJ27.out; first | omega | exact Nat.le_refl _⟩, ⟨by (with_reducible repeat (first | apply Kd.R_alloc | apply Kd.R_drewN | apply Kd.R_drew)); exact Kd.R_mono HO_7.out (fun _ hk => ⟨hk.1.1.1.1.1.1, hk.1.1.1.1.1.2.1⟩)⟩, ⟨by (with_reducible repeat (first | apply Kd.R_alloc | apply Kd.R_drewN | apply Kd.R_drew)); exact Kd.R_mono HO_11.out (fun _ hk => ⟨hk.1.1.1.1.1.1, hk.1.1.1.1.1.2.1⟩)⟩, ⟨by (with_reducible repeat (first | apply Kd.R_alloc | apply Kd.R_drewN | apply Kd.R_drew)); exact Kd.R_mono HO_15.out (fun _ hk => ⟨hk.1.1.1.1.1.1, hk.1.1.1.1.1.2.1⟩)⟩, ⟨bel⟩⟩
                   ·
                    as_aux_lemma =>
                     replace c73 := Bool.eq_false_iff.mpr c73
                     subst c73
                     rw [if_neg (show ¬ (false = true) by decide)] at H
                     have H' := Aside0.mk H
                     clear H
                     obtain ⟨Ao80, co80, eo80⟩ := Kd.R_slice HO523.out
                     subst eo80
                     go_wp2_with (first | (go_at_call 16; (with_reducible refine (dropperlaw01_Same.calls kj27 _ _ t520 _ _ l0 true _ ?side1 ?side2 (cbz HR0) HC0.out A70.out).mono ?_); (case side1 => repeat (first | exact (Kd.R_reads' HO523.out).2.2 | (with_reducible refine Kd.C_alloc ?_ _) | (with_reducible refine Kd.C_drewN ?_ _) | (with_reducible refine Kd.C_drew ?_))); (case side2 => exact (Kd.R_reads' HO523.out).2.1); rintro e w' ⟨rfl, ⟨nd, rfl⟩⟩; obtain ⟨Ao81, co81, eo81⟩ := Kd.R_slice HO527.out; subst eo81; obtain ⟨Ao82, co82, eo82⟩ := Kd.R_slice HO531.out; subst eo82) | (go_at_call 16; (with_reducible refine (dropperlaw01_Same.calls kj27 _ _ t524 _ _ t528 false _ ?side1 ?side2 ?side3 ?side4 A72.out).mono ?_); (case side1 => repeat (first | exact (Kd.R_reads' HO527.out).2.2 | (with_reducible refine Kd.C_alloc ?_ _) | (with_reducible refine Kd.C_drewN ?_ _) | (with_reducible refine Kd.C_drew ?_))); (case side2 => exact (Kd.R_reads' HO527.out).2.1); (case side3 => repeat (first | exact (Kd.R_reads' HO531.out).2.2 | (with_reducible refine Kd.C_alloc ?_ _) | (with_reducible refine Kd.C_drewN ?_ _) | (with_reducible refine Kd.C_drew ?_))); (case side4 => exact (Kd.R_reads' HO531.out).2.1); rintro e w' ⟨rfl, ⟨nd, rfl⟩⟩))
                     go_meet
                     case rel => exact ⟨_, (true), rsz, H', ⟨by have := HJ3.out; have := HJ27.out; first | omega | exact Nat.le_refl _⟩, ⟨by (with_reducible repeat (first | apply Kd.R_alloc | apply Kd.R_drewN | apply Kd.R_drew)); exact Kd.R_mono HO_7.out (fun _ hk => ⟨hk.1.1.1.1.1.1, hk.1.1.1.1.1.2.1⟩)⟩, ⟨by (with_reducible repeat (first | apply Kd.R_alloc | apply Kd.R_drewN | apply Kd.R_drew)); exact Kd.R_mono HO_11.out (fun _ hk => ⟨hk.1.1.1.1.1.1, hk.1.1.1.1.1.2.1⟩)⟩, ⟨by (with_reducible repeat (first | apply Kd.R_alloc | apply Kd.R_drewN | apply Kd.R_drew)); exact Kd.R_mono HO_15.out (fun _ hk => ⟨hk.1.1.1.1.1.1, hk.1.1.1.1.1.2.1⟩)⟩, ⟨bel⟩⟩
                  ·
                   as_aux_lemma =>
                    replace c71 := Bool.eq_false_iff.mpr c71
                    subst c71
                    rw [if_neg (show ¬ (false = true) by decide)] at H
                    have H' := Aside0.mk H
                    clear H
                    obtain ⟨Ao83, co83, eo83⟩ := Kd.R_slice HO523.out
                    subst eo83
                    go_wp2_with (first | (go_at_call 16; (with_reducible refine (dropperlaw01_Same.calls kj27 _ _ t520 _ _ l0 false _ ?side1 ?side2 (cbz HR0) HC0.out A70.out).mono ?_); (case side1 => repeat (first | exact (Kd.R_reads' HO523.out).2.2 | (with_reducible refine Kd.C_alloc ?_ _) | (with_reducible refine Kd.C_drewN ?_ _) | (with_reducible refine Kd.C_drew ?_))); (case side2 => exact (Kd.R_reads' HO523.out).2.1); rintro e w' ⟨rfl, ⟨nd, rfl⟩⟩))
                    go_meet
                    case rel => exact ⟨_, (true), rsz, H', ⟨by have := HJ3.out; have := HJ27.out; first | omega | exact Nat.le_refl _⟩, ⟨by (with_reducible repeat (first | apply Kd.R_alloc | apply Kd.R_drewN | apply Kd.R_drew)); exact Kd.R_mono HO_7.out (fun _ hk => ⟨hk.1.1.1.1.1.1, hk.1.1.1.1.1.2.1⟩)⟩, ⟨by (with_reducible repeat (first | apply Kd.R_alloc | apply Kd.R_drewN | apply Kd.R_drew)); exact Kd.R_mono HO_11.out (fun _ hk => ⟨hk.1.1.1.1.1.1, hk.1.1.1.1.1.2.1⟩)⟩, ⟨by (with_reducible repeat (first | apply Kd.R_alloc | apply Kd.R_drewN | apply Kd.R_drew)); exact Kd.R_mono HO_15.out (fun _ hk => ⟨hk.1.1.1.1.1.1, hk.1.1.1.1.1.2.1⟩)⟩, ⟨bel⟩⟩
                 ·
                  as_aux_lemma =>
                   rw [if_neg c69] at H
                   have c69b0 : (t537 == 0) = false := beq_eq_false_iff_ne.mpr c69
                   have c69b1 : (t537 != 0) = true := bne_iff_ne.mpr c69
                   have H' := Aside0.mk H
                   clear H
                   go_wp2
                   go_meet
                   case rel => exact ⟨_, (true), rsz, H', ⟨by have := HJ3.out; have := HJ27.out; first | omega | exact Nat.le_refl _⟩, ⟨by (with_reducible repeat (first | apply Kd.R_alloc | apply Kd.R_drewN | apply Kd.R_drew)); exact Kd.R_mono HO_7.out (fun _ hk => ⟨hk.1.1.1.1.1.1, hk.1.1.1.1.1.2.1⟩)⟩, ⟨by (with_reducible repeat (first | apply Kd.R_alloc | apply Kd.R_drewN | apply Kd.R_drew)); exact Kd.R_mono HO_11.out (fun _ hk => ⟨hk.1.1.1.1.1.1, hk.1.1.1.1.1.2.1⟩)⟩, ⟨by (with_reducible repeat (first | apply Kd.R_alloc | apply Kd.R_drewN | apply Kd.R_drew)); exact Kd.R_mono HO_15.out (fun _ hk => ⟨hk.1.1.1.1.1.1, hk.1.1.1.1.1.2.1⟩)⟩, ⟨bel⟩⟩
                ·
                 as_aux_lemma =>
                  rw [if_neg c68] at H
                  have c68b0 : (t533 == 0) = false := beq_eq_false_iff_ne.mpr c68
                  have c68b1 : (t533 != 0) = true := bne_iff_ne.mpr c68
                  have H' := Aside0.mk H
                  clear H
                  go_wp2
                  go_meet
                  case rel => exact ⟨_, (true), rsz, H', ⟨by have := HJ3.out; have := HJ27.out; first | omega | exact Nat.le_refl _⟩, ⟨by (with_reducible repeat (first | apply Kd.R_alloc | apply Kd.R_drewN | apply Kd.R_drew)); exact Kd.R_mono HO_7.out (fun _ hk => ⟨hk.1.1.1.1.1.1, hk.1.1.1.1.1.2.1⟩)⟩, ⟨by (with_reducible repeat (first | apply Kd.R_alloc | apply Kd.R_drewN | apply Kd.R_drew)); exact Kd.R_mono HO_11.out (fun _ hk => ⟨hk.1.1.1.1.1.1, hk.1.1.1.1.1.2.1⟩)⟩, ⟨by (with_reducible repeat (first | apply Kd.R_alloc | apply Kd.R_drewN | apply Kd.R_drew)); exact Kd.R_mono HO_15.out (fun _ hk => ⟨hk.1.1.1.1.1.1, hk.1.1.1.1.1.2.1⟩)⟩, ⟨bel⟩⟩
               ·
                as_aux_lemma =>
                 rw [if_neg c67] at H
                 have c67b0 : (t529 == 0) = false := beq_eq_false_iff_ne.mpr c67
                 have c67b1 : (t529 != 0) = true := bne_iff_ne.mpr c67
                 have H' := Aside0.mk H
                 clear H
                 go_wp2
                 go_meet
                 case rel => exact ⟨_, (true), rsz, H', ⟨by have := HJ3.out; have := HJ27.out; first | omega | exact Nat.le_refl _⟩, ⟨by (with_reducible repeat (first | apply Kd.R_alloc | apply Kd.R_drewN | apply Kd.R_drew)); exact Kd.R_mono HO_7.out (fun _ hk => ⟨hk.1.1.1.1.1.1, hk.1.1.1.1.1.2.1⟩)⟩, ⟨by (with_reducible repeat (first | apply Kd.R_alloc | apply Kd.R_drewN | apply Kd.R_drew)); exact Kd.R_mono HO_11.out (fun _ hk => ⟨hk.1.1.1.1.1.1, hk.1.1.1.1.1.2.1⟩)⟩, ⟨by (with_reducible repeat (first | apply Kd.R_alloc | apply Kd.R_drewN | apply Kd.R_drew)); exact Kd.R_mono HO_15.out (fun _ hk => ⟨hk.1.1.1.1.1.1, hk.1.1.1.1.1.2.1⟩)⟩, ⟨bel⟩⟩
              ·
               as_aux_lemma =>
                rw [if_neg c66] at H
                have c66b0 : (t525 == 0) = false := beq_eq_false_iff_ne.mpr c66
                have c66b1 : (t525 != 0) = true := bne_iff_ne.mpr c66
                have H' := Aside0.mk H
                clear H
                go_wp2
                go_meet
                case rel => exact ⟨_, (true), rsz, H', ⟨by have := HJ3.out; have := HJ27.out; first | omega | exact Nat.le_refl _⟩, ⟨by (with_reducible repeat (first | apply Kd.R_alloc | apply Kd.R_drewN | apply Kd.R_drew)); exact Kd.R_mono HO_7.out (fun _ hk => ⟨hk.1.1.1.1.1.1, hk.1.1.1.1.1.2.1⟩)⟩, ⟨by (with_reducible repeat (first | apply Kd.R_alloc | apply Kd.R_drewN | apply Kd.R_drew)); exact Kd.R_mono HO_11.out (fun _ hk => ⟨hk.1.1.1.1.1.1, hk.1.1.1.1.1.2.1⟩)⟩, ⟨by (with_reducible repeat (first | apply Kd.R_alloc | apply Kd.R_drewN | apply Kd.R_drew)); exact Kd.R_mono HO_15.out (fun _ hk => ⟨hk.1.1.1.1.1.1, hk.1.1.1.1.1.2.1⟩)⟩, ⟨bel⟩⟩
             ·
              as_aux_lemma =>
               rw [if_neg c65] at H
               have c65b0 : (t521 == 0) = false := beq_eq_false_iff_ne.mpr c65
               have c65b1 : (t521 != 0) = true := bne_iff_ne.mpr c65
               (first | rw [c65b0] | (simp only [i64_w, i32_w]; rw [c65b0]) | skip)
               have H' := Aside0.mk H
               clear H
               go_wp2
               go_meet
               case rel => exact ⟨_, (true), rsz, H', ⟨by have := HJ3.out; have := HJ27.out; first | omega | exact Nat.le_refl _⟩, ⟨by (with_reducible repeat (first | apply Kd.R_alloc | apply Kd.R_drewN | apply Kd.R_drew)); exact Kd.R_mono HO_7.out (fun _ hk => ⟨hk.1.1.1.1.1.1, hk.1.1.1.1.1.2.1⟩)⟩, ⟨by (with_reducible repeat (first | apply Kd.R_alloc | apply Kd.R_drewN | apply Kd.R_drew)); exact Kd.R_mono HO_11.out (fun _ hk => ⟨hk.1.1.1.1.1.1, hk.1.1.1.1.1.2.1⟩)⟩, ⟨by (with_reducible repeat (first | apply Kd.R_alloc | apply Kd.R_drewN | apply Kd.R_drew)); exact Kd.R_mono HO_15.out (fun _ hk => ⟨hk.1.1.1.1.1.1, hk.1.1.1.1.1.2.1⟩)⟩, ⟨bel⟩⟩
           case rest =>
            as_aux_lemma =>
             clear HC56
             (try clear c1); (try clear c2); (try clear p2); (try clear c3); (try clear c4); (try clear c5); (try clear c5b0); (try clear c5b1); (try clear c6); (try clear c6b0); (try clear c6b1); (try clear c7); (try clear c7b0); (try clear c7b1); (try clear c9); (try clear c11); (try clear c19); (try clear c25); (try clear c29); (try clear c31); (try clear c33); (try clear c35); (try clear c35b0); (try clear c35b1); (try clear c36); (try clear c36b0); (try clear c36b1); (try clear c37); (try clear c37b0); (try clear c37b1); (try clear c38); (try clear c38b0); (try clear c38b1); (try clear c39); (try clear c39b0); (try clear c39b1); (try clear c40); (try clear c40b0); (try clear c40b1); (try clear c42); (try clear c50); (try clear c65); (try clear c65b0); (try clear c65b1); (try clear c66); (try clear c66b0); (try clear c66b1); (try clear c67); (try clear c67b0); (try clear c67b1); (try clear c68); (try clear c68b0); (try clear c68b1); (try clear c69); (try clear c69b0); (try clear c69b1); (try clear c71); (try clear c73); (try clear p2)
             obtain ⟨kq, x190_55, rfl, HA, HJ55, HO_7, HO_11, HO_15, HB⟩ := hcut
             cases kq with
             | zero => exact absurd HA.out (by simp [droppertop_TopLays.j2])
             | succ kj55 =>
              have H := HA.out
              clear HA
              simp only [droppertop_TopLays.j2] at H
              by_cases c84 : x190_55 = true
              ·
               subst c84
               rw [if_pos rfl] at H
               exact absurd H (by simp)
              ·
               as_aux_lemma =>
                replace c84 := Bool.eq_false_iff.mpr c84
                subst c84
                rw [if_neg (show ¬ (false = true) by decide)] at H
                replace H := Option.bind_eq_some_iff.mp H
                obtain ⟨t543, A850, H⟩ := H
                try dsimp only at H
                have A85 := Aside0.mk A850
                clear A850
                by_cases c86 : t543 = true
                ·
                 subst c86
                 rw [if_pos rfl] at H
                 replace H := Option.bind_eq_some_iff.mp H
                 obtain ⟨⟨t544, t545⟩, A870, H⟩ := H
                 try dsimp only at H
                 have A87 := Aside0.mk A870
                 clear A870
                 replace H := Option.bind_eq_some_iff.mp H
                 obtain ⟨⟨t546, t547⟩, A880, H⟩ := H
                 try dsimp only at H
                 have A88 := Aside0.mk A880
                 clear A880
                 replace H := Option.bind_eq_some_iff.mp H
                 obtain ⟨⟨t548, t549⟩, A890, H⟩ := H
                 try dsimp only at H
                 have A89 := Aside0.mk A890
                 clear A890
                 replace H := Option.bind_eq_some_iff.mp H
                 obtain ⟨⟨t550, t551⟩, A900, H⟩ := H
                 try dsimp only at H
                 have A90 := Aside0.mk A900
                 clear A900
                 replace H := Option.bind_eq_some_iff.mp H
                 obtain ⟨⟨t552, t553⟩, A910, H⟩ := H
                 try dsimp only at H
                 have A91 := Aside0.mk A910
                 clear A910
                 replace H := Option.bind_eq_some_iff.mp H
                 obtain ⟨⟨t554, t555⟩, A920, H⟩ := H
                 try dsimp only at H
                 have A92 := Aside0.mk A920
                 clear A920
                 by_cases c93 : t545 = 0
                 ·
                  rw [if_pos c93] at H
                  have c93b0 : (t545 == 0) = true := beq_iff_eq.mpr c93
                  have c93b1 : (t545 != 0) = false := bne_eq_false_iff_eq.mpr c93
                  clear c93
                  by_cases c94 : t547 = 0
                  ·
                   rw [if_pos c94] at H
                   have c94b0 : (t547 == 0) = true := beq_iff_eq.mpr c94
                   have c94b1 : (t547 != 0) = false := bne_eq_false_iff_eq.mpr c94
                   clear c94
                   by_cases c95 : t549 = 0
                   ·
                    rw [if_pos c95] at H
                    have c95b0 : (t549 == 0) = true := beq_iff_eq.mpr c95
                    have c95b1 : (t549 != 0) = false := bne_eq_false_iff_eq.mpr c95
                    clear c95
                    by_cases c96 : t551 = 0
                    ·
                     rw [if_pos c96] at H
                     have c96b0 : (t551 == 0) = true := beq_iff_eq.mpr c96
                     have c96b1 : (t551 != 0) = false := bne_eq_false_iff_eq.mpr c96
                     clear c96
                     by_cases c97 : t553 = 0
                     ·
                      rw [if_pos c97] at H
                      have c97b0 : (t553 == 0) = true := beq_iff_eq.mpr c97
                      have c97b1 : (t553 != 0) = false := bne_eq_false_iff_eq.mpr c97
                      clear c97
                      by_cases c98 : t555 = 0
                      ·
                       rw [if_pos c98] at H
                       have c98b0 : (t555 == 0) = true := beq_iff_eq.mpr c98
                       have c98b1 : (t555 != 0) = false := bne_eq_false_iff_eq.mpr c98
                       clear c98
                       replace H := Option.bind_eq_some_iff.mp H
                       obtain ⟨t556, A990, H⟩ := H
                       try dsimp only at H
                       have A99 := Aside0.mk A990
                       clear A990
                       by_cases c100 : (t544 == t556) = true
                       ·
                        rw [if_pos c100] at H
                        have c100b0 : (t544 == t556) = true := c100
                        (try (have c100b1 : decide (t544 = t556) = true := by simpa using c100))
                        (try (have c100b2 : (t544 == t556) = true := by simpa using c100))
                        clear c100
                        by_cases c101 : (wrap64 (t550 + t552)) = (wrap64 (t546 + t548))
                        ·
                         rw [if_pos c101] at H
                         have c101b0 : ((wrap64 (t550 + t552)) == (wrap64 (t546 + t548))) = true := beq_iff_eq.mpr c101
                         have c101b1 : ((wrap64 (t550 + t552)) != (wrap64 (t546 + t548))) = false := bne_eq_false_iff_eq.mpr c101
                         clear c101
                         by_cases c102 : (wrap64 (t546 + t554)) = 100000
                         ·
                          rw [if_pos c102] at H
                          have c102b0 : ((wrap64 (t546 + t554)) == 100000) = true := beq_iff_eq.mpr c102
                          have c102b1 : ((wrap64 (t546 + t554)) != 100000) = false := bne_eq_false_iff_eq.mpr c102
                          clear c102
                          replace H := Option.bind_eq_some_iff.mp H
                          obtain ⟨t557, A1030, H⟩ := H
                          try dsimp only at H
                          have A103 := Aside0.mk A1030
                          clear A1030
                          obtain rfl := Option.some.inj H
                          go_wp2_with (first | ((with_reducible refine gate_callee (f := 39) rfl ?_); refine goesL_ (some 194) rfl rfl Tryd.func39 (by kernel_rfl) rfl #[.slice A0 l0.length c0, .slice A1 l1.length c1, .slice A2 l2.length c2] rfl mapz ?_; (with_reducible refine (droppertop_over.calls kj55 _ _ l0 _ _ l1 _ _ l2 true _ (cbz HR0) HC0.out (cbz HR1) HC1.out (cbz HR2) HC2.out A85.out).mono ?_); rintro e w104 ⟨rfl, hb⟩; refine ⟨_, rfl, ?_⟩; replace HO_7 := Aside0.mk (Kd.R_below (ownx HO_7) hb); replace HO_11 := Aside0.mk (Kd.R_below (ownx HO_11) hb); replace HO_15 := Aside0.mk (Kd.R_below (ownx HO_15) hb); replace HB := Aside0.mk (below_step bel hb); clear hb) | ((with_reducible refine gate_callee (f := 35) rfl ?_); refine goesL_ (some 199) rfl rfl Tryd.func35 (by kernel_rfl) rfl #[.slice A0 l0.length c0, .slice A1 l1.length c1] rfl mapz ?_; (with_reducible refine (mast_Under.calls kj55 _ _ l0 _ _ l1 t544 t545 _ (cbz HR0) HC0.out (cbz HR1) HC1.out A87.out).mono ?_); rintro e w105 ⟨rfl, hb⟩; refine ⟨_, rfl, ?_⟩; replace HO_7 := Aside0.mk (Kd.R_below (ownx HO_7) hb); replace HO_11 := Aside0.mk (Kd.R_below (ownx HO_11) hb); replace HO_15 := Aside0.mk (Kd.R_below (ownx HO_15) hb); replace HB := Aside0.mk (below_step bel hb); clear hb) | ((with_reducible refine gate_callee (f := 19) rfl ?_); refine goesL_ (some 204) rfl rfl Tryd.func19 (by kernel_rfl) rfl #[.slice A0 l0.length c0] rfl mapz ?_; (with_reducible refine (mast_Length.calls kj55 _ _ l0 t546 t547 _ (cbz HR0) HC0.out A88.out).mono ?_); rintro e w106 ⟨rfl, hb⟩; refine ⟨_, rfl, ?_⟩; replace HO_7 := Aside0.mk (Kd.R_below (ownx HO_7) hb); replace HO_11 := Aside0.mk (Kd.R_below (ownx HO_11) hb); replace HO_15 := Aside0.mk (Kd.R_below (ownx HO_15) hb); replace HB := Aside0.mk (below_step bel hb); clear hb) | ((with_reducible refine gate_callee (f := 19) rfl ?_); refine goesL_ (some 209) rfl rfl Tryd.func19 (by kernel_rfl) rfl #[.slice A1 l1.length c1] rfl mapz ?_; (with_reducible refine (mast_Length.calls kj55 _ _ l1 t548 t549 _ (cbz HR1) HC1.out A89.out).mono ?_); rintro e w107 ⟨rfl, hb⟩; refine ⟨_, rfl, ?_⟩; replace HO_7 := Aside0.mk (Kd.R_below (ownx HO_7) hb); replace HO_11 := Aside0.mk (Kd.R_below (ownx HO_11) hb); replace HO_15 := Aside0.mk (Kd.R_below (ownx HO_15) hb); replace HB := Aside0.mk (below_step bel hb); clear hb) | ((with_reducible refine gate_callee (f := 19) rfl ?_); refine goesL_ (some 214) rfl rfl Tryd.func19 (by kernel_rfl) rfl #[.slice Ao59 t494.length co59] rfl mapz ?_; (with_reducible refine (mast_Length.calls kj55 _ _ t494 t550 t551 _ ?side1 ?side2 A90.out).mono ?_); (case side1 => repeat (first | exact (Kd.R_reads' HO_7.out).2.2 | (with_reducible refine Kd.C_alloc ?_ _) | (with_reducible refine Kd.C_drewN ?_ _) | (with_reducible refine Kd.C_drew ?_))); (case side2 => exact (Kd.R_reads' HO_7.out).2.1); rintro e w108 ⟨rfl, hb⟩; refine ⟨_, rfl, ?_⟩; replace HO_7 := Aside0.mk (Kd.R_below (ownx HO_7) hb); replace HO_11 := Aside0.mk (Kd.R_below (ownx HO_11) hb); replace HO_15 := Aside0.mk (Kd.R_below (ownx HO_15) hb); replace HB := Aside0.mk (below_step bel hb); clear hb; obtain ⟨Ao109, co109, eo109⟩ := Kd.R_slice HO_11.out; subst eo109) | ((with_reducible refine gate_callee (f := 19) rfl ?_); refine goesL_ (some 219) rfl rfl Tryd.func19 (by kernel_rfl) rfl #[.slice Ao109 t502.length co109] rfl mapz ?_; (with_reducible refine (mast_Length.calls kj55 _ _ t502 t552 t553 _ ?side1 ?side2 A91.out).mono ?_); (case side1 => repeat (first | exact (Kd.R_reads' HO_11.out).2.2 | (with_reducible refine Kd.C_alloc ?_ _) | (with_reducible refine Kd.C_drewN ?_ _) | (with_reducible refine Kd.C_drew ?_))); (case side2 => exact (Kd.R_reads' HO_11.out).2.1); rintro e w110 ⟨rfl, hb⟩; refine ⟨_, rfl, ?_⟩; replace HO_7 := Aside0.mk (Kd.R_below (ownx HO_7) hb); replace HO_11 := Aside0.mk (Kd.R_below (ownx HO_11) hb); replace HO_15 := Aside0.mk (Kd.R_below (ownx HO_15) hb); replace HB := Aside0.mk (below_step bel hb); clear hb) | ((with_reducible refine gate_callee (f := 19) rfl ?_); refine goesL_ (some 224) rfl rfl Tryd.func19 (by kernel_rfl) rfl #[.slice Ao57 t510.length co57] rfl mapz ?_; (with_reducible refine (mast_Length.calls kj55 _ _ t510 t554 t555 _ ?side1 ?side2 A92.out).mono ?_); (case side1 => repeat (first | exact (Kd.R_reads' HO_15.out).2.2 | (with_reducible refine Kd.C_alloc ?_ _) | (with_reducible refine Kd.C_drewN ?_ _) | (with_reducible refine Kd.C_drew ?_))); (case side2 => exact (Kd.R_reads' HO_15.out).2.1); rintro e w111 ⟨rfl, hb⟩; refine ⟨_, rfl, ?_⟩; replace HO_7 := Aside0.mk (Kd.R_below (ownx HO_7) hb); replace HO_11 := Aside0.mk (Kd.R_below (ownx HO_11) hb); replace HO_15 := Aside0.mk (Kd.R_below (ownx HO_15) hb); replace HB := Aside0.mk (below_step bel hb); clear hb) | (go_at_call 16; (with_reducible refine (dropperlaw01_Same.calls kj55 _ _ t502 _ _ l0 t556 _ ?side1 ?side2 (cbz HR0) HC0.out A99.out).mono ?_); (case side1 => repeat (first | exact (Kd.R_reads' HO_11.out).2.2 | (with_reducible refine Kd.C_alloc ?_ _) | (with_reducible refine Kd.C_drewN ?_ _) | (with_reducible refine Kd.C_drew ?_))); (case side2 => exact (Kd.R_reads' HO_11.out).2.1); rintro e w' ⟨rfl, ⟨nd, rfl⟩⟩) | (go_at_call 11; (with_reducible refine (dropperlaw01_First.calls kj55  t557 _ (tbz HT) A103.out).mono ?_); rintro e w112 ⟨rfl, hb⟩; replace HO_7 := Aside0.mk (Kd.R_below (ownx HO_7) hb); replace HO_11 := Aside0.mk (Kd.R_below (ownx HO_11) hb); replace HO_15 := Aside0.mk (Kd.R_below (ownx HO_15) hb); replace HB := Aside0.mk (below_step bel hb); clear hb))
                          go_ret
                          exact ⟨ezz, bel⟩
                         ·
                          as_aux_lemma =>
                           rw [if_neg c102] at H
                           exact absurd H (by simp)
                        ·
                         as_aux_lemma =>
                          rw [if_neg c101] at H
                          exact absurd H (by simp)
                       ·
                        as_aux_lemma =>
                         rw [if_neg c100] at H
                         exact absurd H (by simp)
                      ·
                       as_aux_lemma =>
                        rw [if_neg c98] at H
                        exact absurd H (by simp)
                     ·
                      as_aux_lemma =>
                       rw [if_neg c97] at H
                       exact absurd H (by simp)
                    ·
                     as_aux_lemma =>
                      rw [if_neg c96] at H
                      exact absurd H (by simp)
                   ·
                    as_aux_lemma =>
                     rw [if_neg c95] at H
                     exact absurd H (by simp)
                  ·
                   as_aux_lemma =>
                    rw [if_neg c94] at H
                    exact absurd H (by simp)
                 ·
                  as_aux_lemma =>
                   rw [if_neg c93] at H
                   exact absurd H (by simp)
                ·
                 as_aux_lemma =>
                  replace c86 := Bool.eq_false_iff.mpr c86
                  subst c86
                  rw [if_neg (show ¬ (false = true) by decide)] at H
                  exact absurd H (by simp)

end Go.Proofs.YtcmdcgghpkcchaaDoor.XMast
-- Written by wip/xprint.py of this repo, over the kit's print.py: out of the translation; the oracles in it are by hand. Not trusted: Lean checks it.
namespace Go.Proofs.YtcmdcgghpkcchaaDoor.XMast
open Go.RowKit Go.Proofs.YtcmdcgghpkcchaaDoor.XMast Go.Proofs.YtcmdcgghpkcchaaDoorW.PrintWords Go.Proofs.YtcmdcgghpkcchaaDoorW.PrintLast Go.Proofs.YtcmdcgghpkcchaaDoorW.PrintMore
def droppertop_TopLays.Pure : Prop := ∀ (l0 : List (S46)) (l1 : List (S46)) (l2 : List (S46)), (l0.length ≤ 9223372036854775807 ∧ ∀ y0 ∈ l0, ((Lit.int .i64 y0.f0).wf = true) ∧ ((Lit.int .i64 y0.f1).wf = true)) → (l1.length ≤ 9223372036854775807 ∧ ∀ y0 ∈ l1, ((Lit.int .i64 y0.f0).wf = true) ∧ ((Lit.int .i64 y0.f1).wf = true)) → (l2.length ≤ 9223372036854775807 ∧ ∀ y0 ∈ l2, ((Lit.int .i64 y0.f0).wf = true) ∧ ((Lit.int .i64 y0.f1).wf = true)) → ∃ k, droppertop_TopLays.f k l0 l1 l2 = some true
end Go.Proofs.YtcmdcgghpkcchaaDoor.XMast

/- The rules of lays: joined and both are turned, a rest's rest, each over the other one, and the lengths. -/
namespace Go.Proofs.YtcmdcgghpkcchaaDoor.Pure
set_option linter.unusedVariables false
set_option linter.unusedSimpArgs false
open Go.RowKit Go.Proofs.YtcmdcgghpkcchaaDoor.XMast Go.Proofs.YtcmdcgghpkcchaaDoorW.PrintWords Go.Proofs.YtcmdcgghpkcchaaDoorW.PrintLast Go.Proofs.YtcmdcgghpkcchaaDoorW.PrintMore
open Go.Proofs.YtcmdcgghpkcchaaDoor.Lay
theorem same_of {a b : List St} (h : a = b) (hl : a.length ≤ 60) : Ev (fun k => dropperlaw01_Same.f k a b) true := by
 subst h
 exact same_refl a (by omega)
theorem over_ {a b c : List St} (ha : Ok a) (hb : Ok b) (hc : Ok c) (la : a.length ≤ 15) (lb : b.length ≤ 15) (lc : c.length ≤ 15) : Ev (fun k => droppertop_over.f k a b c) true := by
 obtain ⟨j1, j2⟩ := join_ev hb hc (by omega)
 obtain ⟨b1, b2⟩ := both_ev' hb hc (by omega)
 obtain ⟨x1, x2⟩ := both_ev' ha hb (by omega)
 obtain ⟨y1, y2⟩ := both_ev' ha hc (by omega)
 have lj := join_len hb hc
 have lbo := both_len hb hc
 have lx := both_len ha hb
 have ly := both_len ha hc
 have cj := join_cov hb hc
 have cb := both_cov hb hc
 have cx := both_cov ha hb
 have cy := both_cov ha hc
 obtain ⟨p1, p2⟩ := both_ev' ha j1 (by omega)
 obtain ⟨q1, q2⟩ := join_ev x1 y1 (by omega)
 obtain ⟨r1, r2⟩ := join_ev ha hb (by omega)
 obtain ⟨s1, s2⟩ := join_ev ha hc (by omega)
 have lr := join_len ha hb
 have ls := join_len ha hc
 have cr := join_cov ha hb
 have cs := join_cov ha hc
 obtain ⟨t1, t2⟩ := join_ev ha b1 (by omega)
 obtain ⟨u1, u2⟩ := both_ev' r1 s1 (by omega)
 have e1 : bothL mast_Both.p a (bothL mast_Join.p b c) = bothL mast_Join.p (bothL mast_Both.p a b) (bothL mast_Both.p a c) :=
  (both_cov ha j1).same (join_cov x1 y1) (fun x h0 h1 => by
   rw [cj.2, cx.2, cy.2]
   constructor
   ·
    rintro ⟨h2, _, _, h3 | h3⟩
    ·
     exact .inl ⟨h0, h1, h2, h3⟩
    ·
     exact .inr ⟨h0, h1, h2, h3⟩
   ·
    rintro (⟨_, _, h2, h3⟩ | ⟨_, _, h2, h3⟩)
    ·
     exact ⟨h2, h0, h1, .inl h3⟩
    ·
     exact ⟨h2, h0, h1, .inr h3⟩)
 have e2 : bothL mast_Join.p a (bothL mast_Both.p b c) = bothL mast_Both.p (bothL mast_Join.p a b) (bothL mast_Join.p a c) :=
  (join_cov ha b1).same (both_cov r1 s1) (fun x h0 h1 => by
   rw [cb.2, cr.2, cs.2]
   constructor
   ·
    rintro (h2 | ⟨_, _, h2, h3⟩)
    ·
     exact ⟨⟨h0, h1, .inl h2⟩, ⟨h0, h1, .inl h2⟩⟩
    ·
     exact ⟨⟨h0, h1, .inr h2⟩, ⟨h0, h1, .inr h3⟩⟩
   ·
    rintro ⟨⟨_, _, h2⟩, ⟨_, _, h3⟩⟩
    rcases h2 with h2 | h2
    ·
     exact .inl h2
    ·
     rcases h3 with h3 | h3
     ·
      exact .inl h3
     ·
      exact .inr ⟨h0, h1, h2, h3⟩)
 unfold droppertop_over.f
 refine Ev.bind j2 (Ev.bind b2 (Ev.bind x2 (Ev.bind y2 (ev_pos rfl (ev_pos rfl (ev_pos rfl ?_))))))
 refine Ev.step (fun k => by rw [droppertop_over.j0]) (ev_neg (by simp) (Ev.bind p2 (Ev.bind q2 (ev_pos rfl (ev_pos rfl (Ev.bind (same_of e1 p1.2) ?_))))))
 refine Ev.step (fun k => by rw [droppertop_over.j1]) (ev_neg (by simp) (Ev.bind r2 (Ev.bind s2 (ev_pos rfl ?_))))
 refine Ev.step (fun k => by rw [droppertop_over.j2]) (ev_neg (by simp) (Ev.bind t2 (Ev.bind u2 (ev_pos rfl (ev_pos rfl (Ev.bind (same_of e2 t1.2) (Ev.now _)))))))
theorem tot_two {a b c d : List St} (ha : Norm a) (hb : Norm b) (hc : Norm c) (hd : Norm d) (h : ∀ x, 0 ≤ x → x < 100000 → cnt a x + cnt b x = cnt c x + cnt d x) : tot a + tot b = tot c + tot d := by
 rw [tot_S a ha.isSt, tot_S b hb.isSt, tot_S c hc.isSt, tot_S d hd.isSt, ← S_add, ← S_add]
 exact S_congr _ (fun x h0 h1 => h x h0 (by omega))
theorem main_ {a b c : List St} (ha : Ok a) (hb : Ok b) (hc : Ok c) (la : a.length ≤ 15) (lb : b.length ≤ 15) (lc : c.length ≤ 15) : Ev (fun k => droppertop_TopLays.j0 k a b c false) true := by
 obtain ⟨j1, j2⟩ := join_ev ha hb (by omega)
 obtain ⟨t1, t2⟩ := join_ev hb ha (by omega)
 obtain ⟨b1, b2⟩ := both_ev' ha hb (by omega)
 obtain ⟨k1, k2⟩ := both_ev' hb ha (by omega)
 obtain ⟨r1, r2⟩ := rest_ev ha (by omega)
 obtain ⟨o1, o2⟩ := rest_ev hb (by omega)
 have lj := join_len ha hb
 have lbo := both_len ha hb
 have lr := rest_len ha
 have lo := rest_len hb
 have cj := join_cov ha hb
 have cb := both_cov ha hb
 have cr := rest_cov ha
 have co := rest_cov hb
 obtain ⟨ag1, ag2⟩ := rest_ev r1 (by omega)
 obtain ⟨no1, no2⟩ := rest_ev j1 (by omega)
 obtain ⟨ne1, ne2⟩ := both_ev' r1 o1 (by omega)
 obtain ⟨le1, le2⟩ := less_ev ha hb (by omega)
 obtain ⟨on1, on2⟩ := both_ev' ha o1 (by omega)
 have ea : IsLay (cov a) a := ⟨ha.1, fun x => ⟨fun h => ⟨(cov_in ha.1 h).1, (cov_in ha.1 h).2, h⟩, fun h => h.2.2⟩⟩
 have e1 : bothL mast_Join.p a b = bothL mast_Join.p b a := cj.same (join_cov hb ha) (fun x _ _ => Or.comm)
 have e2 : bothL mast_Both.p a b = bothL mast_Both.p b a := cb.same (both_cov hb ha) (fun x _ _ => And.comm)
 have e3 : bothL mast_Rest.p (bothL mast_Rest.p a []) [] = a := (rest_cov r1).same ea (fun x h0 h1 => by
  rw [cr.2]
  exact ⟨fun h => Classical.byContradiction fun h2 => h ⟨h0, h1, h2⟩, fun h h2 => h2.2.2 h⟩)
 have e4 : bothL mast_Rest.p (bothL mast_Join.p a b) [] = bothL mast_Both.p (bothL mast_Rest.p a []) (bothL mast_Rest.p b []) := (rest_cov j1).same (both_cov r1 o1) (fun x h0 h1 => by
  rw [cr.2, co.2, cj.2]
  exact ⟨fun h => ⟨⟨h0, h1, fun h2 => h ⟨h0, h1, .inl h2⟩⟩, ⟨h0, h1, fun h2 => h ⟨h0, h1, .inr h2⟩⟩⟩, fun h h2 => h2.2.2.elim h.1.2.2 h.2.2.2⟩)
 have e5 : bothL mast_Without.p a b = bothL mast_Both.p a (bothL mast_Rest.p b []) := (less_cov ha hb).same (both_cov ha o1) (fun x h0 h1 => by
  rw [co.2]
  exact ⟨fun h => ⟨h.1, h0, h1, h.2⟩, fun h => ⟨h.1, h.2.2.2⟩⟩)
 have t3 : tot (bothL mast_Join.p a b) + tot (bothL mast_Both.p a b) = tot a + tot b := tot_two cj.1 cb.1 ha.1 hb.1 (fun x h0 h1 => by
  have hj := cj.2 x
  have hb2 := cb.2 x
  rcases cj.1.cnt_cov x with ⟨p1, p2⟩ | ⟨p1, p2⟩ <;> rcases cb.1.cnt_cov x with ⟨q1, q2⟩ | ⟨q1, q2⟩ <;> rcases ha.1.cnt_cov x with ⟨r1, r2⟩ | ⟨r1, r2⟩ <;> rcases hb.1.cnt_cov x with ⟨s1, s2⟩ | ⟨s1, s2⟩ <;> simp only [p1, q1, r1, s1, h0, h1, true_and, true_or, or_true, and_true, or_self, and_self, iff_self, iff_true, iff_false, not_true_eq_false, not_false_eq_true, false_or, or_false, and_false, false_and, true_iff, false_iff] at hj hb2 <;> omega)
 have t4 : tot a + tot (bothL mast_Rest.p a []) = 100000 := by
  rw [tot_S a ha.1.isSt, tot_S _ cr.1.isSt, ← S_add]
  refine (S_congr (g := fun _ => 1) _ (fun x h0 h1 => ?_)).trans (S_one 100000)
  have hr := cr.2 x
  have h1' : x < 100000 := by omega
  rcases ha.1.cnt_cov x with ⟨p1, p2⟩ | ⟨p1, p2⟩ <;> rcases cr.1.cnt_cov x with ⟨q1, q2⟩ | ⟨q1, q2⟩ <;> simp only [p1, q1, h0, h1', true_and, and_true, iff_true, iff_false, not_true_eq_false, not_false_eq_true, and_false, false_iff, true_iff] at hr <;> omega
 have ba := tot_bound a ha.1.isSt
 have bb := tot_bound b hb.1.isSt
 have bj := tot_bound _ cj.1.isSt
 have bbo := tot_bound _ cb.1.isSt
 have br := tot_bound _ cr.1.isSt
 obtain ⟨sm, sm1, sm2⟩ := same_iff (bothL mast_Both.p a b) a (by omega)
 have hu : (!(a.any (mast_Under.bad b))) = sm := by
  rw [Bool.eq_iff_iff, under_iff ha hb, sm2]
  constructor
  ·
   intro h
   exact cb.same ea (fun x _ _ => ⟨fun h2 => h2.1, fun h2 => ⟨h2, h x h2⟩⟩)
  ·
   intro h x hx
   rw [← h] at hx
   exact ((cb.2 x).1 hx).2.2.2
 have hun := Under_ok ha hb
 rw [hu] at hun
 refine Ev.step (fun k => by rw [droppertop_TopLays.j0]) (ev_neg (by simp) (Ev.bind j2 (Ev.bind t2 (Ev.bind b2 (Ev.bind k2 (Ev.bind r2 (Ev.bind o2 (ev_pos rfl (ev_pos rfl (ev_pos rfl (ev_pos rfl (ev_pos rfl (ev_pos rfl (Ev.bind (same_of e1 j1.2) (ev_pos rfl (Ev.bind (same_of e2 b1.2) ?_))))))))))))))))
 refine Ev.step (fun k => by rw [droppertop_TopLays.j1]) (ev_neg (by simp) (Ev.bind ag2 (Ev.bind no2 (Ev.bind ne2 (Ev.bind le2 (Ev.bind on2 (ev_pos rfl (ev_pos rfl (ev_pos rfl (ev_pos rfl (ev_pos rfl (Ev.bind (same_of e3 ag1.2) (ev_pos rfl (Ev.bind (same_of e4 no1.2) (ev_pos rfl (Ev.bind (same_of e5 le1.2) ?_))))))))))))))))
 refine Ev.step (fun k => by rw [droppertop_TopLays.j2]) (ev_neg (by simp) (Ev.bind (over_ ha hb hc la lb lc) (ev_pos rfl (Ev.bind hun (Ev.bind (Length_ a ha) (Ev.bind (Length_ b hb) (Ev.bind (Length_ _ j1) (Ev.bind (Length_ _ b1) (Ev.bind (Length_ _ r1) (ev_pos rfl (ev_pos rfl (ev_pos rfl (ev_pos rfl (ev_pos rfl (ev_pos rfl (Ev.bind sm1 (ev_pos (beq_self_eq_true sm) (ev_pos ?_ (ev_pos ?_ (Ev.bind first_ev (Ev.now _)))))))))))))))))))))
 ·
  show wrap64 (tot (bothL mast_Join.p a b) + tot (bothL mast_Both.p a b)) = wrap64 (tot a + tot b)
  rw [t3]
 ·
  show wrap64 (tot a + tot (bothL mast_Rest.p a [])) = 100000
  rw [t4]
  exact wrap_id (by decide) (by decide)
theorem TopLays : droppertop_TopLays.Pure := by
 intro a b c _ _ _
 refine Ev.rounds (r := true) (g := fun k => droppertop_TopLays.f k a b c) ?_
 have out : Ev (fun k => droppertop_TopLays.j0 k a b c true) true := Ev.step (fun k => by rw [droppertop_TopLays.j0]) (ev_pos rfl (Ev.bind first_ev (Ev.now _)))
 unfold droppertop_TopLays.f
 by_cases la : (a.length : Int) > 15
 ·
  exact ev_pos la out
 by_cases lb : (b.length : Int) > 15
 ·
  exact ev_neg la (ev_pos lb out)
 by_cases lc : (c.length : Int) > 15
 ·
  exact ev_neg la (ev_neg lb (ev_pos lc out))
 refine ev_neg la (ev_neg lb (ev_neg lc (Ev.bind (rvalid a (by omega)) ?_)))
 by_cases ha : okB a = true
 ·
  refine ev_pos ha (Ev.bind (rvalid b (by omega)) ?_)
  by_cases hb : okB b = true
  ·
   refine ev_pos hb (Ev.bind (rvalid c (by omega)) ?_)
   by_cases hc : okB c = true
   ·
    rw [hc]
    exact main_ ((okB_iff a).1 ha) ((okB_iff b).1 hb) ((okB_iff c).1 hc) (by omega) (by omega) (by omega)
   ·
    rw [Bool.not_eq_true] at hc
    rw [hc]
    exact out
  ·
   exact ev_neg hb out
 ·
  exact ev_neg ha out
end Go.Proofs.YtcmdcgghpkcchaaDoor.Pure

-- Written by wip/xprint.py of this repo, over the kit's print.py: out of the translation; the oracles in it are by hand. Not trusted: Lean checks it.
namespace Go.Proofs.YtcmdcgghpkcchaaDoor.topLays
open Go.ChangeShapes Go.WideShapes Go.ChangeAt Go.RowKit Go.Proofs.YtcmdcgghpkcchaaDoor.Open Go.Proofs.YtcmdcgghpkcchaaDoor.XMast Go.Proofs.YtcmdcgghpkcchaaDoorW.PrintWords Go.Proofs.YtcmdcgghpkcchaaDoorW.PrintLast Go.Proofs.YtcmdcgghpkcchaaDoorW.PrintMore
open Go.ChangeMaps (open_string shut_string)
set_option linter.unusedVariables false
set_option linter.unusedSimpArgs false
theorem own : ownKnob Tryd.prog.godebug = none := by kernel_rfl
theorem laidOut : laidOutB Tryd.prog = true := by kernel_rfl
set_option maxRecDepth 100000 in
theorem lifted (os : Os) (started : os.Started) (H : Type) (enc : TypeId × Value → H) :
  ReturnsInHanded {} Tryd.checked os 9 .any (fun w args => (Rows.topLaysSpec.pre enc Tryd.prog Tryd.f9 [] false w args ∧ laidMetH Tryd.prog Laid.laid2 w) ∧ sizedMet enc Tryd.prog Tryd.f9 (OpenSpec.ofChange Rows.topLaysSpec) false w args) (Rows.topLaysSpec.post enc Tryd.prog Tryd.f9 false true false false) := by
 refine returnsInHanded_of_change_and (C := Tryd.checked) (X := fun w _ => laidMetH Tryd.prog Laid.laid2 w) (fun _ _ _ hh h => h.of_heap hh) own started (by kernel_rfl) Tryd.func9
  (ChangeSpec.witness_shaped (enc := enc) (C := Tryd.checked) (os := os) (X := fun w _ => laidMetH Tryd.prog Laid.laid2 w) false (World.doorLaid Tryd.prog 4000 os) #[.slice none 0 0, .slice none 0 0, .slice none 0 0] 8 rfl (World.shaped_of_RefB (by kernel_rfl) (by kernel_rfl)) (by kernel_rfl) (by kernel_rfl) (by kernel_rfl) (Laid.door_met os _)) ?_
 intro W base args ds gs before hval0 hW hcnd hsz0 hL _
 have hval : ∀ (j : Nat) t v, Tryd.f9.params[j]? = some t → args[j]? = some v → Value.okWide Tryd.prog W .any base t v := hval0
 have hW' := hW
 obtain ⟨p, q, hA0, hV, rfl, hfz, hnd⟩ := hW
 have hA : DataW.TrodAll enc Tryd.prog W 0 (fun _ => true) true Tryd.f9.params.toList args.toList ds p := hA0
 rw [Tryd.params9] at hA hval
 obtain ⟨v0, vs0, d0, ds0, p0, q0, hargs, rfl, rfl, h0, r0⟩ := trodAll_cons hA
 obtain ⟨v1, vs1, d1, ds1, p1, q1, rfl, rfl, rfl, h1, r1⟩ := trodAll_cons r0
 obtain ⟨v2, vs2, d2, ds2, p2, q2, rfl, rfl, rfl, h2, r2⟩ := trodAll_cons r1
 obtain ⟨rfl, rfl, rfl⟩ := trodAll_nil r2
 obtain rfl : args = #[v0, v1, v2] := by cases args; simp_all
 obtain ⟨rfl, rfl⟩ := trodVars_none hV
 obtain ⟨b0, len0, cap0, rfl⟩ := okWide_slice Tryd.underlying22 (hval 0 22 v0 rfl rfl)
 have k0 := h0
 have lt0 : ∀ x ∈ p0, x.block < W.heap.size := by obtain ⟨m, hm⟩ := k0; exact DataW.trod_lt m _ _ _ hm
 obtain ⟨fuel0, hf0⟩ := h0
 obtain ⟨l0, ⟨A0, c0, hcs0, hc0, hr0⟩, hg0⟩ := (opens_slice Tryd.underlying22 (opens_iso (f := fun x : S46 => (x.f0, x.f1)) (fun p => ⟨p.1, p.2⟩) (fun _ => rfl) (opens_struct Tryd.underlying46 (by kernel_rfl) (opensF_cons rfl (by kernel_rfl) (opens_int Tryd.underlying3) (opensF_one rfl (by kernel_rfl) (opens_int Tryd.underlying3))))) (by kernel_rfl)) H enc W fuel0 _ _ hf0
 simp [Value.cells] at hcs0
 obtain ⟨rfl, rfl, rfl⟩ := hcs0
 obtain ⟨b1, len1, cap1, rfl⟩ := okWide_slice Tryd.underlying22 (hval 1 22 v1 rfl rfl)
 have k1 := h1
 have lt1 : ∀ x ∈ p1, x.block < W.heap.size := by obtain ⟨m, hm⟩ := k1; exact DataW.trod_lt m _ _ _ hm
 obtain ⟨fuel1, hf1⟩ := h1
 obtain ⟨l1, ⟨A1, c1, hcs1, hc1, hr1⟩, hg1⟩ := (opens_slice Tryd.underlying22 (opens_iso (f := fun x : S46 => (x.f0, x.f1)) (fun p => ⟨p.1, p.2⟩) (fun _ => rfl) (opens_struct Tryd.underlying46 (by kernel_rfl) (opensF_cons rfl (by kernel_rfl) (opens_int Tryd.underlying3) (opensF_one rfl (by kernel_rfl) (opens_int Tryd.underlying3))))) (by kernel_rfl)) H enc W fuel1 _ _ hf1
 simp [Value.cells] at hcs1
 obtain ⟨rfl, rfl, rfl⟩ := hcs1
 obtain ⟨b2, len2, cap2, rfl⟩ := okWide_slice Tryd.underlying22 (hval 2 22 v2 rfl rfl)
 have k2 := h2
 have lt2 : ∀ x ∈ p2, x.block < W.heap.size := by obtain ⟨m, hm⟩ := k2; exact DataW.trod_lt m _ _ _ hm
 obtain ⟨fuel2, hf2⟩ := h2
 obtain ⟨l2, ⟨A2, c2, hcs2, hc2, hr2⟩, hg2⟩ := (opens_slice Tryd.underlying22 (opens_iso (f := fun x : S46 => (x.f0, x.f1)) (fun p => ⟨p.1, p.2⟩) (fun _ => rfl) (opens_struct Tryd.underlying46 (by kernel_rfl) (opensF_cons rfl (by kernel_rfl) (opens_int Tryd.underlying3) (opensF_one rfl (by kernel_rfl) (opens_int Tryd.underlying3))))) (by kernel_rfl)) H enc W fuel2 _ _ hf2
 simp [Value.cells] at hcs2
 obtain ⟨rfl, rfl, rfl⟩ := hcs2
 clear hA0 hval0 hsz0
 obtain ⟨k, h⟩ := Pure.TopLays l0 l1 l2 hg0 hg1 hg2
 refine (droppertop_TopLays.calls k _ _ l0 _ _ l1 _ _ l2 true W hr0 hc0 hr1 hc1 hr2 hc2 (Laid.tabs_of hL) h).mono fun e W' ⟨he, bel0⟩ => ?_
 have bel : Below W.heap.size W W' := bel0
 subst he
 exact ⟨_, rfl, _, _, _, [], _, [], hW', trodAll_mk1 (shut_bool Tryd.underlying4 _), (trodAll_cons_mk (Below.trod laidOut (by kernel_rfl) (of_decide_eq_true (by kernel_rfl)) k0 bel lt0) (trodAll_cons_mk (Below.trod laidOut (by kernel_rfl) (of_decide_eq_true (by kernel_rfl)) k1 bel lt1) (trodAll_cons_mk (Below.trod laidOut (by kernel_rfl) (of_decide_eq_true (by kernel_rfl)) k2 bel lt2) trodAll_mk0))), rfl, bel.frame _, fun h => by cases h⟩
theorem over : Rows.topLaysRow.holds Tryd.pinned (OpenSpec.ofChange Rows.topLaysSpec) :=
 OpenClaim.holds_of_wide 9 Tryd.f9 rfl rfl rfl rfl rfl rfl rfl ⟨rfl, rfl, rfl, rfl, rfl⟩ rfl rfl rfl rfl rfl (by kernel_rfl) Tryd.func9 (by kernel_rfl)
  (of_decide_eq_true (by kernel_rfl)) (by unfold Func.isWrapper; first | (rw [if_pos (by decide +kernel)]; kernel_rfl) | (rw [if_neg (by decide +kernel)]; exact ⟨rfl, rfl⟩))
  (fun os started H enc _ => lifted os started H enc)
theorem card_holds : Rows.TopLaysCardSaid :=
 Claim7.holds_tied_plain_at .later [] [.data, .data, .data] true (true, "d919e17aca2791b8c412353f2b117ae8d034433952b93dc40eac1d6d377e885d") false
  over (fun _ h => by cases h) (by kernel_rfl) (fun _ h => by cases h) topLays_row_tie rfl ⟨rfl, rfl⟩ (by kernel_rfl) rfl
  (fun f fn hf hfn => by
   obtain rfl : f = 9 := Option.some.inj ((show Tryd.prog.funcNamed "dropper/droppertop.TopLays" = some 9 by kernel_rfl).symm.trans hf) |>.symm
   obtain rfl : fn = Tryd.f9 := (Option.some.inj (Tryd.func9.symm.trans hfn)).symm
   exact ⟨by kernel_rfl, fun j t ht => by
    rw [Tryd.params9] at ht
    have hall : ∀ t ∈ (#[22, 22, 22] : Array TypeId), Tryd.prog.wantsStandIn t = false := by decide +kernel
    exact hall t (Array.mem_of_getElem? ht)⟩)
  (by kernel_rfl)
#print axioms card_holds
end Go.Proofs.YtcmdcgghpkcchaaDoor.topLays
namespace Go.Proofs.YtcmdcgghpkcchaaDoor
theorem topLays_holds : Rows.TopLaysCardSaid := topLays.card_holds
end Go.Proofs.YtcmdcgghpkcchaaDoor
