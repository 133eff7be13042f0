-- Written by wip/pack.py of this repo: texts of this claim, put together.
import Derived.DataReads
import Derived.OpenShut
import Derived.ChangeArms
import Derived.Test.YtcmdcgghpkcchaaDoorRows
import Derived.ProofKit
import Derived.LaidMore
import Derived.Stop.Joined
import Derived.Lib.LaidTab
import Derived.Test.YtcmdcgghpkcchaaDoorKMastd
namespace Go.Proofs.YtcmdcgghpkcchaaDoor.XMast
open Go.RowKit Go.Proofs.YtcmdcgghpkcchaaDoorW.PrintWords Go.Proofs.YtcmdcgghpkcchaaDoorW.PrintLast Go.Proofs.YtcmdcgghpkcchaaDoorW.PrintMore
attribute [local go_sem] max2_int min2_int max_two min_two max_three min_three max_four min_four   -- for this text's walks alone
set_option linter.unusedVariables false
set_option linter.unusedSimpArgs false
/-! ### dropperref01_together: function 56 -/
mutual
def dropperref01_together.j0 : Nat → List (S46) → List (S46) → Int → Bool → Option ((List (S46)) × Int)
 | 0, _, _, _, _ => none
 | k + 1, x0, x1, x2, x20 => if x20 = true then (some (([] : List (S46)), 10)) else ((dropperref01_bounds.f x0 x1).bind fun t264 => (dropperref01_together.l0 k x0 x1 x2 t264 ([] : List Bool) 0))
def dropperref01_together.l0 : Nat → List (S46) → List (S46) → Int → List Int → List Bool → Int → Option ((List (S46)) × Int)
 | 0, _, _, _, _, _, _ => none
 | k + 1, x0, x1, x2, x8, x9, x10 => if x10 < (x8.length : Int) then (if 0 ≤ x10 then ((dropperref01_depth.f k x0 (rd x8 x10)).bind fun t268 => ((dropperref01_depth.f k x1 (rd x8 x10)).bind fun t270 => (if x2 = 1 then (if t268 > 0 then (if x9.length < 140737488355328 then (dropperref01_together.l0 k x0 x1 x2 x8 (x9 ++ [true]) (wrap64 (x10 + 1))) else (none)) else (if t270 > 0 then (if x9.length < 140737488355328 then (dropperref01_together.l0 k x0 x1 x2 x8 (x9 ++ [true]) (wrap64 (x10 + 1))) else (none)) else (if x2 = 2 then (if x2 = 3 then (if x9.length < 140737488355328 then (dropperref01_together.l0 k x0 x1 x2 x8 (x9 ++ [false]) (wrap64 (x10 + 1))) else (none)) else (if x9.length < 140737488355328 then (dropperref01_together.l0 k x0 x1 x2 x8 (x9 ++ [false]) (wrap64 (x10 + 1))) else (none))) else (if x2 = 3 then (if x9.length < 140737488355328 then (dropperref01_together.l0 k x0 x1 x2 x8 (x9 ++ [false]) (wrap64 (x10 + 1))) else (none)) else (if x9.length < 140737488355328 then (dropperref01_together.l0 k x0 x1 x2 x8 (x9 ++ [false]) (wrap64 (x10 + 1))) else (none)))))) else (if x2 = 2 then (if t268 > 0 then (if t270 > 0 then (if x9.length < 140737488355328 then (dropperref01_together.l0 k x0 x1 x2 x8 (x9 ++ [true]) (wrap64 (x10 + 1))) else (none)) else (if x2 = 3 then (if x9.length < 140737488355328 then (dropperref01_together.l0 k x0 x1 x2 x8 (x9 ++ [!(decide (t270 > 0))]) (wrap64 (x10 + 1))) else (none)) else (if x9.length < 140737488355328 then (dropperref01_together.l0 k x0 x1 x2 x8 (x9 ++ [false]) (wrap64 (x10 + 1))) else (none)))) else (if x2 = 3 then (if x9.length < 140737488355328 then (dropperref01_together.l0 k x0 x1 x2 x8 (x9 ++ [false]) (wrap64 (x10 + 1))) else (none)) else (if x9.length < 140737488355328 then (dropperref01_together.l0 k x0 x1 x2 x8 (x9 ++ [false]) (wrap64 (x10 + 1))) else (none)))) else (if x2 = 3 then (if t268 > 0 then (if x9.length < 140737488355328 then (dropperref01_together.l0 k x0 x1 x2 x8 (x9 ++ [!(decide (t270 > 0))]) (wrap64 (x10 + 1))) else (none)) else (if x9.length < 140737488355328 then (dropperref01_together.l0 k x0 x1 x2 x8 (x9 ++ [false]) (wrap64 (x10 + 1))) else (none))) else (if x9.length < 140737488355328 then (dropperref01_together.l0 k x0 x1 x2 x8 (x9 ++ [false]) (wrap64 (x10 + 1))) else (none))))))) else (none)) else ((dropperref01_made.f k x8 x9).bind fun bt313 => (some (bt313.1, bt313.2)))
end
def dropperref01_together.f (k : Nat) (l0 : List (S46)) (l1 : List (S46)) (a2 : Int) : Option ((List (S46)) × Int) := (dropperref01_Valid.f k l0).bind fun t262 => (if t262 = true then ((dropperref01_Valid.f k l1).bind fun t263 => (dropperref01_together.j0 k l0 l1 a2 (!t263))) else (dropperref01_together.j0 k l0 l1 a2 true))
set_option maxHeartbeats 8000000 in
set_option maxRecDepth 100000 in
theorem dropperref01_together.calls (k : Nat) (A0 : Option Addr) (c0 : Nat) (l0 : List (S46)) (A1 : Option Addr) (c1 : Nat) (l1 : List (S46)) (a2 : Int) (r1 : List (S46)) (r2 : Int) (w : World) (hr0 : Kd.C k46 w A0 l0.length l0) (hc0 : l0.length ≤ c0) (hr1 : Kd.C k46 w A1 l1.length l1) (hc1 : l1.length ≤ c1) (h : dropperref01_together.f k l0 l1 a2 = some (r1, r2)) :
  Calls Tryd.prog 56 #[.slice A0 l0.length c0, .slice A1 l1.length c1, .int .i64 a2] w fun e w' => ∃ v0_ : Value, e = .returned (.tuple #[v0_, .int .i64 r2]) ∧ Kd.R k46 46 w' w.heap.size (fun _ => True) v0_ r1 ∧ Below w.heap.size w w' := by
 have HR0 := Aside0.mk hr0
 have HC0 := Aside0.mk hc0
 clear hr0 hc0
 have HR1 := Aside0.mk hr1
 have HC1 := Aside0.mk hc1
 clear hr1 hc1
 have HB := Aside0.mk (Below.refl w.heap.size w)
 have H : ((dropperref01_Valid.f k l0).bind fun t262 => (if t262 = true then ((dropperref01_Valid.f k l1).bind fun t263 => (dropperref01_together.j0 k l0 l1 a2 (!t263))) else (dropperref01_together.j0 k l0 l1 a2 true))) = some (r1, r2) := h
 clear h
 have HC4 := Aside0.mk H
 clear H
 go_enter Tryd.func56, Tryd.ntmps56
 go_upto_region 1 with (fail)
 repeat (go_quiet (fail); go_upto_region 1 with (fail))
 go_cut [20] (fun v20 wc => ∃ (kq : Nat) (x20_3 : Bool), v20 = .bool x20_3 ∧ Aside0 (dropperref01_together.j0 kq l0 l1 a2 x20_3 = some (r1, r2)) ∧ Aside0 (kq ≤ k) ∧ Aside0 (Below w.heap.size w wc))
 case first =>
  have H := HC4.out
  clear HC4
  replace H := Option.bind_eq_some_iff.mp H
  obtain ⟨t262, A50, H⟩ := H
  try dsimp only at H
  have A5 := Aside0.mk A50
  clear A50
  by_cases c6 : t262 = true
  ·
   subst c6
   rw [if_pos rfl] at H
   replace H := Option.bind_eq_some_iff.mp H
   obtain ⟨t263, A70, H⟩ := H
   try dsimp only at H
   have A7 := Aside0.mk A70
   clear A70
   have H' := Aside0.mk H
   clear H
   go_wp2_with (first | (go_at_call 37; (with_reducible refine (dropperref01_Valid.calls k _ _ l0 true _ (cbz HR0) HC0.out A5.out).mono ?_); rintro e w8 ⟨rfl, hb⟩; replace HB := Aside0.mk (below_step bel hb); clear hb) | (go_at_call 37; (with_reducible refine (dropperref01_Valid.calls k _ _ l1 t263 _ (cbz HR1) HC1.out A7.out).mono ?_); rintro e w9 ⟨rfl, hb⟩; replace HB := Aside0.mk (below_step bel hb); clear hb))
   repeat (go_quiet (first | (go_at_call 37; (with_reducible refine (dropperref01_Valid.calls k _ _ l0 true _ (cbz HR0) HC0.out A5.out).mono ?_); rintro e w8 ⟨rfl, hb⟩; replace HB := Aside0.mk (below_step bel hb); clear hb) | (go_at_call 37; (with_reducible refine (dropperref01_Valid.calls k _ _ l1 t263 _ (cbz HR1) HC1.out A7.out).mono ?_); rintro e w9 ⟨rfl, hb⟩; replace HB := Aside0.mk (below_step bel hb); clear hb)); try go_wp2_with (first | (go_at_call 37; (with_reducible refine (dropperref01_Valid.calls k _ _ l0 true _ (cbz HR0) HC0.out A5.out).mono ?_); rintro e w8 ⟨rfl, hb⟩; replace HB := Aside0.mk (below_step bel hb); clear hb) | (go_at_call 37; (with_reducible refine (dropperref01_Valid.calls k _ _ l1 t263 _ (cbz HR1) HC1.out A7.out).mono ?_); rintro e w9 ⟨rfl, hb⟩; replace HB := Aside0.mk (below_step bel hb); clear hb)))
   go_meet
   case rel => exact ⟨_, (!t263), rsz, H', ⟨by first | omega | exact Nat.le_refl _⟩, ⟨bel⟩⟩
  ·
   replace c6 := Bool.eq_false_iff.mpr c6
   subst c6
   rw [if_neg (show ¬ (false = true) by decide)] at H
   have H' := Aside0.mk H
   clear H
   go_wp2_with (first | (go_at_call 37; (with_reducible refine (dropperref01_Valid.calls k _ _ l0 false _ (cbz HR0) HC0.out A5.out).mono ?_); rintro e w10 ⟨rfl, hb⟩; replace HB := Aside0.mk (below_step bel hb); clear hb))
   repeat (go_quiet (first | (go_at_call 37; (with_reducible refine (dropperref01_Valid.calls k _ _ l0 false _ (cbz HR0) HC0.out A5.out).mono ?_); rintro e w10 ⟨rfl, hb⟩; replace HB := Aside0.mk (below_step bel hb); clear hb)); try go_wp2_with (first | (go_at_call 37; (with_reducible refine (dropperref01_Valid.calls k _ _ l0 false _ (cbz HR0) HC0.out A5.out).mono ?_); rintro e w10 ⟨rfl, hb⟩; replace HB := Aside0.mk (below_step bel hb); clear hb)))
   go_meet
   case rel => exact ⟨_, (true), rsz, H', ⟨by first | omega | exact Nat.le_refl _⟩, ⟨bel⟩⟩
 case rest =>
  clear HC4
  (try clear c1); (try clear p2); (try clear c5); (try clear c6)
  obtain ⟨kq, x20_3, rfl, HA, HJ3, HB⟩ := hcut
  cases kq with
  | zero => exact absurd HA.out (by simp [dropperref01_together.j0])
  | succ kj3 =>
   have H := HA.out
   clear HA
   simp only [dropperref01_together.j0] at H
   by_cases c11 : x20_3 = true
   ·
    subst c11
    rw [if_pos rfl] at H
    simp only [Option.some.injEq, Prod.mk.injEq] at H
    obtain ⟨rfl, rfl⟩ := H
    go_wp2
    repeat (go_quiet (fail); try go_wp2)
    go_ret2
    exact ⟨_, ezz, by first | exact Kd.R_nil _ _ _ _ _ | exact Kd.N_nil _ _ _ _ _ | exact Kd.V_nil _ _ _ _ _ | exact Kd.Q_nil _ _ _ _ _ | exact Kd.S_nil _ _ _ _ _, bel⟩
   ·
    replace c11 := Bool.eq_false_iff.mpr c11
    subst c11
    rw [if_neg (show ¬ (false = true) by decide)] at H
    replace H := Option.bind_eq_some_iff.mp H
    obtain ⟨t264, A120, H⟩ := H
    try dsimp only at H
    have A12 := Aside0.mk A120
    clear A120
    have H' := Aside0.mk H
    clear H
    go_wp2_with (first | (go_at_call 48; (with_reducible refine (dropperref01_bounds.calls _ _ l0 _ _ l1 t264 _ (cbz HR0) HC0.out (cbz HR1) HC1.out A12.out).mono ?_); rintro e w13 ⟨v265, rfl, ho0, hb⟩; have HO266 := Aside0.mk (Kd.R_lower ho0 (below_size bel)); replace HB := Aside0.mk (below_step bel hb); (try clear hb); (try clear hb2); (try clear hk); (try clear hi); (try clear ho0)))
    repeat (go_quiet (first | (go_at_call 48; (with_reducible refine (dropperref01_bounds.calls _ _ l0 _ _ l1 t264 _ (cbz HR0) HC0.out (cbz HR1) HC1.out A12.out).mono ?_); rintro e w13 ⟨v265, rfl, ho0, hb⟩; have HO266 := Aside0.mk (Kd.R_lower ho0 (below_size bel)); replace HB := Aside0.mk (below_step bel hb); (try clear hb); (try clear hb2); (try clear hk); (try clear hi); (try clear ho0))); try go_wp2_with (first | (go_at_call 48; (with_reducible refine (dropperref01_bounds.calls _ _ l0 _ _ l1 t264 _ (cbz HR0) HC0.out (cbz HR1) HC1.out A12.out).mono ?_); rintro e w13 ⟨v265, rfl, ho0, hb⟩; have HO266 := Aside0.mk (Kd.R_lower ho0 (below_size bel)); replace HB := Aside0.mk (below_step bel hb); (try clear hb); (try clear hb2); (try clear hk); (try clear hi); (try clear ho0))))
    go_loopg [9, 10] kj3 (fun kq v9 v10 w' => ∃ (x9_2 : List Bool) (x10_2 : Int), v10 = .int .i64 x10_2 ∧ Aside0 (dropperref01_together.l0 kq l0 l1 a2 t264 x9_2 x10_2 = some (r1, r2)) ∧ Aside0 (kq ≤ kj3) ∧ Aside0 (Kd.R (Kd.int .i64) 3 w' w.heap.size (fun _ => True) v265 t264) ∧ Aside0 (Kd.R Kd.bool 4 w' w.heap.size (fun _ => True) v9 x9_2) ∧ Aside0 (Below w.heap.size w w'))
    case atStart => exact ⟨(([] : List Bool)), (0), rsz, H', ⟨Nat.le_refl _⟩, ⟨by (with_reducible repeat (first | apply Kd.R_alloc | apply Kd.R_drewN | apply Kd.R_drew)); exact HO266.out⟩, ⟨by first | exact Kd.R_nil _ _ _ _ _ | exact Kd.N_nil _ _ _ _ _ | exact Kd.V_nil _ _ _ _ _ | exact Kd.Q_nil _ _ _ _ _ | exact Kd.S_nil _ _ _ _ _⟩, ⟨bel⟩⟩
    case round =>
     clear H'
     (try clear c1); (try clear p2); (try clear c5); (try clear c6); (try clear c11); (try clear p2)
     obtain ⟨x9_2, x10_2, rfl, HA, HK2, HO_8, HO_9, HB⟩ := hrel
     cases gk with
     | zero => exact absurd HA.out (by simp [dropperref01_together.l0])
     | succ k2 =>
      have H := HA.out
      clear HA
      simp only [dropperref01_together.l0] at H
      by_cases c14 : x10_2 < (t264.length : Int)
      ·
       rw [if_pos c14] at H
       have c14b0 : decide (x10_2 < (t264.length : Int)) = true := decide_eq_true c14
       clear c14
       by_cases c15 : 0 ≤ x10_2
       ·
        rw [if_pos c15] at H
        have c15b0 : decide (0 ≤ x10_2) = true := decide_eq_true c15
        clear c15
        replace H := Option.bind_eq_some_iff.mp H
        obtain ⟨t268, A160, H⟩ := H
        try dsimp only at H
        have A16 := Aside0.mk A160
        clear A160
        replace H := Option.bind_eq_some_iff.mp H
        obtain ⟨t270, A170, H⟩ := H
        try dsimp only at H
        have A17 := Aside0.mk A170
        clear A170
        by_cases c18 : a2 = 1
        ·
         rw [if_pos c18] at H
         have c18b0 : (a2 == 1) = true := beq_iff_eq.mpr c18
         have c18b1 : (a2 != 1) = false := bne_eq_false_iff_eq.mpr c18
         clear c18
         by_cases c19 : t268 > 0
         ·
          rw [if_pos c19] at H
          have c19b0 : decide (0 < t268) = true := decide_eq_true c19
          clear c19
          by_cases c20 : x9_2.length < 140737488355328
          ·
           rw [if_pos c20] at H
           have LMc20 := Aside0.mk c20
           clear c20
           obtain ⟨y271, hy271⟩ : ∃ y_ : List Bool, y_ = (x9_2 ++ [true]) := ⟨_, rfl⟩
           replace H : (dropperref01_together.l0 k2 l0 l1 a2 t264 y271 (wrap64 (x10_2 + 1))) = some (r1, r2) := by first | (rw [hy271]; with_reducible exact H) | (have H2_ := (Option.bind_some _ _).symm.trans H; rw [hy271]; with_reducible exact H2_) | (have H2_ := (Option.bind_some _ _).symm.trans H; with_reducible exact H2_) | with_reducible exact H | (rw [hy271]; exact H) | exact H
           have Ny271 := Aside0.mk hy271
           clear hy271
           have H' := Aside0.mk H
           clear H
           obtain ⟨Ao21, co21, eo21⟩ := Kd.R_slice HO_8.out
           subst eo21
           have p267 : 0 ≤ (x10_2 : Int) := of_decide_eq_true asz
           have q267 : x10_2 < (t264.length : Int) := of_decide_eq_true asz
           obtain ⟨ad267, e267, hx267_0⟩ := Kd.at_int (Kd.R_reads' HO_8.out).2.2 x10_2 p267 q267
           cases e267
           replace p267 := eq_true p267
           replace q267 := eq_true q267
           go_wp2_with (first | (go_at_call 49; (with_reducible refine (dropperref01_depth.calls k2 _ _ l0 (rd t264 x10_2) t268 _ (cbz HR0) HC0.out A16.out).mono ?_); rintro e w' ⟨rfl, ⟨nd, rfl⟩⟩; (try first | exact ⟨rfl, _, World.drewN_drewN _ _ _⟩ | exact ⟨rfl, _, Eq.trans (World.drewN_drewN _ _ _) (congrArg (World.drewN _) (Nat.add_assoc _ _ _))⟩); have p269 : 0 ≤ (x10_2 : Int) := of_decide_eq_true asz; have q269 : x10_2 < (t264.length : Int) := of_decide_eq_true asz; obtain ⟨ad269, e269, hx269_0⟩ := Kd.at_int (Kd.R_reads' HO_8.out).2.2 x10_2 p269 q269; obtain rfl : ad267 = ad269 := (by injection e269); replace p269 := eq_true p269; replace q269 := eq_true q269) | (go_at_call 49; (with_reducible refine (dropperref01_depth.calls k2 _ _ l1 (rd t264 x10_2) t270 _ ?side1 HC1.out A17.out).mono ?_); (case side1 => repeat (first | exact (Kd.C_below HR1.out bel) | (with_reducible refine Kd.C_alloc ?_ _) | (with_reducible refine Kd.C_drewN ?_ _) | (with_reducible refine Kd.C_drew ?_))); rintro e w' ⟨rfl, ⟨nd, rfl⟩⟩; (try first | exact ⟨rfl, _, World.drewN_drewN _ _ _⟩ | exact ⟨rfl, _, Eq.trans (World.drewN_drewN _ _ _) (congrArg (World.drewN _) (Nat.add_assoc _ _ _))⟩)) | ((with_reducible refine gate_builtin (b := .append) (xs := #[.tmp 44, .tmp 74]) rfl ?_); at_builtin; refine Kd.R_append Kd.bool (w0 := w) w.heap.size rfl (.tmp 44) (.tmp 74) 65 4 (.bool false) 1 rfl Tryd.underlying65 info4 rfl (by decide) (by omega) u9 x9_2 true [.bool true] (fun _ => True) (fun _ => False) rfl rfl ?aP (fun _ hk => hk.elim) ?aF ?aO ?aB ?aS ?aL ?_; (case aP => exact rfl); (case aB => exact bel); (case aF => exact (fun _ _ => trivial)); (case aO => exact (ownx HO_9)); (case aS => exact (below_size bel)); (case aL => have := LMc20.out; omega); intro v272 w22 ho hb hg hat; rw [← Ny271.out] at ho; have n0_ := Aside0.mk (Kd.R_over' (ownx HO_8) (Kd.R_typed (ownx HO_9)) (by decide) hg); have n1_ := Aside0.mk (hb); have n2_ := Aside0.mk (ho); clear HO_8; clear HB; clear HO_9; have HO_8 := n0_; have HB := n1_; have HO273 := n2_; clear n0_ n1_ n2_; clear ho hb hg hat))
           repeat (go_quiet (first | (go_at_call 49; (with_reducible refine (dropperref01_depth.calls k2 _ _ l0 (rd t264 x10_2) t268 _ (cbz HR0) HC0.out A16.out).mono ?_); rintro e w' ⟨rfl, ⟨nd, rfl⟩⟩; (try first | exact ⟨rfl, _, World.drewN_drewN _ _ _⟩ | exact ⟨rfl, _, Eq.trans (World.drewN_drewN _ _ _) (congrArg (World.drewN _) (Nat.add_assoc _ _ _))⟩); have p269 : 0 ≤ (x10_2 : Int) := of_decide_eq_true asz; have q269 : x10_2 < (t264.length : Int) := of_decide_eq_true asz; obtain ⟨ad269, e269, hx269_0⟩ := Kd.at_int (Kd.R_reads' HO_8.out).2.2 x10_2 p269 q269; obtain rfl : ad267 = ad269 := (by injection e269); replace p269 := eq_true p269; replace q269 := eq_true q269) | (go_at_call 49; (with_reducible refine (dropperref01_depth.calls k2 _ _ l1 (rd t264 x10_2) t270 _ ?side1 HC1.out A17.out).mono ?_); (case side1 => repeat (first | exact (Kd.C_below HR1.out bel) | (with_reducible refine Kd.C_alloc ?_ _) | (with_reducible refine Kd.C_drewN ?_ _) | (with_reducible refine Kd.C_drew ?_))); rintro e w' ⟨rfl, ⟨nd, rfl⟩⟩; (try first | exact ⟨rfl, _, World.drewN_drewN _ _ _⟩ | exact ⟨rfl, _, Eq.trans (World.drewN_drewN _ _ _) (congrArg (World.drewN _) (Nat.add_assoc _ _ _))⟩)) | ((with_reducible refine gate_builtin (b := .append) (xs := #[.tmp 44, .tmp 74]) rfl ?_); at_builtin; refine Kd.R_append Kd.bool (w0 := w) w.heap.size rfl (.tmp 44) (.tmp 74) 65 4 (.bool false) 1 rfl Tryd.underlying65 info4 rfl (by decide) (by omega) u9 x9_2 true [.bool true] (fun _ => True) (fun _ => False) rfl rfl ?aP (fun _ hk => hk.elim) ?aF ?aO ?aB ?aS ?aL ?_; (case aP => exact rfl); (case aB => exact bel); (case aF => exact (fun _ _ => trivial)); (case aO => exact (ownx HO_9)); (case aS => exact (below_size bel)); (case aL => have := LMc20.out; omega); intro v272 w22 ho hb hg hat; rw [← Ny271.out] at ho; have n0_ := Aside0.mk (Kd.R_over' (ownx HO_8) (Kd.R_typed (ownx HO_9)) (by decide) hg); have n1_ := Aside0.mk (hb); have n2_ := Aside0.mk (ho); clear HO_8; clear HB; clear HO_9; have HO_8 := n0_; have HB := n1_; have HO273 := n2_; clear n0_ n1_ n2_; clear ho hb hg hat)); try go_wp2_with (first | (go_at_call 49; (with_reducible refine (dropperref01_depth.calls k2 _ _ l0 (rd t264 x10_2) t268 _ (cbz HR0) HC0.out A16.out).mono ?_); rintro e w' ⟨rfl, ⟨nd, rfl⟩⟩; (try first | exact ⟨rfl, _, World.drewN_drewN _ _ _⟩ | exact ⟨rfl, _, Eq.trans (World.drewN_drewN _ _ _) (congrArg (World.drewN _) (Nat.add_assoc _ _ _))⟩); have p269 : 0 ≤ (x10_2 : Int) := of_decide_eq_true asz; have q269 : x10_2 < (t264.length : Int) := of_decide_eq_true asz; obtain ⟨ad269, e269, hx269_0⟩ := Kd.at_int (Kd.R_reads' HO_8.out).2.2 x10_2 p269 q269; obtain rfl : ad267 = ad269 := (by injection e269); replace p269 := eq_true p269; replace q269 := eq_true q269) | (go_at_call 49; (with_reducible refine (dropperref01_depth.calls k2 _ _ l1 (rd t264 x10_2) t270 _ ?side1 HC1.out A17.out).mono ?_); (case side1 => repeat (first | exact (Kd.C_below HR1.out bel) | (with_reducible refine Kd.C_alloc ?_ _) | (with_reducible refine Kd.C_drewN ?_ _) | (with_reducible refine Kd.C_drew ?_))); rintro e w' ⟨rfl, ⟨nd, rfl⟩⟩; (try first | exact ⟨rfl, _, World.drewN_drewN _ _ _⟩ | exact ⟨rfl, _, Eq.trans (World.drewN_drewN _ _ _) (congrArg (World.drewN _) (Nat.add_assoc _ _ _))⟩)) | ((with_reducible refine gate_builtin (b := .append) (xs := #[.tmp 44, .tmp 74]) rfl ?_); at_builtin; refine Kd.R_append Kd.bool (w0 := w) w.heap.size rfl (.tmp 44) (.tmp 74) 65 4 (.bool false) 1 rfl Tryd.underlying65 info4 rfl (by decide) (by omega) u9 x9_2 true [.bool true] (fun _ => True) (fun _ => False) rfl rfl ?aP (fun _ hk => hk.elim) ?aF ?aO ?aB ?aS ?aL ?_; (case aP => exact rfl); (case aB => exact bel); (case aF => exact (fun _ _ => trivial)); (case aO => exact (ownx HO_9)); (case aS => exact (below_size bel)); (case aL => have := LMc20.out; omega); intro v272 w22 ho hb hg hat; rw [← Ny271.out] at ho; have n0_ := Aside0.mk (Kd.R_over' (ownx HO_8) (Kd.R_typed (ownx HO_9)) (by decide) hg); have n1_ := Aside0.mk (hb); have n2_ := Aside0.mk (ho); clear HO_8; clear HB; clear HO_9; have HO_8 := n0_; have HB := n1_; have HO273 := n2_; clear n0_ n1_ n2_; clear ho hb hg hat)))
           go_roundg k2
           case measure => have := HJ3.out; have := HK2.out; omega
           case rel => exact ⟨(y271), (wrap64 (x10_2 + 1)), rsz, H', ⟨by have := HJ3.out; have := HK2.out; omega⟩, ⟨by (with_reducible repeat (first | apply Kd.R_alloc | apply Kd.R_drewN | apply Kd.R_drew)); exact HO_8.out⟩, ⟨by (with_reducible repeat (first | apply Kd.R_alloc | apply Kd.R_drewN | apply Kd.R_drew)); exact HO273.out⟩, ⟨bel⟩⟩
          ·
           rw [if_neg c20] at H
           exact absurd H (by simp)
         ·
          rw [if_neg c19] at H
          have c19b0 : decide (0 < t268) = false := decide_eq_false c19
          clear c19
          by_cases c23 : t270 > 0
          ·
           rw [if_pos c23] at H
           have c23b0 : decide (0 < t270) = true := decide_eq_true c23
           clear c23
           by_cases c24 : x9_2.length < 140737488355328
           ·
            rw [if_pos c24] at H
            have LMc24 := Aside0.mk c24
            clear c24
            obtain ⟨y274, hy274⟩ : ∃ y_ : List Bool, y_ = (x9_2 ++ [true]) := ⟨_, rfl⟩
            replace H : (dropperref01_together.l0 k2 l0 l1 a2 t264 y274 (wrap64 (x10_2 + 1))) = some (r1, r2) := by first | (rw [hy274]; with_reducible exact H) | (have H2_ := (Option.bind_some _ _).symm.trans H; rw [hy274]; with_reducible exact H2_) | (have H2_ := (Option.bind_some _ _).symm.trans H; with_reducible exact H2_) | with_reducible exact H | (rw [hy274]; exact H) | exact H
            have Ny274 := Aside0.mk hy274
            clear hy274
            have H' := Aside0.mk H
            clear H
            obtain ⟨Ao25, co25, eo25⟩ := Kd.R_slice HO_8.out
            subst eo25
            have p267 : 0 ≤ (x10_2 : Int) := of_decide_eq_true asz
            have q267 : x10_2 < (t264.length : Int) := of_decide_eq_true asz
            obtain ⟨ad267, e267, hx267_0⟩ := Kd.at_int (Kd.R_reads' HO_8.out).2.2 x10_2 p267 q267
            cases e267
            replace p267 := eq_true p267
            replace q267 := eq_true q267
            go_wp2_with (first | (go_at_call 49; (with_reducible refine (dropperref01_depth.calls k2 _ _ l0 (rd t264 x10_2) t268 _ (cbz HR0) HC0.out A16.out).mono ?_); rintro e w' ⟨rfl, ⟨nd, rfl⟩⟩; (try first | exact ⟨rfl, _, World.drewN_drewN _ _ _⟩ | exact ⟨rfl, _, Eq.trans (World.drewN_drewN _ _ _) (congrArg (World.drewN _) (Nat.add_assoc _ _ _))⟩); have p269 : 0 ≤ (x10_2 : Int) := of_decide_eq_true asz; have q269 : x10_2 < (t264.length : Int) := of_decide_eq_true asz; obtain ⟨ad269, e269, hx269_0⟩ := Kd.at_int (Kd.R_reads' HO_8.out).2.2 x10_2 p269 q269; obtain rfl : ad267 = ad269 := (by injection e269); replace p269 := eq_true p269; replace q269 := eq_true q269) | (go_at_call 49; (with_reducible refine (dropperref01_depth.calls k2 _ _ l1 (rd t264 x10_2) t270 _ ?side1 HC1.out A17.out).mono ?_); (case side1 => repeat (first | exact (Kd.C_below HR1.out bel) | (with_reducible refine Kd.C_alloc ?_ _) | (with_reducible refine Kd.C_drewN ?_ _) | (with_reducible refine Kd.C_drew ?_))); rintro e w' ⟨rfl, ⟨nd, rfl⟩⟩; (try first | exact ⟨rfl, _, World.drewN_drewN _ _ _⟩ | exact ⟨rfl, _, Eq.trans (World.drewN_drewN _ _ _) (congrArg (World.drewN _) (Nat.add_assoc _ _ _))⟩)) | ((with_reducible refine gate_builtin (b := .append) (xs := #[.tmp 44, .tmp 74]) rfl ?_); at_builtin; refine Kd.R_append Kd.bool (w0 := w) w.heap.size rfl (.tmp 44) (.tmp 74) 65 4 (.bool false) 1 rfl Tryd.underlying65 info4 rfl (by decide) (by omega) u9 x9_2 true [.bool true] (fun _ => True) (fun _ => False) rfl rfl ?aP (fun _ hk => hk.elim) ?aF ?aO ?aB ?aS ?aL ?_; (case aP => exact rfl); (case aB => exact bel); (case aF => exact (fun _ _ => trivial)); (case aO => exact (ownx HO_9)); (case aS => exact (below_size bel)); (case aL => have := LMc24.out; omega); intro v275 w26 ho hb hg hat; rw [← Ny274.out] at ho; have n0_ := Aside0.mk (Kd.R_over' (ownx HO_8) (Kd.R_typed (ownx HO_9)) (by decide) hg); have n1_ := Aside0.mk (hb); have n2_ := Aside0.mk (ho); clear HO_8; clear HB; clear HO_9; have HO_8 := n0_; have HB := n1_; have HO276 := n2_; clear n0_ n1_ n2_; clear ho hb hg hat))
            repeat (go_quiet (first | (go_at_call 49; (with_reducible refine (dropperref01_depth.calls k2 _ _ l0 (rd t264 x10_2) t268 _ (cbz HR0) HC0.out A16.out).mono ?_); rintro e w' ⟨rfl, ⟨nd, rfl⟩⟩; (try first | exact ⟨rfl, _, World.drewN_drewN _ _ _⟩ | exact ⟨rfl, _, Eq.trans (World.drewN_drewN _ _ _) (congrArg (World.drewN _) (Nat.add_assoc _ _ _))⟩); have p269 : 0 ≤ (x10_2 : Int) := of_decide_eq_true asz; have q269 : x10_2 < (t264.length : Int) := of_decide_eq_true asz; obtain ⟨ad269, e269, hx269_0⟩ := Kd.at_int (Kd.R_reads' HO_8.out).2.2 x10_2 p269 q269; obtain rfl : ad267 = ad269 := (by injection e269); replace p269 := eq_true p269; replace q269 := eq_true q269) | (go_at_call 49; (with_reducible refine (dropperref01_depth.calls k2 _ _ l1 (rd t264 x10_2) t270 _ ?side1 HC1.out A17.out).mono ?_); (case side1 => repeat (first | exact (Kd.C_below HR1.out bel) | (with_reducible refine Kd.C_alloc ?_ _) | (with_reducible refine Kd.C_drewN ?_ _) | (with_reducible refine Kd.C_drew ?_))); rintro e w' ⟨rfl, ⟨nd, rfl⟩⟩; (try first | exact ⟨rfl, _, World.drewN_drewN _ _ _⟩ | exact ⟨rfl, _, Eq.trans (World.drewN_drewN _ _ _) (congrArg (World.drewN _) (Nat.add_assoc _ _ _))⟩)) | ((with_reducible refine gate_builtin (b := .append) (xs := #[.tmp 44, .tmp 74]) rfl ?_); at_builtin; refine Kd.R_append Kd.bool (w0 := w) w.heap.size rfl (.tmp 44) (.tmp 74) 65 4 (.bool false) 1 rfl Tryd.underlying65 info4 rfl (by decide) (by omega) u9 x9_2 true [.bool true] (fun _ => True) (fun _ => False) rfl rfl ?aP (fun _ hk => hk.elim) ?aF ?aO ?aB ?aS ?aL ?_; (case aP => exact rfl); (case aB => exact bel); (case aF => exact (fun _ _ => trivial)); (case aO => exact (ownx HO_9)); (case aS => exact (below_size bel)); (case aL => have := LMc24.out; omega); intro v275 w26 ho hb hg hat; rw [← Ny274.out] at ho; have n0_ := Aside0.mk (Kd.R_over' (ownx HO_8) (Kd.R_typed (ownx HO_9)) (by decide) hg); have n1_ := Aside0.mk (hb); have n2_ := Aside0.mk (ho); clear HO_8; clear HB; clear HO_9; have HO_8 := n0_; have HB := n1_; have HO276 := n2_; clear n0_ n1_ n2_; clear ho hb hg hat)); try go_wp2_with (first | (go_at_call 49; (with_reducible refine (dropperref01_depth.calls k2 _ _ l0 (rd t264 x10_2) t268 _ (cbz HR0) HC0.out A16.out).mono ?_); rintro e w' ⟨rfl, ⟨nd, rfl⟩⟩; (try first | exact ⟨rfl, _, World.drewN_drewN _ _ _⟩ | exact ⟨rfl, _, Eq.trans (World.drewN_drewN _ _ _) (congrArg (World.drewN _) (Nat.add_assoc _ _ _))⟩); have p269 : 0 ≤ (x10_2 : Int) := of_decide_eq_true asz; have q269 : x10_2 < (t264.length : Int) := of_decide_eq_true asz; obtain ⟨ad269, e269, hx269_0⟩ := Kd.at_int (Kd.R_reads' HO_8.out).2.2 x10_2 p269 q269; obtain rfl : ad267 = ad269 := (by injection e269); replace p269 := eq_true p269; replace q269 := eq_true q269) | (go_at_call 49; (with_reducible refine (dropperref01_depth.calls k2 _ _ l1 (rd t264 x10_2) t270 _ ?side1 HC1.out A17.out).mono ?_); (case side1 => repeat (first | exact (Kd.C_below HR1.out bel) | (with_reducible refine Kd.C_alloc ?_ _) | (with_reducible refine Kd.C_drewN ?_ _) | (with_reducible refine Kd.C_drew ?_))); rintro e w' ⟨rfl, ⟨nd, rfl⟩⟩; (try first | exact ⟨rfl, _, World.drewN_drewN _ _ _⟩ | exact ⟨rfl, _, Eq.trans (World.drewN_drewN _ _ _) (congrArg (World.drewN _) (Nat.add_assoc _ _ _))⟩)) | ((with_reducible refine gate_builtin (b := .append) (xs := #[.tmp 44, .tmp 74]) rfl ?_); at_builtin; refine Kd.R_append Kd.bool (w0 := w) w.heap.size rfl (.tmp 44) (.tmp 74) 65 4 (.bool false) 1 rfl Tryd.underlying65 info4 rfl (by decide) (by omega) u9 x9_2 true [.bool true] (fun _ => True) (fun _ => False) rfl rfl ?aP (fun _ hk => hk.elim) ?aF ?aO ?aB ?aS ?aL ?_; (case aP => exact rfl); (case aB => exact bel); (case aF => exact (fun _ _ => trivial)); (case aO => exact (ownx HO_9)); (case aS => exact (below_size bel)); (case aL => have := LMc24.out; omega); intro v275 w26 ho hb hg hat; rw [← Ny274.out] at ho; have n0_ := Aside0.mk (Kd.R_over' (ownx HO_8) (Kd.R_typed (ownx HO_9)) (by decide) hg); have n1_ := Aside0.mk (hb); have n2_ := Aside0.mk (ho); clear HO_8; clear HB; clear HO_9; have HO_8 := n0_; have HB := n1_; have HO276 := n2_; clear n0_ n1_ n2_; clear ho hb hg hat)))
            go_roundg k2
            case measure => have := HJ3.out; have := HK2.out; omega
            case rel => exact ⟨(y274), (wrap64 (x10_2 + 1)), rsz, H', ⟨by have := HJ3.out; have := HK2.out; omega⟩, ⟨by (with_reducible repeat (first | apply Kd.R_alloc | apply Kd.R_drewN | apply Kd.R_drew)); exact HO_8.out⟩, ⟨by (with_reducible repeat (first | apply Kd.R_alloc | apply Kd.R_drewN | apply Kd.R_drew)); exact HO276.out⟩, ⟨bel⟩⟩
           ·
            rw [if_neg c24] at H
            exact absurd H (by simp)
          ·
           rw [if_neg c23] at H
           have c23b0 : decide (0 < t270) = false := decide_eq_false c23
           clear c23
           by_cases c27 : a2 = 2
           ·
            rw [if_pos c27] at H
            have c27b0 : (a2 == 2) = true := beq_iff_eq.mpr c27
            have c27b1 : (a2 != 2) = false := bne_eq_false_iff_eq.mpr c27
            clear c27
            by_cases c28 : a2 = 3
            ·
             rw [if_pos c28] at H
             have c28b0 : (a2 == 3) = true := beq_iff_eq.mpr c28
             have c28b1 : (a2 != 3) = false := bne_eq_false_iff_eq.mpr c28
             clear c28
             by_cases c29 : x9_2.length < 140737488355328
             ·
              rw [if_pos c29] at H
              have LMc29 := Aside0.mk c29
              clear c29
              obtain ⟨y277, hy277⟩ : ∃ y_ : List Bool, y_ = (x9_2 ++ [false]) := ⟨_, rfl⟩
              replace H : (dropperref01_together.l0 k2 l0 l1 a2 t264 y277 (wrap64 (x10_2 + 1))) = some (r1, r2) := by first | (rw [hy277]; with_reducible exact H) | (have H2_ := (Option.bind_some _ _).symm.trans H; rw [hy277]; with_reducible exact H2_) | (have H2_ := (Option.bind_some _ _).symm.trans H; with_reducible exact H2_) | with_reducible exact H | (rw [hy277]; exact H) | exact H
              have Ny277 := Aside0.mk hy277
              clear hy277
              have H' := Aside0.mk H
              clear H
              obtain ⟨Ao30, co30, eo30⟩ := Kd.R_slice HO_8.out
              subst eo30
              have p267 : 0 ≤ (x10_2 : Int) := of_decide_eq_true asz
              have q267 : x10_2 < (t264.length : Int) := of_decide_eq_true asz
              obtain ⟨ad267, e267, hx267_0⟩ := Kd.at_int (Kd.R_reads' HO_8.out).2.2 x10_2 p267 q267
              cases e267
              replace p267 := eq_true p267
              replace q267 := eq_true q267
              go_wp2_with (first | (go_at_call 49; (with_reducible refine (dropperref01_depth.calls k2 _ _ l0 (rd t264 x10_2) t268 _ (cbz HR0) HC0.out A16.out).mono ?_); rintro e w' ⟨rfl, ⟨nd, rfl⟩⟩; (try first | exact ⟨rfl, _, World.drewN_drewN _ _ _⟩ | exact ⟨rfl, _, Eq.trans (World.drewN_drewN _ _ _) (congrArg (World.drewN _) (Nat.add_assoc _ _ _))⟩); have p269 : 0 ≤ (x10_2 : Int) := of_decide_eq_true asz; have q269 : x10_2 < (t264.length : Int) := of_decide_eq_true asz; obtain ⟨ad269, e269, hx269_0⟩ := Kd.at_int (Kd.R_reads' HO_8.out).2.2 x10_2 p269 q269; obtain rfl : ad267 = ad269 := (by injection e269); replace p269 := eq_true p269; replace q269 := eq_true q269) | (go_at_call 49; (with_reducible refine (dropperref01_depth.calls k2 _ _ l1 (rd t264 x10_2) t270 _ ?side1 HC1.out A17.out).mono ?_); (case side1 => repeat (first | exact (Kd.C_below HR1.out bel) | (with_reducible refine Kd.C_alloc ?_ _) | (with_reducible refine Kd.C_drewN ?_ _) | (with_reducible refine Kd.C_drew ?_))); rintro e w' ⟨rfl, ⟨nd, rfl⟩⟩; (try first | exact ⟨rfl, _, World.drewN_drewN _ _ _⟩ | exact ⟨rfl, _, Eq.trans (World.drewN_drewN _ _ _) (congrArg (World.drewN _) (Nat.add_assoc _ _ _))⟩)) | ((with_reducible refine gate_builtin (b := .append) (xs := #[.tmp 44, .tmp 74]) rfl ?_); at_builtin; refine Kd.R_append Kd.bool (w0 := w) w.heap.size rfl (.tmp 44) (.tmp 74) 65 4 (.bool false) 1 rfl Tryd.underlying65 info4 rfl (by decide) (by omega) u9 x9_2 false [.bool false] (fun _ => True) (fun _ => False) rfl rfl ?aP (fun _ hk => hk.elim) ?aF ?aO ?aB ?aS ?aL ?_; (case aP => exact rfl); (case aB => exact bel); (case aF => exact (fun _ _ => trivial)); (case aO => exact (ownx HO_9)); (case aS => exact (below_size bel)); (case aL => have := LMc29.out; omega); intro v278 w31 ho hb hg hat; rw [← Ny277.out] at ho; have n0_ := Aside0.mk (Kd.R_over' (ownx HO_8) (Kd.R_typed (ownx HO_9)) (by decide) hg); have n1_ := Aside0.mk (hb); have n2_ := Aside0.mk (ho); clear HO_8; clear HB; clear HO_9; have HO_8 := n0_; have HB := n1_; have HO279 := n2_; clear n0_ n1_ n2_; clear ho hb hg hat))
              repeat (go_quiet (first | (go_at_call 49; (with_reducible refine (dropperref01_depth.calls k2 _ _ l0 (rd t264 x10_2) t268 _ (cbz HR0) HC0.out A16.out).mono ?_); rintro e w' ⟨rfl, ⟨nd, rfl⟩⟩; (try first | exact ⟨rfl, _, World.drewN_drewN _ _ _⟩ | exact ⟨rfl, _, Eq.trans (World.drewN_drewN _ _ _) (congrArg (World.drewN _) (Nat.add_assoc _ _ _))⟩); have p269 : 0 ≤ (x10_2 : Int) := of_decide_eq_true asz; have q269 : x10_2 < (t264.length : Int) := of_decide_eq_true asz; obtain ⟨ad269, e269, hx269_0⟩ := Kd.at_int (Kd.R_reads' HO_8.out).2.2 x10_2 p269 q269; obtain rfl : ad267 = ad269 := (by injection e269); replace p269 := eq_true p269; replace q269 := eq_true q269) | (go_at_call 49; (with_reducible refine (dropperref01_depth.calls k2 _ _ l1 (rd t264 x10_2) t270 _ ?side1 HC1.out A17.out).mono ?_); (case side1 => repeat (first | exact (Kd.C_below HR1.out bel) | (with_reducible refine Kd.C_alloc ?_ _) | (with_reducible refine Kd.C_drewN ?_ _) | (with_reducible refine Kd.C_drew ?_))); rintro e w' ⟨rfl, ⟨nd, rfl⟩⟩; (try first | exact ⟨rfl, _, World.drewN_drewN _ _ _⟩ | exact ⟨rfl, _, Eq.trans (World.drewN_drewN _ _ _) (congrArg (World.drewN _) (Nat.add_assoc _ _ _))⟩)) | ((with_reducible refine gate_builtin (b := .append) (xs := #[.tmp 44, .tmp 74]) rfl ?_); at_builtin; refine Kd.R_append Kd.bool (w0 := w) w.heap.size rfl (.tmp 44) (.tmp 74) 65 4 (.bool false) 1 rfl Tryd.underlying65 info4 rfl (by decide) (by omega) u9 x9_2 false [.bool false] (fun _ => True) (fun _ => False) rfl rfl ?aP (fun _ hk => hk.elim) ?aF ?aO ?aB ?aS ?aL ?_; (case aP => exact rfl); (case aB => exact bel); (case aF => exact (fun _ _ => trivial)); (case aO => exact (ownx HO_9)); (case aS => exact (below_size bel)); (case aL => have := LMc29.out; omega); intro v278 w31 ho hb hg hat; rw [← Ny277.out] at ho; have n0_ := Aside0.mk (Kd.R_over' (ownx HO_8) (Kd.R_typed (ownx HO_9)) (by decide) hg); have n1_ := Aside0.mk (hb); have n2_ := Aside0.mk (ho); clear HO_8; clear HB; clear HO_9; have HO_8 := n0_; have HB := n1_; have HO279 := n2_; clear n0_ n1_ n2_; clear ho hb hg hat)); try go_wp2_with (first | (go_at_call 49; (with_reducible refine (dropperref01_depth.calls k2 _ _ l0 (rd t264 x10_2) t268 _ (cbz HR0) HC0.out A16.out).mono ?_); rintro e w' ⟨rfl, ⟨nd, rfl⟩⟩; (try first | exact ⟨rfl, _, World.drewN_drewN _ _ _⟩ | exact ⟨rfl, _, Eq.trans (World.drewN_drewN _ _ _) (congrArg (World.drewN _) (Nat.add_assoc _ _ _))⟩); have p269 : 0 ≤ (x10_2 : Int) := of_decide_eq_true asz; have q269 : x10_2 < (t264.length : Int) := of_decide_eq_true asz; obtain ⟨ad269, e269, hx269_0⟩ := Kd.at_int (Kd.R_reads' HO_8.out).2.2 x10_2 p269 q269; obtain rfl : ad267 = ad269 := (by injection e269); replace p269 := eq_true p269; replace q269 := eq_true q269) | (go_at_call 49; (with_reducible refine (dropperref01_depth.calls k2 _ _ l1 (rd t264 x10_2) t270 _ ?side1 HC1.out A17.out).mono ?_); (case side1 => repeat (first | exact (Kd.C_below HR1.out bel) | (with_reducible refine Kd.C_alloc ?_ _) | (with_reducible refine Kd.C_drewN ?_ _) | (with_reducible refine Kd.C_drew ?_))); rintro e w' ⟨rfl, ⟨nd, rfl⟩⟩; (try first | exact ⟨rfl, _, World.drewN_drewN _ _ _⟩ | exact ⟨rfl, _, Eq.trans (World.drewN_drewN _ _ _) (congrArg (World.drewN _) (Nat.add_assoc _ _ _))⟩)) | ((with_reducible refine gate_builtin (b := .append) (xs := #[.tmp 44, .tmp 74]) rfl ?_); at_builtin; refine Kd.R_append Kd.bool (w0 := w) w.heap.size rfl (.tmp 44) (.tmp 74) 65 4 (.bool false) 1 rfl Tryd.underlying65 info4 rfl (by decide) (by omega) u9 x9_2 false [.bool false] (fun _ => True) (fun _ => False) rfl rfl ?aP (fun _ hk => hk.elim) ?aF ?aO ?aB ?aS ?aL ?_; (case aP => exact rfl); (case aB => exact bel); (case aF => exact (fun _ _ => trivial)); (case aO => exact (ownx HO_9)); (case aS => exact (below_size bel)); (case aL => have := LMc29.out; omega); intro v278 w31 ho hb hg hat; rw [← Ny277.out] at ho; have n0_ := Aside0.mk (Kd.R_over' (ownx HO_8) (Kd.R_typed (ownx HO_9)) (by decide) hg); have n1_ := Aside0.mk (hb); have n2_ := Aside0.mk (ho); clear HO_8; clear HB; clear HO_9; have HO_8 := n0_; have HB := n1_; have HO279 := n2_; clear n0_ n1_ n2_; clear ho hb hg hat)))
              go_roundg k2
              case measure => have := HJ3.out; have := HK2.out; omega
              case rel => exact ⟨(y277), (wrap64 (x10_2 + 1)), rsz, H', ⟨by have := HJ3.out; have := HK2.out; omega⟩, ⟨by (with_reducible repeat (first | apply Kd.R_alloc | apply Kd.R_drewN | apply Kd.R_drew)); exact HO_8.out⟩, ⟨by (with_reducible repeat (first | apply Kd.R_alloc | apply Kd.R_drewN | apply Kd.R_drew)); exact HO279.out⟩, ⟨bel⟩⟩
             ·
              rw [if_neg c29] at H
              exact absurd H (by simp)
            ·
             rw [if_neg c28] at H
             have c28b0 : (a2 == 3) = false := beq_eq_false_iff_ne.mpr c28
             have c28b1 : (a2 != 3) = true := bne_iff_ne.mpr c28
             by_cases c32 : x9_2.length < 140737488355328
             ·
              rw [if_pos c32] at H
              have LMc32 := Aside0.mk c32
              clear c32
              obtain ⟨y280, hy280⟩ : ∃ y_ : List Bool, y_ = (x9_2 ++ [false]) := ⟨_, rfl⟩
              replace H : (dropperref01_together.l0 k2 l0 l1 a2 t264 y280 (wrap64 (x10_2 + 1))) = some (r1, r2) := by first | (rw [hy280]; with_reducible exact H) | (have H2_ := (Option.bind_some _ _).symm.trans H; rw [hy280]; with_reducible exact H2_) | (have H2_ := (Option.bind_some _ _).symm.trans H; with_reducible exact H2_) | with_reducible exact H | (rw [hy280]; exact H) | exact H
              have Ny280 := Aside0.mk hy280
              clear hy280
              have H' := Aside0.mk H
              clear H
              obtain ⟨Ao33, co33, eo33⟩ := Kd.R_slice HO_8.out
              subst eo33
              have p267 : 0 ≤ (x10_2 : Int) := of_decide_eq_true asz
              have q267 : x10_2 < (t264.length : Int) := of_decide_eq_true asz
              obtain ⟨ad267, e267, hx267_0⟩ := Kd.at_int (Kd.R_reads' HO_8.out).2.2 x10_2 p267 q267
              cases e267
              replace p267 := eq_true p267
              replace q267 := eq_true q267
              go_wp2_with (first | (go_at_call 49; (with_reducible refine (dropperref01_depth.calls k2 _ _ l0 (rd t264 x10_2) t268 _ (cbz HR0) HC0.out A16.out).mono ?_); rintro e w' ⟨rfl, ⟨nd, rfl⟩⟩; (try first | exact ⟨rfl, _, World.drewN_drewN _ _ _⟩ | exact ⟨rfl, _, Eq.trans (World.drewN_drewN _ _ _) (congrArg (World.drewN _) (Nat.add_assoc _ _ _))⟩); have p269 : 0 ≤ (x10_2 : Int) := of_decide_eq_true asz; have q269 : x10_2 < (t264.length : Int) := of_decide_eq_true asz; obtain ⟨ad269, e269, hx269_0⟩ := Kd.at_int (Kd.R_reads' HO_8.out).2.2 x10_2 p269 q269; obtain rfl : ad267 = ad269 := (by injection e269); replace p269 := eq_true p269; replace q269 := eq_true q269) | (go_at_call 49; (with_reducible refine (dropperref01_depth.calls k2 _ _ l1 (rd t264 x10_2) t270 _ ?side1 HC1.out A17.out).mono ?_); (case side1 => repeat (first | exact (Kd.C_below HR1.out bel) | (with_reducible refine Kd.C_alloc ?_ _) | (with_reducible refine Kd.C_drewN ?_ _) | (with_reducible refine Kd.C_drew ?_))); rintro e w' ⟨rfl, ⟨nd, rfl⟩⟩; (try first | exact ⟨rfl, _, World.drewN_drewN _ _ _⟩ | exact ⟨rfl, _, Eq.trans (World.drewN_drewN _ _ _) (congrArg (World.drewN _) (Nat.add_assoc _ _ _))⟩)) | ((with_reducible refine gate_builtin (b := .append) (xs := #[.tmp 44, .tmp 74]) rfl ?_); at_builtin; refine Kd.R_append Kd.bool (w0 := w) w.heap.size rfl (.tmp 44) (.tmp 74) 65 4 (.bool false) 1 rfl Tryd.underlying65 info4 rfl (by decide) (by omega) u9 x9_2 false [.bool false] (fun _ => True) (fun _ => False) rfl rfl ?aP (fun _ hk => hk.elim) ?aF ?aO ?aB ?aS ?aL ?_; (case aP => exact rfl); (case aB => exact bel); (case aF => exact (fun _ _ => trivial)); (case aO => exact (ownx HO_9)); (case aS => exact (below_size bel)); (case aL => have := LMc32.out; omega); intro v281 w34 ho hb hg hat; rw [← Ny280.out] at ho; have n0_ := Aside0.mk (Kd.R_over' (ownx HO_8) (Kd.R_typed (ownx HO_9)) (by decide) hg); have n1_ := Aside0.mk (hb); have n2_ := Aside0.mk (ho); clear HO_8; clear HB; clear HO_9; have HO_8 := n0_; have HB := n1_; have HO282 := n2_; clear n0_ n1_ n2_; clear ho hb hg hat))
              repeat (go_quiet (first | (go_at_call 49; (with_reducible refine (dropperref01_depth.calls k2 _ _ l0 (rd t264 x10_2) t268 _ (cbz HR0) HC0.out A16.out).mono ?_); rintro e w' ⟨rfl, ⟨nd, rfl⟩⟩; (try first | exact ⟨rfl, _, World.drewN_drewN _ _ _⟩ | exact ⟨rfl, _, Eq.trans (World.drewN_drewN _ _ _) (congrArg (World.drewN _) (Nat.add_assoc _ _ _))⟩); have p269 : 0 ≤ (x10_2 : Int) := of_decide_eq_true asz; have q269 : x10_2 < (t264.length : Int) := of_decide_eq_true asz; obtain ⟨ad269, e269, hx269_0⟩ := Kd.at_int (Kd.R_reads' HO_8.out).2.2 x10_2 p269 q269; obtain rfl : ad267 = ad269 := (by injection e269); replace p269 := eq_true p269; replace q269 := eq_true q269) | (go_at_call 49; (with_reducible refine (dropperref01_depth.calls k2 _ _ l1 (rd t264 x10_2) t270 _ ?side1 HC1.out A17.out).mono ?_); (case side1 => repeat (first | exact (Kd.C_below HR1.out bel) | (with_reducible refine Kd.C_alloc ?_ _) | (with_reducible refine Kd.C_drewN ?_ _) | (with_reducible refine Kd.C_drew ?_))); rintro e w' ⟨rfl, ⟨nd, rfl⟩⟩; (try first | exact ⟨rfl, _, World.drewN_drewN _ _ _⟩ | exact ⟨rfl, _, Eq.trans (World.drewN_drewN _ _ _) (congrArg (World.drewN _) (Nat.add_assoc _ _ _))⟩)) | ((with_reducible refine gate_builtin (b := .append) (xs := #[.tmp 44, .tmp 74]) rfl ?_); at_builtin; refine Kd.R_append Kd.bool (w0 := w) w.heap.size rfl (.tmp 44) (.tmp 74) 65 4 (.bool false) 1 rfl Tryd.underlying65 info4 rfl (by decide) (by omega) u9 x9_2 false [.bool false] (fun _ => True) (fun _ => False) rfl rfl ?aP (fun _ hk => hk.elim) ?aF ?aO ?aB ?aS ?aL ?_; (case aP => exact rfl); (case aB => exact bel); (case aF => exact (fun _ _ => trivial)); (case aO => exact (ownx HO_9)); (case aS => exact (below_size bel)); (case aL => have := LMc32.out; omega); intro v281 w34 ho hb hg hat; rw [← Ny280.out] at ho; have n0_ := Aside0.mk (Kd.R_over' (ownx HO_8) (Kd.R_typed (ownx HO_9)) (by decide) hg); have n1_ := Aside0.mk (hb); have n2_ := Aside0.mk (ho); clear HO_8; clear HB; clear HO_9; have HO_8 := n0_; have HB := n1_; have HO282 := n2_; clear n0_ n1_ n2_; clear ho hb hg hat)); try go_wp2_with (first | (go_at_call 49; (with_reducible refine (dropperref01_depth.calls k2 _ _ l0 (rd t264 x10_2) t268 _ (cbz HR0) HC0.out A16.out).mono ?_); rintro e w' ⟨rfl, ⟨nd, rfl⟩⟩; (try first | exact ⟨rfl, _, World.drewN_drewN _ _ _⟩ | exact ⟨rfl, _, Eq.trans (World.drewN_drewN _ _ _) (congrArg (World.drewN _) (Nat.add_assoc _ _ _))⟩); have p269 : 0 ≤ (x10_2 : Int) := of_decide_eq_true asz; have q269 : x10_2 < (t264.length : Int) := of_decide_eq_true asz; obtain ⟨ad269, e269, hx269_0⟩ := Kd.at_int (Kd.R_reads' HO_8.out).2.2 x10_2 p269 q269; obtain rfl : ad267 = ad269 := (by injection e269); replace p269 := eq_true p269; replace q269 := eq_true q269) | (go_at_call 49; (with_reducible refine (dropperref01_depth.calls k2 _ _ l1 (rd t264 x10_2) t270 _ ?side1 HC1.out A17.out).mono ?_); (case side1 => repeat (first | exact (Kd.C_below HR1.out bel) | (with_reducible refine Kd.C_alloc ?_ _) | (with_reducible refine Kd.C_drewN ?_ _) | (with_reducible refine Kd.C_drew ?_))); rintro e w' ⟨rfl, ⟨nd, rfl⟩⟩; (try first | exact ⟨rfl, _, World.drewN_drewN _ _ _⟩ | exact ⟨rfl, _, Eq.trans (World.drewN_drewN _ _ _) (congrArg (World.drewN _) (Nat.add_assoc _ _ _))⟩)) | ((with_reducible refine gate_builtin (b := .append) (xs := #[.tmp 44, .tmp 74]) rfl ?_); at_builtin; refine Kd.R_append Kd.bool (w0 := w) w.heap.size rfl (.tmp 44) (.tmp 74) 65 4 (.bool false) 1 rfl Tryd.underlying65 info4 rfl (by decide) (by omega) u9 x9_2 false [.bool false] (fun _ => True) (fun _ => False) rfl rfl ?aP (fun _ hk => hk.elim) ?aF ?aO ?aB ?aS ?aL ?_; (case aP => exact rfl); (case aB => exact bel); (case aF => exact (fun _ _ => trivial)); (case aO => exact (ownx HO_9)); (case aS => exact (below_size bel)); (case aL => have := LMc32.out; omega); intro v281 w34 ho hb hg hat; rw [← Ny280.out] at ho; have n0_ := Aside0.mk (Kd.R_over' (ownx HO_8) (Kd.R_typed (ownx HO_9)) (by decide) hg); have n1_ := Aside0.mk (hb); have n2_ := Aside0.mk (ho); clear HO_8; clear HB; clear HO_9; have HO_8 := n0_; have HB := n1_; have HO282 := n2_; clear n0_ n1_ n2_; clear ho hb hg hat)))
              go_roundg k2
              case measure => have := HJ3.out; have := HK2.out; omega
              case rel => exact ⟨(y280), (wrap64 (x10_2 + 1)), rsz, H', ⟨by have := HJ3.out; have := HK2.out; omega⟩, ⟨by (with_reducible repeat (first | apply Kd.R_alloc | apply Kd.R_drewN | apply Kd.R_drew)); exact HO_8.out⟩, ⟨by (with_reducible repeat (first | apply Kd.R_alloc | apply Kd.R_drewN | apply Kd.R_drew)); exact HO282.out⟩, ⟨bel⟩⟩
             ·
              rw [if_neg c32] at H
              exact absurd H (by simp)
           ·
            rw [if_neg c27] at H
            have c27b0 : (a2 == 2) = false := beq_eq_false_iff_ne.mpr c27
            have c27b1 : (a2 != 2) = true := bne_iff_ne.mpr c27
            by_cases c35 : a2 = 3
            ·
             rw [if_pos c35] at H
             have c35b0 : (a2 == 3) = true := beq_iff_eq.mpr c35
             have c35b1 : (a2 != 3) = false := bne_eq_false_iff_eq.mpr c35
             clear c35
             by_cases c36 : x9_2.length < 140737488355328
             ·
              rw [if_pos c36] at H
              have LMc36 := Aside0.mk c36
              clear c36
              obtain ⟨y283, hy283⟩ : ∃ y_ : List Bool, y_ = (x9_2 ++ [false]) := ⟨_, rfl⟩
              replace H : (dropperref01_together.l0 k2 l0 l1 a2 t264 y283 (wrap64 (x10_2 + 1))) = some (r1, r2) := by first | (rw [hy283]; with_reducible exact H) | (have H2_ := (Option.bind_some _ _).symm.trans H; rw [hy283]; with_reducible exact H2_) | (have H2_ := (Option.bind_some _ _).symm.trans H; with_reducible exact H2_) | with_reducible exact H | (rw [hy283]; exact H) | exact H
              have Ny283 := Aside0.mk hy283
              clear hy283
              have H' := Aside0.mk H
              clear H
              obtain ⟨Ao37, co37, eo37⟩ := Kd.R_slice HO_8.out
              subst eo37
              have p267 : 0 ≤ (x10_2 : Int) := of_decide_eq_true asz
              have q267 : x10_2 < (t264.length : Int) := of_decide_eq_true asz
              obtain ⟨ad267, e267, hx267_0⟩ := Kd.at_int (Kd.R_reads' HO_8.out).2.2 x10_2 p267 q267
              cases e267
              replace p267 := eq_true p267
              replace q267 := eq_true q267
              go_wp2_with (first | (go_at_call 49; (with_reducible refine (dropperref01_depth.calls k2 _ _ l0 (rd t264 x10_2) t268 _ (cbz HR0) HC0.out A16.out).mono ?_); rintro e w' ⟨rfl, ⟨nd, rfl⟩⟩; (try first | exact ⟨rfl, _, World.drewN_drewN _ _ _⟩ | exact ⟨rfl, _, Eq.trans (World.drewN_drewN _ _ _) (congrArg (World.drewN _) (Nat.add_assoc _ _ _))⟩); have p269 : 0 ≤ (x10_2 : Int) := of_decide_eq_true asz; have q269 : x10_2 < (t264.length : Int) := of_decide_eq_true asz; obtain ⟨ad269, e269, hx269_0⟩ := Kd.at_int (Kd.R_reads' HO_8.out).2.2 x10_2 p269 q269; obtain rfl : ad267 = ad269 := (by injection e269); replace p269 := eq_true p269; replace q269 := eq_true q269) | (go_at_call 49; (with_reducible refine (dropperref01_depth.calls k2 _ _ l1 (rd t264 x10_2) t270 _ ?side1 HC1.out A17.out).mono ?_); (case side1 => repeat (first | exact (Kd.C_below HR1.out bel) | (with_reducible refine Kd.C_alloc ?_ _) | (with_reducible refine Kd.C_drewN ?_ _) | (with_reducible refine Kd.C_drew ?_))); rintro e w' ⟨rfl, ⟨nd, rfl⟩⟩; (try first | exact ⟨rfl, _, World.drewN_drewN _ _ _⟩ | exact ⟨rfl, _, Eq.trans (World.drewN_drewN _ _ _) (congrArg (World.drewN _) (Nat.add_assoc _ _ _))⟩)) | ((with_reducible refine gate_builtin (b := .append) (xs := #[.tmp 44, .tmp 74]) rfl ?_); at_builtin; refine Kd.R_append Kd.bool (w0 := w) w.heap.size rfl (.tmp 44) (.tmp 74) 65 4 (.bool false) 1 rfl Tryd.underlying65 info4 rfl (by decide) (by omega) u9 x9_2 false [.bool false] (fun _ => True) (fun _ => False) rfl rfl ?aP (fun _ hk => hk.elim) ?aF ?aO ?aB ?aS ?aL ?_; (case aP => exact rfl); (case aB => exact bel); (case aF => exact (fun _ _ => trivial)); (case aO => exact (ownx HO_9)); (case aS => exact (below_size bel)); (case aL => have := LMc36.out; omega); intro v284 w38 ho hb hg hat; rw [← Ny283.out] at ho; have n0_ := Aside0.mk (Kd.R_over' (ownx HO_8) (Kd.R_typed (ownx HO_9)) (by decide) hg); have n1_ := Aside0.mk (hb); have n2_ := Aside0.mk (ho); clear HO_8; clear HB; clear HO_9; have HO_8 := n0_; have HB := n1_; have HO285 := n2_; clear n0_ n1_ n2_; clear ho hb hg hat))
              repeat (go_quiet (first | (go_at_call 49; (with_reducible refine (dropperref01_depth.calls k2 _ _ l0 (rd t264 x10_2) t268 _ (cbz HR0) HC0.out A16.out).mono ?_); rintro e w' ⟨rfl, ⟨nd, rfl⟩⟩; (try first | exact ⟨rfl, _, World.drewN_drewN _ _ _⟩ | exact ⟨rfl, _, Eq.trans (World.drewN_drewN _ _ _) (congrArg (World.drewN _) (Nat.add_assoc _ _ _))⟩); have p269 : 0 ≤ (x10_2 : Int) := of_decide_eq_true asz; have q269 : x10_2 < (t264.length : Int) := of_decide_eq_true asz; obtain ⟨ad269, e269, hx269_0⟩ := Kd.at_int (Kd.R_reads' HO_8.out).2.2 x10_2 p269 q269; obtain rfl : ad267 = ad269 := (by injection e269); replace p269 := eq_true p269; replace q269 := eq_true q269) | (go_at_call 49; (with_reducible refine (dropperref01_depth.calls k2 _ _ l1 (rd t264 x10_2) t270 _ ?side1 HC1.out A17.out).mono ?_); (case side1 => repeat (first | exact (Kd.C_below HR1.out bel) | (with_reducible refine Kd.C_alloc ?_ _) | (with_reducible refine Kd.C_drewN ?_ _) | (with_reducible refine Kd.C_drew ?_))); rintro e w' ⟨rfl, ⟨nd, rfl⟩⟩; (try first | exact ⟨rfl, _, World.drewN_drewN _ _ _⟩ | exact ⟨rfl, _, Eq.trans (World.drewN_drewN _ _ _) (congrArg (World.drewN _) (Nat.add_assoc _ _ _))⟩)) | ((with_reducible refine gate_builtin (b := .append) (xs := #[.tmp 44, .tmp 74]) rfl ?_); at_builtin; refine Kd.R_append Kd.bool (w0 := w) w.heap.size rfl (.tmp 44) (.tmp 74) 65 4 (.bool false) 1 rfl Tryd.underlying65 info4 rfl (by decide) (by omega) u9 x9_2 false [.bool false] (fun _ => True) (fun _ => False) rfl rfl ?aP (fun _ hk => hk.elim) ?aF ?aO ?aB ?aS ?aL ?_; (case aP => exact rfl); (case aB => exact bel); (case aF => exact (fun _ _ => trivial)); (case aO => exact (ownx HO_9)); (case aS => exact (below_size bel)); (case aL => have := LMc36.out; omega); intro v284 w38 ho hb hg hat; rw [← Ny283.out] at ho; have n0_ := Aside0.mk (Kd.R_over' (ownx HO_8) (Kd.R_typed (ownx HO_9)) (by decide) hg); have n1_ := Aside0.mk (hb); have n2_ := Aside0.mk (ho); clear HO_8; clear HB; clear HO_9; have HO_8 := n0_; have HB := n1_; have HO285 := n2_; clear n0_ n1_ n2_; clear ho hb hg hat)); try go_wp2_with (first | (go_at_call 49; (with_reducible refine (dropperref01_depth.calls k2 _ _ l0 (rd t264 x10_2) t268 _ (cbz HR0) HC0.out A16.out).mono ?_); rintro e w' ⟨rfl, ⟨nd, rfl⟩⟩; (try first | exact ⟨rfl, _, World.drewN_drewN _ _ _⟩ | exact ⟨rfl, _, Eq.trans (World.drewN_drewN _ _ _) (congrArg (World.drewN _) (Nat.add_assoc _ _ _))⟩); have p269 : 0 ≤ (x10_2 : Int) := of_decide_eq_true asz; have q269 : x10_2 < (t264.length : Int) := of_decide_eq_true asz; obtain ⟨ad269, e269, hx269_0⟩ := Kd.at_int (Kd.R_reads' HO_8.out).2.2 x10_2 p269 q269; obtain rfl : ad267 = ad269 := (by injection e269); replace p269 := eq_true p269; replace q269 := eq_true q269) | (go_at_call 49; (with_reducible refine (dropperref01_depth.calls k2 _ _ l1 (rd t264 x10_2) t270 _ ?side1 HC1.out A17.out).mono ?_); (case side1 => repeat (first | exact (Kd.C_below HR1.out bel) | (with_reducible refine Kd.C_alloc ?_ _) | (with_reducible refine Kd.C_drewN ?_ _) | (with_reducible refine Kd.C_drew ?_))); rintro e w' ⟨rfl, ⟨nd, rfl⟩⟩; (try first | exact ⟨rfl, _, World.drewN_drewN _ _ _⟩ | exact ⟨rfl, _, Eq.trans (World.drewN_drewN _ _ _) (congrArg (World.drewN _) (Nat.add_assoc _ _ _))⟩)) | ((with_reducible refine gate_builtin (b := .append) (xs := #[.tmp 44, .tmp 74]) rfl ?_); at_builtin; refine Kd.R_append Kd.bool (w0 := w) w.heap.size rfl (.tmp 44) (.tmp 74) 65 4 (.bool false) 1 rfl Tryd.underlying65 info4 rfl (by decide) (by omega) u9 x9_2 false [.bool false] (fun _ => True) (fun _ => False) rfl rfl ?aP (fun _ hk => hk.elim) ?aF ?aO ?aB ?aS ?aL ?_; (case aP => exact rfl); (case aB => exact bel); (case aF => exact (fun _ _ => trivial)); (case aO => exact (ownx HO_9)); (case aS => exact (below_size bel)); (case aL => have := LMc36.out; omega); intro v284 w38 ho hb hg hat; rw [← Ny283.out] at ho; have n0_ := Aside0.mk (Kd.R_over' (ownx HO_8) (Kd.R_typed (ownx HO_9)) (by decide) hg); have n1_ := Aside0.mk (hb); have n2_ := Aside0.mk (ho); clear HO_8; clear HB; clear HO_9; have HO_8 := n0_; have HB := n1_; have HO285 := n2_; clear n0_ n1_ n2_; clear ho hb hg hat)))
              go_roundg k2
              case measure => have := HJ3.out; have := HK2.out; omega
              case rel => exact ⟨(y283), (wrap64 (x10_2 + 1)), rsz, H', ⟨by have := HJ3.out; have := HK2.out; omega⟩, ⟨by (with_reducible repeat (first | apply Kd.R_alloc | apply Kd.R_drewN | apply Kd.R_drew)); exact HO_8.out⟩, ⟨by (with_reducible repeat (first | apply Kd.R_alloc | apply Kd.R_drewN | apply Kd.R_drew)); exact HO285.out⟩, ⟨bel⟩⟩
             ·
              rw [if_neg c36] at H
              exact absurd H (by simp)
            ·
             rw [if_neg c35] at H
             have c35b0 : (a2 == 3) = false := beq_eq_false_iff_ne.mpr c35
             have c35b1 : (a2 != 3) = true := bne_iff_ne.mpr c35
             by_cases c39 : x9_2.length < 140737488355328
             ·
              rw [if_pos c39] at H
              have LMc39 := Aside0.mk c39
              clear c39
              obtain ⟨y286, hy286⟩ : ∃ y_ : List Bool, y_ = (x9_2 ++ [false]) := ⟨_, rfl⟩
              replace H : (dropperref01_together.l0 k2 l0 l1 a2 t264 y286 (wrap64 (x10_2 + 1))) = some (r1, r2) := by first | (rw [hy286]; with_reducible exact H) | (have H2_ := (Option.bind_some _ _).symm.trans H; rw [hy286]; with_reducible exact H2_) | (have H2_ := (Option.bind_some _ _).symm.trans H; with_reducible exact H2_) | with_reducible exact H | (rw [hy286]; exact H) | exact H
              have Ny286 := Aside0.mk hy286
              clear hy286
              have H' := Aside0.mk H
              clear H
              obtain ⟨Ao40, co40, eo40⟩ := Kd.R_slice HO_8.out
              subst eo40
              have p267 : 0 ≤ (x10_2 : Int) := of_decide_eq_true asz
              have q267 : x10_2 < (t264.length : Int) := of_decide_eq_true asz
              obtain ⟨ad267, e267, hx267_0⟩ := Kd.at_int (Kd.R_reads' HO_8.out).2.2 x10_2 p267 q267
              cases e267
              replace p267 := eq_true p267
              replace q267 := eq_true q267
              go_wp2_with (first | (go_at_call 49; (with_reducible refine (dropperref01_depth.calls k2 _ _ l0 (rd t264 x10_2) t268 _ (cbz HR0) HC0.out A16.out).mono ?_); rintro e w' ⟨rfl, ⟨nd, rfl⟩⟩; (try first | exact ⟨rfl, _, World.drewN_drewN _ _ _⟩ | exact ⟨rfl, _, Eq.trans (World.drewN_drewN _ _ _) (congrArg (World.drewN _) (Nat.add_assoc _ _ _))⟩); have p269 : 0 ≤ (x10_2 : Int) := of_decide_eq_true asz; have q269 : x10_2 < (t264.length : Int) := of_decide_eq_true asz; obtain ⟨ad269, e269, hx269_0⟩ := Kd.at_int (Kd.R_reads' HO_8.out).2.2 x10_2 p269 q269; obtain rfl : ad267 = ad269 := (by injection e269); replace p269 := eq_true p269; replace q269 := eq_true q269) | (go_at_call 49; (with_reducible refine (dropperref01_depth.calls k2 _ _ l1 (rd t264 x10_2) t270 _ ?side1 HC1.out A17.out).mono ?_); (case side1 => repeat (first | exact (Kd.C_below HR1.out bel) | (with_reducible refine Kd.C_alloc ?_ _) | (with_reducible refine Kd.C_drewN ?_ _) | (with_reducible refine Kd.C_drew ?_))); rintro e w' ⟨rfl, ⟨nd, rfl⟩⟩; (try first | exact ⟨rfl, _, World.drewN_drewN _ _ _⟩ | exact ⟨rfl, _, Eq.trans (World.drewN_drewN _ _ _) (congrArg (World.drewN _) (Nat.add_assoc _ _ _))⟩)) | ((with_reducible refine gate_builtin (b := .append) (xs := #[.tmp 44, .tmp 74]) rfl ?_); at_builtin; refine Kd.R_append Kd.bool (w0 := w) w.heap.size rfl (.tmp 44) (.tmp 74) 65 4 (.bool false) 1 rfl Tryd.underlying65 info4 rfl (by decide) (by omega) u9 x9_2 false [.bool false] (fun _ => True) (fun _ => False) rfl rfl ?aP (fun _ hk => hk.elim) ?aF ?aO ?aB ?aS ?aL ?_; (case aP => exact rfl); (case aB => exact bel); (case aF => exact (fun _ _ => trivial)); (case aO => exact (ownx HO_9)); (case aS => exact (below_size bel)); (case aL => have := LMc39.out; omega); intro v287 w41 ho hb hg hat; rw [← Ny286.out] at ho; have n0_ := Aside0.mk (Kd.R_over' (ownx HO_8) (Kd.R_typed (ownx HO_9)) (by decide) hg); have n1_ := Aside0.mk (hb); have n2_ := Aside0.mk (ho); clear HO_8; clear HB; clear HO_9; have HO_8 := n0_; have HB := n1_; have HO288 := n2_; clear n0_ n1_ n2_; clear ho hb hg hat))
              repeat (go_quiet (first | (go_at_call 49; (with_reducible refine (dropperref01_depth.calls k2 _ _ l0 (rd t264 x10_2) t268 _ (cbz HR0) HC0.out A16.out).mono ?_); rintro e w' ⟨rfl, ⟨nd, rfl⟩⟩; (try first | exact ⟨rfl, _, World.drewN_drewN _ _ _⟩ | exact ⟨rfl, _, Eq.trans (World.drewN_drewN _ _ _) (congrArg (World.drewN _) (Nat.add_assoc _ _ _))⟩); have p269 : 0 ≤ (x10_2 : Int) := of_decide_eq_true asz; have q269 : x10_2 < (t264.length : Int) := of_decide_eq_true asz; obtain ⟨ad269, e269, hx269_0⟩ := Kd.at_int (Kd.R_reads' HO_8.out).2.2 x10_2 p269 q269; obtain rfl : ad267 = ad269 := (by injection e269); replace p269 := eq_true p269; replace q269 := eq_true q269) | (go_at_call 49; (with_reducible refine (dropperref01_depth.calls k2 _ _ l1 (rd t264 x10_2) t270 _ ?side1 HC1.out A17.out).mono ?_); (case side1 => repeat (first | exact (Kd.C_below HR1.out bel) | (with_reducible refine Kd.C_alloc ?_ _) | (with_reducible refine Kd.C_drewN ?_ _) | (with_reducible refine Kd.C_drew ?_))); rintro e w' ⟨rfl, ⟨nd, rfl⟩⟩; (try first | exact ⟨rfl, _, World.drewN_drewN _ _ _⟩ | exact ⟨rfl, _, Eq.trans (World.drewN_drewN _ _ _) (congrArg (World.drewN _) (Nat.add_assoc _ _ _))⟩)) | ((with_reducible refine gate_builtin (b := .append) (xs := #[.tmp 44, .tmp 74]) rfl ?_); at_builtin; refine Kd.R_append Kd.bool (w0 := w) w.heap.size rfl (.tmp 44) (.tmp 74) 65 4 (.bool false) 1 rfl Tryd.underlying65 info4 rfl (by decide) (by omega) u9 x9_2 false [.bool false] (fun _ => True) (fun _ => False) rfl rfl ?aP (fun _ hk => hk.elim) ?aF ?aO ?aB ?aS ?aL ?_; (case aP => exact rfl); (case aB => exact bel); (case aF => exact (fun _ _ => trivial)); (case aO => exact (ownx HO_9)); (case aS => exact (below_size bel)); (case aL => have := LMc39.out; omega); intro v287 w41 ho hb hg hat; rw [← Ny286.out] at ho; have n0_ := Aside0.mk (Kd.R_over' (ownx HO_8) (Kd.R_typed (ownx HO_9)) (by decide) hg); have n1_ := Aside0.mk (hb); have n2_ := Aside0.mk (ho); clear HO_8; clear HB; clear HO_9; have HO_8 := n0_; have HB := n1_; have HO288 := n2_; clear n0_ n1_ n2_; clear ho hb hg hat)); try go_wp2_with (first | (go_at_call 49; (with_reducible refine (dropperref01_depth.calls k2 _ _ l0 (rd t264 x10_2) t268 _ (cbz HR0) HC0.out A16.out).mono ?_); rintro e w' ⟨rfl, ⟨nd, rfl⟩⟩; (try first | exact ⟨rfl, _, World.drewN_drewN _ _ _⟩ | exact ⟨rfl, _, Eq.trans (World.drewN_drewN _ _ _) (congrArg (World.drewN _) (Nat.add_assoc _ _ _))⟩); have p269 : 0 ≤ (x10_2 : Int) := of_decide_eq_true asz; have q269 : x10_2 < (t264.length : Int) := of_decide_eq_true asz; obtain ⟨ad269, e269, hx269_0⟩ := Kd.at_int (Kd.R_reads' HO_8.out).2.2 x10_2 p269 q269; obtain rfl : ad267 = ad269 := (by injection e269); replace p269 := eq_true p269; replace q269 := eq_true q269) | (go_at_call 49; (with_reducible refine (dropperref01_depth.calls k2 _ _ l1 (rd t264 x10_2) t270 _ ?side1 HC1.out A17.out).mono ?_); (case side1 => repeat (first | exact (Kd.C_below HR1.out bel) | (with_reducible refine Kd.C_alloc ?_ _) | (with_reducible refine Kd.C_drewN ?_ _) | (with_reducible refine Kd.C_drew ?_))); rintro e w' ⟨rfl, ⟨nd, rfl⟩⟩; (try first | exact ⟨rfl, _, World.drewN_drewN _ _ _⟩ | exact ⟨rfl, _, Eq.trans (World.drewN_drewN _ _ _) (congrArg (World.drewN _) (Nat.add_assoc _ _ _))⟩)) | ((with_reducible refine gate_builtin (b := .append) (xs := #[.tmp 44, .tmp 74]) rfl ?_); at_builtin; refine Kd.R_append Kd.bool (w0 := w) w.heap.size rfl (.tmp 44) (.tmp 74) 65 4 (.bool false) 1 rfl Tryd.underlying65 info4 rfl (by decide) (by omega) u9 x9_2 false [.bool false] (fun _ => True) (fun _ => False) rfl rfl ?aP (fun _ hk => hk.elim) ?aF ?aO ?aB ?aS ?aL ?_; (case aP => exact rfl); (case aB => exact bel); (case aF => exact (fun _ _ => trivial)); (case aO => exact (ownx HO_9)); (case aS => exact (below_size bel)); (case aL => have := LMc39.out; omega); intro v287 w41 ho hb hg hat; rw [← Ny286.out] at ho; have n0_ := Aside0.mk (Kd.R_over' (ownx HO_8) (Kd.R_typed (ownx HO_9)) (by decide) hg); have n1_ := Aside0.mk (hb); have n2_ := Aside0.mk (ho); clear HO_8; clear HB; clear HO_9; have HO_8 := n0_; have HB := n1_; have HO288 := n2_; clear n0_ n1_ n2_; clear ho hb hg hat)))
              go_roundg k2
              case measure => have := HJ3.out; have := HK2.out; omega
              case rel => exact ⟨(y286), (wrap64 (x10_2 + 1)), rsz, H', ⟨by have := HJ3.out; have := HK2.out; omega⟩, ⟨by (with_reducible repeat (first | apply Kd.R_alloc | apply Kd.R_drewN | apply Kd.R_drew)); exact HO_8.out⟩, ⟨by (with_reducible repeat (first | apply Kd.R_alloc | apply Kd.R_drewN | apply Kd.R_drew)); exact HO288.out⟩, ⟨bel⟩⟩
             ·
              rw [if_neg c39] at H
              exact absurd H (by simp)
        ·
         rw [if_neg c18] at H
         have c18b0 : (a2 == 1) = false := beq_eq_false_iff_ne.mpr c18
         have c18b1 : (a2 != 1) = true := bne_iff_ne.mpr c18
         by_cases c42 : a2 = 2
         ·
          rw [if_pos c42] at H
          have c42b0 : (a2 == 2) = true := beq_iff_eq.mpr c42
          have c42b1 : (a2 != 2) = false := bne_eq_false_iff_eq.mpr c42
          clear c42
          by_cases c43 : t268 > 0
          ·
           rw [if_pos c43] at H
           have c43b0 : decide (0 < t268) = true := decide_eq_true c43
           clear c43
           by_cases c44 : t270 > 0
           ·
            rw [if_pos c44] at H
            have c44b0 : decide (0 < t270) = true := decide_eq_true c44
            clear c44
            by_cases c45 : x9_2.length < 140737488355328
            ·
             rw [if_pos c45] at H
             have LMc45 := Aside0.mk c45
             clear c45
             obtain ⟨y289, hy289⟩ : ∃ y_ : List Bool, y_ = (x9_2 ++ [true]) := ⟨_, rfl⟩
             replace H : (dropperref01_together.l0 k2 l0 l1 a2 t264 y289 (wrap64 (x10_2 + 1))) = some (r1, r2) := by first | (rw [hy289]; with_reducible exact H) | (have H2_ := (Option.bind_some _ _).symm.trans H; rw [hy289]; with_reducible exact H2_) | (have H2_ := (Option.bind_some _ _).symm.trans H; with_reducible exact H2_) | with_reducible exact H | (rw [hy289]; exact H) | exact H
             have Ny289 := Aside0.mk hy289
             clear hy289
             have H' := Aside0.mk H
             clear H
             obtain ⟨Ao46, co46, eo46⟩ := Kd.R_slice HO_8.out
             subst eo46
             have p267 : 0 ≤ (x10_2 : Int) := of_decide_eq_true asz
             have q267 : x10_2 < (t264.length : Int) := of_decide_eq_true asz
             obtain ⟨ad267, e267, hx267_0⟩ := Kd.at_int (Kd.R_reads' HO_8.out).2.2 x10_2 p267 q267
             cases e267
             replace p267 := eq_true p267
             replace q267 := eq_true q267
             go_wp2_with (first | (go_at_call 49; (with_reducible refine (dropperref01_depth.calls k2 _ _ l0 (rd t264 x10_2) t268 _ (cbz HR0) HC0.out A16.out).mono ?_); rintro e w' ⟨rfl, ⟨nd, rfl⟩⟩; (try first | exact ⟨rfl, _, World.drewN_drewN _ _ _⟩ | exact ⟨rfl, _, Eq.trans (World.drewN_drewN _ _ _) (congrArg (World.drewN _) (Nat.add_assoc _ _ _))⟩); have p269 : 0 ≤ (x10_2 : Int) := of_decide_eq_true asz; have q269 : x10_2 < (t264.length : Int) := of_decide_eq_true asz; obtain ⟨ad269, e269, hx269_0⟩ := Kd.at_int (Kd.R_reads' HO_8.out).2.2 x10_2 p269 q269; obtain rfl : ad267 = ad269 := (by injection e269); replace p269 := eq_true p269; replace q269 := eq_true q269) | (go_at_call 49; (with_reducible refine (dropperref01_depth.calls k2 _ _ l1 (rd t264 x10_2) t270 _ ?side1 HC1.out A17.out).mono ?_); (case side1 => repeat (first | exact (Kd.C_below HR1.out bel) | (with_reducible refine Kd.C_alloc ?_ _) | (with_reducible refine Kd.C_drewN ?_ _) | (with_reducible refine Kd.C_drew ?_))); rintro e w' ⟨rfl, ⟨nd, rfl⟩⟩; (try first | exact ⟨rfl, _, World.drewN_drewN _ _ _⟩ | exact ⟨rfl, _, Eq.trans (World.drewN_drewN _ _ _) (congrArg (World.drewN _) (Nat.add_assoc _ _ _))⟩)) | ((with_reducible refine gate_builtin (b := .append) (xs := #[.tmp 44, .tmp 74]) rfl ?_); at_builtin; refine Kd.R_append Kd.bool (w0 := w) w.heap.size rfl (.tmp 44) (.tmp 74) 65 4 (.bool false) 1 rfl Tryd.underlying65 info4 rfl (by decide) (by omega) u9 x9_2 true [.bool true] (fun _ => True) (fun _ => False) rfl rfl ?aP (fun _ hk => hk.elim) ?aF ?aO ?aB ?aS ?aL ?_; (case aP => exact rfl); (case aB => exact bel); (case aF => exact (fun _ _ => trivial)); (case aO => exact (ownx HO_9)); (case aS => exact (below_size bel)); (case aL => have := LMc45.out; omega); intro v290 w47 ho hb hg hat; rw [← Ny289.out] at ho; have n0_ := Aside0.mk (Kd.R_over' (ownx HO_8) (Kd.R_typed (ownx HO_9)) (by decide) hg); have n1_ := Aside0.mk (hb); have n2_ := Aside0.mk (ho); clear HO_8; clear HB; clear HO_9; have HO_8 := n0_; have HB := n1_; have HO291 := n2_; clear n0_ n1_ n2_; clear ho hb hg hat))
             repeat (go_quiet (first | (go_at_call 49; (with_reducible refine (dropperref01_depth.calls k2 _ _ l0 (rd t264 x10_2) t268 _ (cbz HR0) HC0.out A16.out).mono ?_); rintro e w' ⟨rfl, ⟨nd, rfl⟩⟩; (try first | exact ⟨rfl, _, World.drewN_drewN _ _ _⟩ | exact ⟨rfl, _, Eq.trans (World.drewN_drewN _ _ _) (congrArg (World.drewN _) (Nat.add_assoc _ _ _))⟩); have p269 : 0 ≤ (x10_2 : Int) := of_decide_eq_true asz; have q269 : x10_2 < (t264.length : Int) := of_decide_eq_true asz; obtain ⟨ad269, e269, hx269_0⟩ := Kd.at_int (Kd.R_reads' HO_8.out).2.2 x10_2 p269 q269; obtain rfl : ad267 = ad269 := (by injection e269); replace p269 := eq_true p269; replace q269 := eq_true q269) | (go_at_call 49; (with_reducible refine (dropperref01_depth.calls k2 _ _ l1 (rd t264 x10_2) t270 _ ?side1 HC1.out A17.out).mono ?_); (case side1 => repeat (first | exact (Kd.C_below HR1.out bel) | (with_reducible refine Kd.C_alloc ?_ _) | (with_reducible refine Kd.C_drewN ?_ _) | (with_reducible refine Kd.C_drew ?_))); rintro e w' ⟨rfl, ⟨nd, rfl⟩⟩; (try first | exact ⟨rfl, _, World.drewN_drewN _ _ _⟩ | exact ⟨rfl, _, Eq.trans (World.drewN_drewN _ _ _) (congrArg (World.drewN _) (Nat.add_assoc _ _ _))⟩)) | ((with_reducible refine gate_builtin (b := .append) (xs := #[.tmp 44, .tmp 74]) rfl ?_); at_builtin; refine Kd.R_append Kd.bool (w0 := w) w.heap.size rfl (.tmp 44) (.tmp 74) 65 4 (.bool false) 1 rfl Tryd.underlying65 info4 rfl (by decide) (by omega) u9 x9_2 true [.bool true] (fun _ => True) (fun _ => False) rfl rfl ?aP (fun _ hk => hk.elim) ?aF ?aO ?aB ?aS ?aL ?_; (case aP => exact rfl); (case aB => exact bel); (case aF => exact (fun _ _ => trivial)); (case aO => exact (ownx HO_9)); (case aS => exact (below_size bel)); (case aL => have := LMc45.out; omega); intro v290 w47 ho hb hg hat; rw [← Ny289.out] at ho; have n0_ := Aside0.mk (Kd.R_over' (ownx HO_8) (Kd.R_typed (ownx HO_9)) (by decide) hg); have n1_ := Aside0.mk (hb); have n2_ := Aside0.mk (ho); clear HO_8; clear HB; clear HO_9; have HO_8 := n0_; have HB := n1_; have HO291 := n2_; clear n0_ n1_ n2_; clear ho hb hg hat)); try go_wp2_with (first | (go_at_call 49; (with_reducible refine (dropperref01_depth.calls k2 _ _ l0 (rd t264 x10_2) t268 _ (cbz HR0) HC0.out A16.out).mono ?_); rintro e w' ⟨rfl, ⟨nd, rfl⟩⟩; (try first | exact ⟨rfl, _, World.drewN_drewN _ _ _⟩ | exact ⟨rfl, _, Eq.trans (World.drewN_drewN _ _ _) (congrArg (World.drewN _) (Nat.add_assoc _ _ _))⟩); have p269 : 0 ≤ (x10_2 : Int) := of_decide_eq_true asz; have q269 : x10_2 < (t264.length : Int) := of_decide_eq_true asz; obtain ⟨ad269, e269, hx269_0⟩ := Kd.at_int (Kd.R_reads' HO_8.out).2.2 x10_2 p269 q269; obtain rfl : ad267 = ad269 := (by injection e269); replace p269 := eq_true p269; replace q269 := eq_true q269) | (go_at_call 49; (with_reducible refine (dropperref01_depth.calls k2 _ _ l1 (rd t264 x10_2) t270 _ ?side1 HC1.out A17.out).mono ?_); (case side1 => repeat (first | exact (Kd.C_below HR1.out bel) | (with_reducible refine Kd.C_alloc ?_ _) | (with_reducible refine Kd.C_drewN ?_ _) | (with_reducible refine Kd.C_drew ?_))); rintro e w' ⟨rfl, ⟨nd, rfl⟩⟩; (try first | exact ⟨rfl, _, World.drewN_drewN _ _ _⟩ | exact ⟨rfl, _, Eq.trans (World.drewN_drewN _ _ _) (congrArg (World.drewN _) (Nat.add_assoc _ _ _))⟩)) | ((with_reducible refine gate_builtin (b := .append) (xs := #[.tmp 44, .tmp 74]) rfl ?_); at_builtin; refine Kd.R_append Kd.bool (w0 := w) w.heap.size rfl (.tmp 44) (.tmp 74) 65 4 (.bool false) 1 rfl Tryd.underlying65 info4 rfl (by decide) (by omega) u9 x9_2 true [.bool true] (fun _ => True) (fun _ => False) rfl rfl ?aP (fun _ hk => hk.elim) ?aF ?aO ?aB ?aS ?aL ?_; (case aP => exact rfl); (case aB => exact bel); (case aF => exact (fun _ _ => trivial)); (case aO => exact (ownx HO_9)); (case aS => exact (below_size bel)); (case aL => have := LMc45.out; omega); intro v290 w47 ho hb hg hat; rw [← Ny289.out] at ho; have n0_ := Aside0.mk (Kd.R_over' (ownx HO_8) (Kd.R_typed (ownx HO_9)) (by decide) hg); have n1_ := Aside0.mk (hb); have n2_ := Aside0.mk (ho); clear HO_8; clear HB; clear HO_9; have HO_8 := n0_; have HB := n1_; have HO291 := n2_; clear n0_ n1_ n2_; clear ho hb hg hat)))
             go_roundg k2
             case measure => have := HJ3.out; have := HK2.out; omega
             case rel => exact ⟨(y289), (wrap64 (x10_2 + 1)), rsz, H', ⟨by have := HJ3.out; have := HK2.out; omega⟩, ⟨by (with_reducible repeat (first | apply Kd.R_alloc | apply Kd.R_drewN | apply Kd.R_drew)); exact HO_8.out⟩, ⟨by (with_reducible repeat (first | apply Kd.R_alloc | apply Kd.R_drewN | apply Kd.R_drew)); exact HO291.out⟩, ⟨bel⟩⟩
            ·
             rw [if_neg c45] at H
             exact absurd H (by simp)
           ·
            rw [if_neg c44] at H
            have c44b0 : decide (0 < t270) = false := decide_eq_false c44
            clear c44
            by_cases c48 : a2 = 3
            ·
             rw [if_pos c48] at H
             have c48b0 : (a2 == 3) = true := beq_iff_eq.mpr c48
             have c48b1 : (a2 != 3) = false := bne_eq_false_iff_eq.mpr c48
             clear c48
             exact absurd ((beq_iff_eq.mp c42b0).symm.trans (beq_iff_eq.mp c48b0)) (by decide)
            ·
             rw [if_neg c48] at H
             have c48b0 : (a2 == 3) = false := beq_eq_false_iff_ne.mpr c48
             have c48b1 : (a2 != 3) = true := bne_iff_ne.mpr c48
             by_cases c52 : x9_2.length < 140737488355328
             ·
              rw [if_pos c52] at H
              have LMc52 := Aside0.mk c52
              clear c52
              obtain ⟨y295, hy295⟩ : ∃ y_ : List Bool, y_ = (x9_2 ++ [false]) := ⟨_, rfl⟩
              replace H : (dropperref01_together.l0 k2 l0 l1 a2 t264 y295 (wrap64 (x10_2 + 1))) = some (r1, r2) := by first | (rw [hy295]; with_reducible exact H) | (have H2_ := (Option.bind_some _ _).symm.trans H; rw [hy295]; with_reducible exact H2_) | (have H2_ := (Option.bind_some _ _).symm.trans H; with_reducible exact H2_) | with_reducible exact H | (rw [hy295]; exact H) | exact H
              have Ny295 := Aside0.mk hy295
              clear hy295
              have H' := Aside0.mk H
              clear H
              obtain ⟨Ao53, co53, eo53⟩ := Kd.R_slice HO_8.out
              subst eo53
              have p267 : 0 ≤ (x10_2 : Int) := of_decide_eq_true asz
              have q267 : x10_2 < (t264.length : Int) := of_decide_eq_true asz
              obtain ⟨ad267, e267, hx267_0⟩ := Kd.at_int (Kd.R_reads' HO_8.out).2.2 x10_2 p267 q267
              cases e267
              replace p267 := eq_true p267
              replace q267 := eq_true q267
              go_wp2_with (first | (go_at_call 49; (with_reducible refine (dropperref01_depth.calls k2 _ _ l0 (rd t264 x10_2) t268 _ (cbz HR0) HC0.out A16.out).mono ?_); rintro e w' ⟨rfl, ⟨nd, rfl⟩⟩; (try first | exact ⟨rfl, _, World.drewN_drewN _ _ _⟩ | exact ⟨rfl, _, Eq.trans (World.drewN_drewN _ _ _) (congrArg (World.drewN _) (Nat.add_assoc _ _ _))⟩); have p269 : 0 ≤ (x10_2 : Int) := of_decide_eq_true asz; have q269 : x10_2 < (t264.length : Int) := of_decide_eq_true asz; obtain ⟨ad269, e269, hx269_0⟩ := Kd.at_int (Kd.R_reads' HO_8.out).2.2 x10_2 p269 q269; obtain rfl : ad267 = ad269 := (by injection e269); replace p269 := eq_true p269; replace q269 := eq_true q269) | (go_at_call 49; (with_reducible refine (dropperref01_depth.calls k2 _ _ l1 (rd t264 x10_2) t270 _ ?side1 HC1.out A17.out).mono ?_); (case side1 => repeat (first | exact (Kd.C_below HR1.out bel) | (with_reducible refine Kd.C_alloc ?_ _) | (with_reducible refine Kd.C_drewN ?_ _) | (with_reducible refine Kd.C_drew ?_))); rintro e w' ⟨rfl, ⟨nd, rfl⟩⟩; (try first | exact ⟨rfl, _, World.drewN_drewN _ _ _⟩ | exact ⟨rfl, _, Eq.trans (World.drewN_drewN _ _ _) (congrArg (World.drewN _) (Nat.add_assoc _ _ _))⟩)) | ((with_reducible refine gate_builtin (b := .append) (xs := #[.tmp 44, .tmp 74]) rfl ?_); at_builtin; refine Kd.R_append Kd.bool (w0 := w) w.heap.size rfl (.tmp 44) (.tmp 74) 65 4 (.bool false) 1 rfl Tryd.underlying65 info4 rfl (by decide) (by omega) u9 x9_2 false [.bool false] (fun _ => True) (fun _ => False) rfl rfl ?aP (fun _ hk => hk.elim) ?aF ?aO ?aB ?aS ?aL ?_; (case aP => exact rfl); (case aB => exact bel); (case aF => exact (fun _ _ => trivial)); (case aO => exact (ownx HO_9)); (case aS => exact (below_size bel)); (case aL => have := LMc52.out; omega); intro v296 w54 ho hb hg hat; rw [← Ny295.out] at ho; have n0_ := Aside0.mk (Kd.R_over' (ownx HO_8) (Kd.R_typed (ownx HO_9)) (by decide) hg); have n1_ := Aside0.mk (hb); have n2_ := Aside0.mk (ho); clear HO_8; clear HB; clear HO_9; have HO_8 := n0_; have HB := n1_; have HO297 := n2_; clear n0_ n1_ n2_; clear ho hb hg hat))
              repeat (go_quiet (first | (go_at_call 49; (with_reducible refine (dropperref01_depth.calls k2 _ _ l0 (rd t264 x10_2) t268 _ (cbz HR0) HC0.out A16.out).mono ?_); rintro e w' ⟨rfl, ⟨nd, rfl⟩⟩; (try first | exact ⟨rfl, _, World.drewN_drewN _ _ _⟩ | exact ⟨rfl, _, Eq.trans (World.drewN_drewN _ _ _) (congrArg (World.drewN _) (Nat.add_assoc _ _ _))⟩); have p269 : 0 ≤ (x10_2 : Int) := of_decide_eq_true asz; have q269 : x10_2 < (t264.length : Int) := of_decide_eq_true asz; obtain ⟨ad269, e269, hx269_0⟩ := Kd.at_int (Kd.R_reads' HO_8.out).2.2 x10_2 p269 q269; obtain rfl : ad267 = ad269 := (by injection e269); replace p269 := eq_true p269; replace q269 := eq_true q269) | (go_at_call 49; (with_reducible refine (dropperref01_depth.calls k2 _ _ l1 (rd t264 x10_2) t270 _ ?side1 HC1.out A17.out).mono ?_); (case side1 => repeat (first | exact (Kd.C_below HR1.out bel) | (with_reducible refine Kd.C_alloc ?_ _) | (with_reducible refine Kd.C_drewN ?_ _) | (with_reducible refine Kd.C_drew ?_))); rintro e w' ⟨rfl, ⟨nd, rfl⟩⟩; (try first | exact ⟨rfl, _, World.drewN_drewN _ _ _⟩ | exact ⟨rfl, _, Eq.trans (World.drewN_drewN _ _ _) (congrArg (World.drewN _) (Nat.add_assoc _ _ _))⟩)) | ((with_reducible refine gate_builtin (b := .append) (xs := #[.tmp 44, .tmp 74]) rfl ?_); at_builtin; refine Kd.R_append Kd.bool (w0 := w) w.heap.size rfl (.tmp 44) (.tmp 74) 65 4 (.bool false) 1 rfl Tryd.underlying65 info4 rfl (by decide) (by omega) u9 x9_2 false [.bool false] (fun _ => True) (fun _ => False) rfl rfl ?aP (fun _ hk => hk.elim) ?aF ?aO ?aB ?aS ?aL ?_; (case aP => exact rfl); (case aB => exact bel); (case aF => exact (fun _ _ => trivial)); (case aO => exact (ownx HO_9)); (case aS => exact (below_size bel)); (case aL => have := LMc52.out; omega); intro v296 w54 ho hb hg hat; rw [← Ny295.out] at ho; have n0_ := Aside0.mk (Kd.R_over' (ownx HO_8) (Kd.R_typed (ownx HO_9)) (by decide) hg); have n1_ := Aside0.mk (hb); have n2_ := Aside0.mk (ho); clear HO_8; clear HB; clear HO_9; have HO_8 := n0_; have HB := n1_; have HO297 := n2_; clear n0_ n1_ n2_; clear ho hb hg hat)); try go_wp2_with (first | (go_at_call 49; (with_reducible refine (dropperref01_depth.calls k2 _ _ l0 (rd t264 x10_2) t268 _ (cbz HR0) HC0.out A16.out).mono ?_); rintro e w' ⟨rfl, ⟨nd, rfl⟩⟩; (try first | exact ⟨rfl, _, World.drewN_drewN _ _ _⟩ | exact ⟨rfl, _, Eq.trans (World.drewN_drewN _ _ _) (congrArg (World.drewN _) (Nat.add_assoc _ _ _))⟩); have p269 : 0 ≤ (x10_2 : Int) := of_decide_eq_true asz; have q269 : x10_2 < (t264.length : Int) := of_decide_eq_true asz; obtain ⟨ad269, e269, hx269_0⟩ := Kd.at_int (Kd.R_reads' HO_8.out).2.2 x10_2 p269 q269; obtain rfl : ad267 = ad269 := (by injection e269); replace p269 := eq_true p269; replace q269 := eq_true q269) | (go_at_call 49; (with_reducible refine (dropperref01_depth.calls k2 _ _ l1 (rd t264 x10_2) t270 _ ?side1 HC1.out A17.out).mono ?_); (case side1 => repeat (first | exact (Kd.C_below HR1.out bel) | (with_reducible refine Kd.C_alloc ?_ _) | (with_reducible refine Kd.C_drewN ?_ _) | (with_reducible refine Kd.C_drew ?_))); rintro e w' ⟨rfl, ⟨nd, rfl⟩⟩; (try first | exact ⟨rfl, _, World.drewN_drewN _ _ _⟩ | exact ⟨rfl, _, Eq.trans (World.drewN_drewN _ _ _) (congrArg (World.drewN _) (Nat.add_assoc _ _ _))⟩)) | ((with_reducible refine gate_builtin (b := .append) (xs := #[.tmp 44, .tmp 74]) rfl ?_); at_builtin; refine Kd.R_append Kd.bool (w0 := w) w.heap.size rfl (.tmp 44) (.tmp 74) 65 4 (.bool false) 1 rfl Tryd.underlying65 info4 rfl (by decide) (by omega) u9 x9_2 false [.bool false] (fun _ => True) (fun _ => False) rfl rfl ?aP (fun _ hk => hk.elim) ?aF ?aO ?aB ?aS ?aL ?_; (case aP => exact rfl); (case aB => exact bel); (case aF => exact (fun _ _ => trivial)); (case aO => exact (ownx HO_9)); (case aS => exact (below_size bel)); (case aL => have := LMc52.out; omega); intro v296 w54 ho hb hg hat; rw [← Ny295.out] at ho; have n0_ := Aside0.mk (Kd.R_over' (ownx HO_8) (Kd.R_typed (ownx HO_9)) (by decide) hg); have n1_ := Aside0.mk (hb); have n2_ := Aside0.mk (ho); clear HO_8; clear HB; clear HO_9; have HO_8 := n0_; have HB := n1_; have HO297 := n2_; clear n0_ n1_ n2_; clear ho hb hg hat)))
              go_roundg k2
              case measure => have := HJ3.out; have := HK2.out; omega
              case rel => exact ⟨(y295), (wrap64 (x10_2 + 1)), rsz, H', ⟨by have := HJ3.out; have := HK2.out; omega⟩, ⟨by (with_reducible repeat (first | apply Kd.R_alloc | apply Kd.R_drewN | apply Kd.R_drew)); exact HO_8.out⟩, ⟨by (with_reducible repeat (first | apply Kd.R_alloc | apply Kd.R_drewN | apply Kd.R_drew)); exact HO297.out⟩, ⟨bel⟩⟩
             ·
              rw [if_neg c52] at H
              exact absurd H (by simp)
          ·
           rw [if_neg c43] at H
           have c43b0 : decide (0 < t268) = false := decide_eq_false c43
           clear c43
           by_cases c55 : a2 = 3
           ·
            rw [if_pos c55] at H
            have c55b0 : (a2 == 3) = true := beq_iff_eq.mpr c55
            have c55b1 : (a2 != 3) = false := bne_eq_false_iff_eq.mpr c55
            clear c55
            by_cases c56 : x9_2.length < 140737488355328
            ·
             rw [if_pos c56] at H
             have LMc56 := Aside0.mk c56
             clear c56
             obtain ⟨y298, hy298⟩ : ∃ y_ : List Bool, y_ = (x9_2 ++ [false]) := ⟨_, rfl⟩
             replace H : (dropperref01_together.l0 k2 l0 l1 a2 t264 y298 (wrap64 (x10_2 + 1))) = some (r1, r2) := by first | (rw [hy298]; with_reducible exact H) | (have H2_ := (Option.bind_some _ _).symm.trans H; rw [hy298]; with_reducible exact H2_) | (have H2_ := (Option.bind_some _ _).symm.trans H; with_reducible exact H2_) | with_reducible exact H | (rw [hy298]; exact H) | exact H
             have Ny298 := Aside0.mk hy298
             clear hy298
             have H' := Aside0.mk H
             clear H
             obtain ⟨Ao57, co57, eo57⟩ := Kd.R_slice HO_8.out
             subst eo57
             have p267 : 0 ≤ (x10_2 : Int) := of_decide_eq_true asz
             have q267 : x10_2 < (t264.length : Int) := of_decide_eq_true asz
             obtain ⟨ad267, e267, hx267_0⟩ := Kd.at_int (Kd.R_reads' HO_8.out).2.2 x10_2 p267 q267
             cases e267
             replace p267 := eq_true p267
             replace q267 := eq_true q267
             go_wp2_with (first | (go_at_call 49; (with_reducible refine (dropperref01_depth.calls k2 _ _ l0 (rd t264 x10_2) t268 _ (cbz HR0) HC0.out A16.out).mono ?_); rintro e w' ⟨rfl, ⟨nd, rfl⟩⟩; (try first | exact ⟨rfl, _, World.drewN_drewN _ _ _⟩ | exact ⟨rfl, _, Eq.trans (World.drewN_drewN _ _ _) (congrArg (World.drewN _) (Nat.add_assoc _ _ _))⟩); have p269 : 0 ≤ (x10_2 : Int) := of_decide_eq_true asz; have q269 : x10_2 < (t264.length : Int) := of_decide_eq_true asz; obtain ⟨ad269, e269, hx269_0⟩ := Kd.at_int (Kd.R_reads' HO_8.out).2.2 x10_2 p269 q269; obtain rfl : ad267 = ad269 := (by injection e269); replace p269 := eq_true p269; replace q269 := eq_true q269) | (go_at_call 49; (with_reducible refine (dropperref01_depth.calls k2 _ _ l1 (rd t264 x10_2) t270 _ ?side1 HC1.out A17.out).mono ?_); (case side1 => repeat (first | exact (Kd.C_below HR1.out bel) | (with_reducible refine Kd.C_alloc ?_ _) | (with_reducible refine Kd.C_drewN ?_ _) | (with_reducible refine Kd.C_drew ?_))); rintro e w' ⟨rfl, ⟨nd, rfl⟩⟩; (try first | exact ⟨rfl, _, World.drewN_drewN _ _ _⟩ | exact ⟨rfl, _, Eq.trans (World.drewN_drewN _ _ _) (congrArg (World.drewN _) (Nat.add_assoc _ _ _))⟩)) | ((with_reducible refine gate_builtin (b := .append) (xs := #[.tmp 44, .tmp 74]) rfl ?_); at_builtin; refine Kd.R_append Kd.bool (w0 := w) w.heap.size rfl (.tmp 44) (.tmp 74) 65 4 (.bool false) 1 rfl Tryd.underlying65 info4 rfl (by decide) (by omega) u9 x9_2 false [.bool false] (fun _ => True) (fun _ => False) rfl rfl ?aP (fun _ hk => hk.elim) ?aF ?aO ?aB ?aS ?aL ?_; (case aP => exact rfl); (case aB => exact bel); (case aF => exact (fun _ _ => trivial)); (case aO => exact (ownx HO_9)); (case aS => exact (below_size bel)); (case aL => have := LMc56.out; omega); intro v299 w58 ho hb hg hat; rw [← Ny298.out] at ho; have n0_ := Aside0.mk (Kd.R_over' (ownx HO_8) (Kd.R_typed (ownx HO_9)) (by decide) hg); have n1_ := Aside0.mk (hb); have n2_ := Aside0.mk (ho); clear HO_8; clear HB; clear HO_9; have HO_8 := n0_; have HB := n1_; have HO300 := n2_; clear n0_ n1_ n2_; clear ho hb hg hat))
             repeat (go_quiet (first | (go_at_call 49; (with_reducible refine (dropperref01_depth.calls k2 _ _ l0 (rd t264 x10_2) t268 _ (cbz HR0) HC0.out A16.out).mono ?_); rintro e w' ⟨rfl, ⟨nd, rfl⟩⟩; (try first | exact ⟨rfl, _, World.drewN_drewN _ _ _⟩ | exact ⟨rfl, _, Eq.trans (World.drewN_drewN _ _ _) (congrArg (World.drewN _) (Nat.add_assoc _ _ _))⟩); have p269 : 0 ≤ (x10_2 : Int) := of_decide_eq_true asz; have q269 : x10_2 < (t264.length : Int) := of_decide_eq_true asz; obtain ⟨ad269, e269, hx269_0⟩ := Kd.at_int (Kd.R_reads' HO_8.out).2.2 x10_2 p269 q269; obtain rfl : ad267 = ad269 := (by injection e269); replace p269 := eq_true p269; replace q269 := eq_true q269) | (go_at_call 49; (with_reducible refine (dropperref01_depth.calls k2 _ _ l1 (rd t264 x10_2) t270 _ ?side1 HC1.out A17.out).mono ?_); (case side1 => repeat (first | exact (Kd.C_below HR1.out bel) | (with_reducible refine Kd.C_alloc ?_ _) | (with_reducible refine Kd.C_drewN ?_ _) | (with_reducible refine Kd.C_drew ?_))); rintro e w' ⟨rfl, ⟨nd, rfl⟩⟩; (try first | exact ⟨rfl, _, World.drewN_drewN _ _ _⟩ | exact ⟨rfl, _, Eq.trans (World.drewN_drewN _ _ _) (congrArg (World.drewN _) (Nat.add_assoc _ _ _))⟩)) | ((with_reducible refine gate_builtin (b := .append) (xs := #[.tmp 44, .tmp 74]) rfl ?_); at_builtin; refine Kd.R_append Kd.bool (w0 := w) w.heap.size rfl (.tmp 44) (.tmp 74) 65 4 (.bool false) 1 rfl Tryd.underlying65 info4 rfl (by decide) (by omega) u9 x9_2 false [.bool false] (fun _ => True) (fun _ => False) rfl rfl ?aP (fun _ hk => hk.elim) ?aF ?aO ?aB ?aS ?aL ?_; (case aP => exact rfl); (case aB => exact bel); (case aF => exact (fun _ _ => trivial)); (case aO => exact (ownx HO_9)); (case aS => exact (below_size bel)); (case aL => have := LMc56.out; omega); intro v299 w58 ho hb hg hat; rw [← Ny298.out] at ho; have n0_ := Aside0.mk (Kd.R_over' (ownx HO_8) (Kd.R_typed (ownx HO_9)) (by decide) hg); have n1_ := Aside0.mk (hb); have n2_ := Aside0.mk (ho); clear HO_8; clear HB; clear HO_9; have HO_8 := n0_; have HB := n1_; have HO300 := n2_; clear n0_ n1_ n2_; clear ho hb hg hat)); try go_wp2_with (first | (go_at_call 49; (with_reducible refine (dropperref01_depth.calls k2 _ _ l0 (rd t264 x10_2) t268 _ (cbz HR0) HC0.out A16.out).mono ?_); rintro e w' ⟨rfl, ⟨nd, rfl⟩⟩; (try first | exact ⟨rfl, _, World.drewN_drewN _ _ _⟩ | exact ⟨rfl, _, Eq.trans (World.drewN_drewN _ _ _) (congrArg (World.drewN _) (Nat.add_assoc _ _ _))⟩); have p269 : 0 ≤ (x10_2 : Int) := of_decide_eq_true asz; have q269 : x10_2 < (t264.length : Int) := of_decide_eq_true asz; obtain ⟨ad269, e269, hx269_0⟩ := Kd.at_int (Kd.R_reads' HO_8.out).2.2 x10_2 p269 q269; obtain rfl : ad267 = ad269 := (by injection e269); replace p269 := eq_true p269; replace q269 := eq_true q269) | (go_at_call 49; (with_reducible refine (dropperref01_depth.calls k2 _ _ l1 (rd t264 x10_2) t270 _ ?side1 HC1.out A17.out).mono ?_); (case side1 => repeat (first | exact (Kd.C_below HR1.out bel) | (with_reducible refine Kd.C_alloc ?_ _) | (with_reducible refine Kd.C_drewN ?_ _) | (with_reducible refine Kd.C_drew ?_))); rintro e w' ⟨rfl, ⟨nd, rfl⟩⟩; (try first | exact ⟨rfl, _, World.drewN_drewN _ _ _⟩ | exact ⟨rfl, _, Eq.trans (World.drewN_drewN _ _ _) (congrArg (World.drewN _) (Nat.add_assoc _ _ _))⟩)) | ((with_reducible refine gate_builtin (b := .append) (xs := #[.tmp 44, .tmp 74]) rfl ?_); at_builtin; refine Kd.R_append Kd.bool (w0 := w) w.heap.size rfl (.tmp 44) (.tmp 74) 65 4 (.bool false) 1 rfl Tryd.underlying65 info4 rfl (by decide) (by omega) u9 x9_2 false [.bool false] (fun _ => True) (fun _ => False) rfl rfl ?aP (fun _ hk => hk.elim) ?aF ?aO ?aB ?aS ?aL ?_; (case aP => exact rfl); (case aB => exact bel); (case aF => exact (fun _ _ => trivial)); (case aO => exact (ownx HO_9)); (case aS => exact (below_size bel)); (case aL => have := LMc56.out; omega); intro v299 w58 ho hb hg hat; rw [← Ny298.out] at ho; have n0_ := Aside0.mk (Kd.R_over' (ownx HO_8) (Kd.R_typed (ownx HO_9)) (by decide) hg); have n1_ := Aside0.mk (hb); have n2_ := Aside0.mk (ho); clear HO_8; clear HB; clear HO_9; have HO_8 := n0_; have HB := n1_; have HO300 := n2_; clear n0_ n1_ n2_; clear ho hb hg hat)))
             go_roundg k2
             case measure => have := HJ3.out; have := HK2.out; omega
             case rel => exact ⟨(y298), (wrap64 (x10_2 + 1)), rsz, H', ⟨by have := HJ3.out; have := HK2.out; omega⟩, ⟨by (with_reducible repeat (first | apply Kd.R_alloc | apply Kd.R_drewN | apply Kd.R_drew)); exact HO_8.out⟩, ⟨by (with_reducible repeat (first | apply Kd.R_alloc | apply Kd.R_drewN | apply Kd.R_drew)); exact HO300.out⟩, ⟨bel⟩⟩
            ·
             rw [if_neg c56] at H
             exact absurd H (by simp)
           ·
            rw [if_neg c55] at H
            have c55b0 : (a2 == 3) = false := beq_eq_false_iff_ne.mpr c55
            have c55b1 : (a2 != 3) = true := bne_iff_ne.mpr c55
            by_cases c59 : x9_2.length < 140737488355328
            ·
             rw [if_pos c59] at H
             have LMc59 := Aside0.mk c59
             clear c59
             obtain ⟨y301, hy301⟩ : ∃ y_ : List Bool, y_ = (x9_2 ++ [false]) := ⟨_, rfl⟩
             replace H : (dropperref01_together.l0 k2 l0 l1 a2 t264 y301 (wrap64 (x10_2 + 1))) = some (r1, r2) := by first | (rw [hy301]; with_reducible exact H) | (have H2_ := (Option.bind_some _ _).symm.trans H; rw [hy301]; with_reducible exact H2_) | (have H2_ := (Option.bind_some _ _).symm.trans H; with_reducible exact H2_) | with_reducible exact H | (rw [hy301]; exact H) | exact H
             have Ny301 := Aside0.mk hy301
             clear hy301
             have H' := Aside0.mk H
             clear H
             obtain ⟨Ao60, co60, eo60⟩ := Kd.R_slice HO_8.out
             subst eo60
             have p267 : 0 ≤ (x10_2 : Int) := of_decide_eq_true asz
             have q267 : x10_2 < (t264.length : Int) := of_decide_eq_true asz
             obtain ⟨ad267, e267, hx267_0⟩ := Kd.at_int (Kd.R_reads' HO_8.out).2.2 x10_2 p267 q267
             cases e267
             replace p267 := eq_true p267
             replace q267 := eq_true q267
             go_wp2_with (first | (go_at_call 49; (with_reducible refine (dropperref01_depth.calls k2 _ _ l0 (rd t264 x10_2) t268 _ (cbz HR0) HC0.out A16.out).mono ?_); rintro e w' ⟨rfl, ⟨nd, rfl⟩⟩; (try first | exact ⟨rfl, _, World.drewN_drewN _ _ _⟩ | exact ⟨rfl, _, Eq.trans (World.drewN_drewN _ _ _) (congrArg (World.drewN _) (Nat.add_assoc _ _ _))⟩); have p269 : 0 ≤ (x10_2 : Int) := of_decide_eq_true asz; have q269 : x10_2 < (t264.length : Int) := of_decide_eq_true asz; obtain ⟨ad269, e269, hx269_0⟩ := Kd.at_int (Kd.R_reads' HO_8.out).2.2 x10_2 p269 q269; obtain rfl : ad267 = ad269 := (by injection e269); replace p269 := eq_true p269; replace q269 := eq_true q269) | (go_at_call 49; (with_reducible refine (dropperref01_depth.calls k2 _ _ l1 (rd t264 x10_2) t270 _ ?side1 HC1.out A17.out).mono ?_); (case side1 => repeat (first | exact (Kd.C_below HR1.out bel) | (with_reducible refine Kd.C_alloc ?_ _) | (with_reducible refine Kd.C_drewN ?_ _) | (with_reducible refine Kd.C_drew ?_))); rintro e w' ⟨rfl, ⟨nd, rfl⟩⟩; (try first | exact ⟨rfl, _, World.drewN_drewN _ _ _⟩ | exact ⟨rfl, _, Eq.trans (World.drewN_drewN _ _ _) (congrArg (World.drewN _) (Nat.add_assoc _ _ _))⟩)) | ((with_reducible refine gate_builtin (b := .append) (xs := #[.tmp 44, .tmp 74]) rfl ?_); at_builtin; refine Kd.R_append Kd.bool (w0 := w) w.heap.size rfl (.tmp 44) (.tmp 74) 65 4 (.bool false) 1 rfl Tryd.underlying65 info4 rfl (by decide) (by omega) u9 x9_2 false [.bool false] (fun _ => True) (fun _ => False) rfl rfl ?aP (fun _ hk => hk.elim) ?aF ?aO ?aB ?aS ?aL ?_; (case aP => exact rfl); (case aB => exact bel); (case aF => exact (fun _ _ => trivial)); (case aO => exact (ownx HO_9)); (case aS => exact (below_size bel)); (case aL => have := LMc59.out; omega); intro v302 w61 ho hb hg hat; rw [← Ny301.out] at ho; have n0_ := Aside0.mk (Kd.R_over' (ownx HO_8) (Kd.R_typed (ownx HO_9)) (by decide) hg); have n1_ := Aside0.mk (hb); have n2_ := Aside0.mk (ho); clear HO_8; clear HB; clear HO_9; have HO_8 := n0_; have HB := n1_; have HO303 := n2_; clear n0_ n1_ n2_; clear ho hb hg hat))
             repeat (go_quiet (first | (go_at_call 49; (with_reducible refine (dropperref01_depth.calls k2 _ _ l0 (rd t264 x10_2) t268 _ (cbz HR0) HC0.out A16.out).mono ?_); rintro e w' ⟨rfl, ⟨nd, rfl⟩⟩; (try first | exact ⟨rfl, _, World.drewN_drewN _ _ _⟩ | exact ⟨rfl, _, Eq.trans (World.drewN_drewN _ _ _) (congrArg (World.drewN _) (Nat.add_assoc _ _ _))⟩); have p269 : 0 ≤ (x10_2 : Int) := of_decide_eq_true asz; have q269 : x10_2 < (t264.length : Int) := of_decide_eq_true asz; obtain ⟨ad269, e269, hx269_0⟩ := Kd.at_int (Kd.R_reads' HO_8.out).2.2 x10_2 p269 q269; obtain rfl : ad267 = ad269 := (by injection e269); replace p269 := eq_true p269; replace q269 := eq_true q269) | (go_at_call 49; (with_reducible refine (dropperref01_depth.calls k2 _ _ l1 (rd t264 x10_2) t270 _ ?side1 HC1.out A17.out).mono ?_); (case side1 => repeat (first | exact (Kd.C_below HR1.out bel) | (with_reducible refine Kd.C_alloc ?_ _) | (with_reducible refine Kd.C_drewN ?_ _) | (with_reducible refine Kd.C_drew ?_))); rintro e w' ⟨rfl, ⟨nd, rfl⟩⟩; (try first | exact ⟨rfl, _, World.drewN_drewN _ _ _⟩ | exact ⟨rfl, _, Eq.trans (World.drewN_drewN _ _ _) (congrArg (World.drewN _) (Nat.add_assoc _ _ _))⟩)) | ((with_reducible refine gate_builtin (b := .append) (xs := #[.tmp 44, .tmp 74]) rfl ?_); at_builtin; refine Kd.R_append Kd.bool (w0 := w) w.heap.size rfl (.tmp 44) (.tmp 74) 65 4 (.bool false) 1 rfl Tryd.underlying65 info4 rfl (by decide) (by omega) u9 x9_2 false [.bool false] (fun _ => True) (fun _ => False) rfl rfl ?aP (fun _ hk => hk.elim) ?aF ?aO ?aB ?aS ?aL ?_; (case aP => exact rfl); (case aB => exact bel); (case aF => exact (fun _ _ => trivial)); (case aO => exact (ownx HO_9)); (case aS => exact (below_size bel)); (case aL => have := LMc59.out; omega); intro v302 w61 ho hb hg hat; rw [← Ny301.out] at ho; have n0_ := Aside0.mk (Kd.R_over' (ownx HO_8) (Kd.R_typed (ownx HO_9)) (by decide) hg); have n1_ := Aside0.mk (hb); have n2_ := Aside0.mk (ho); clear HO_8; clear HB; clear HO_9; have HO_8 := n0_; have HB := n1_; have HO303 := n2_; clear n0_ n1_ n2_; clear ho hb hg hat)); try go_wp2_with (first | (go_at_call 49; (with_reducible refine (dropperref01_depth.calls k2 _ _ l0 (rd t264 x10_2) t268 _ (cbz HR0) HC0.out A16.out).mono ?_); rintro e w' ⟨rfl, ⟨nd, rfl⟩⟩; (try first | exact ⟨rfl, _, World.drewN_drewN _ _ _⟩ | exact ⟨rfl, _, Eq.trans (World.drewN_drewN _ _ _) (congrArg (World.drewN _) (Nat.add_assoc _ _ _))⟩); have p269 : 0 ≤ (x10_2 : Int) := of_decide_eq_true asz; have q269 : x10_2 < (t264.length : Int) := of_decide_eq_true asz; obtain ⟨ad269, e269, hx269_0⟩ := Kd.at_int (Kd.R_reads' HO_8.out).2.2 x10_2 p269 q269; obtain rfl : ad267 = ad269 := (by injection e269); replace p269 := eq_true p269; replace q269 := eq_true q269) | (go_at_call 49; (with_reducible refine (dropperref01_depth.calls k2 _ _ l1 (rd t264 x10_2) t270 _ ?side1 HC1.out A17.out).mono ?_); (case side1 => repeat (first | exact (Kd.C_below HR1.out bel) | (with_reducible refine Kd.C_alloc ?_ _) | (with_reducible refine Kd.C_drewN ?_ _) | (with_reducible refine Kd.C_drew ?_))); rintro e w' ⟨rfl, ⟨nd, rfl⟩⟩; (try first | exact ⟨rfl, _, World.drewN_drewN _ _ _⟩ | exact ⟨rfl, _, Eq.trans (World.drewN_drewN _ _ _) (congrArg (World.drewN _) (Nat.add_assoc _ _ _))⟩)) | ((with_reducible refine gate_builtin (b := .append) (xs := #[.tmp 44, .tmp 74]) rfl ?_); at_builtin; refine Kd.R_append Kd.bool (w0 := w) w.heap.size rfl (.tmp 44) (.tmp 74) 65 4 (.bool false) 1 rfl Tryd.underlying65 info4 rfl (by decide) (by omega) u9 x9_2 false [.bool false] (fun _ => True) (fun _ => False) rfl rfl ?aP (fun _ hk => hk.elim) ?aF ?aO ?aB ?aS ?aL ?_; (case aP => exact rfl); (case aB => exact bel); (case aF => exact (fun _ _ => trivial)); (case aO => exact (ownx HO_9)); (case aS => exact (below_size bel)); (case aL => have := LMc59.out; omega); intro v302 w61 ho hb hg hat; rw [← Ny301.out] at ho; have n0_ := Aside0.mk (Kd.R_over' (ownx HO_8) (Kd.R_typed (ownx HO_9)) (by decide) hg); have n1_ := Aside0.mk (hb); have n2_ := Aside0.mk (ho); clear HO_8; clear HB; clear HO_9; have HO_8 := n0_; have HB := n1_; have HO303 := n2_; clear n0_ n1_ n2_; clear ho hb hg hat)))
             go_roundg k2
             case measure => have := HJ3.out; have := HK2.out; omega
             case rel => exact ⟨(y301), (wrap64 (x10_2 + 1)), rsz, H', ⟨by have := HJ3.out; have := HK2.out; omega⟩, ⟨by (with_reducible repeat (first | apply Kd.R_alloc | apply Kd.R_drewN | apply Kd.R_drew)); exact HO_8.out⟩, ⟨by (with_reducible repeat (first | apply Kd.R_alloc | apply Kd.R_drewN | apply Kd.R_drew)); exact HO303.out⟩, ⟨bel⟩⟩
            ·
             rw [if_neg c59] at H
             exact absurd H (by simp)
         ·
          rw [if_neg c42] at H
          have c42b0 : (a2 == 2) = false := beq_eq_false_iff_ne.mpr c42
          have c42b1 : (a2 != 2) = true := bne_iff_ne.mpr c42
          by_cases c62 : a2 = 3
          ·
           rw [if_pos c62] at H
           have c62b0 : (a2 == 3) = true := beq_iff_eq.mpr c62
           have c62b1 : (a2 != 3) = false := bne_eq_false_iff_eq.mpr c62
           clear c62
           by_cases c63 : t268 > 0
           ·
            rw [if_pos c63] at H
            have c63b0 : decide (0 < t268) = true := decide_eq_true c63
            clear c63
            by_cases c64 : x9_2.length < 140737488355328
            ·
             rw [if_pos c64] at H
             have LMc64 := Aside0.mk c64
             clear c64
             obtain ⟨y304, hy304⟩ : ∃ y_ : List Bool, y_ = (x9_2 ++ [!(decide (t270 > 0))]) := ⟨_, rfl⟩
             replace H : (dropperref01_together.l0 k2 l0 l1 a2 t264 y304 (wrap64 (x10_2 + 1))) = some (r1, r2) := by first | (rw [hy304]; with_reducible exact H) | (have H2_ := (Option.bind_some _ _).symm.trans H; rw [hy304]; with_reducible exact H2_) | (have H2_ := (Option.bind_some _ _).symm.trans H; with_reducible exact H2_) | with_reducible exact H | (rw [hy304]; exact H) | exact H
             have Ny304 := Aside0.mk hy304
             clear hy304
             have H' := Aside0.mk H
             clear H
             obtain ⟨Ao65, co65, eo65⟩ := Kd.R_slice HO_8.out
             subst eo65
             have p267 : 0 ≤ (x10_2 : Int) := of_decide_eq_true asz
             have q267 : x10_2 < (t264.length : Int) := of_decide_eq_true asz
             obtain ⟨ad267, e267, hx267_0⟩ := Kd.at_int (Kd.R_reads' HO_8.out).2.2 x10_2 p267 q267
             cases e267
             replace p267 := eq_true p267
             replace q267 := eq_true q267
             go_wp2_with (first | (go_at_call 49; (with_reducible refine (dropperref01_depth.calls k2 _ _ l0 (rd t264 x10_2) t268 _ (cbz HR0) HC0.out A16.out).mono ?_); rintro e w' ⟨rfl, ⟨nd, rfl⟩⟩; (try first | exact ⟨rfl, _, World.drewN_drewN _ _ _⟩ | exact ⟨rfl, _, Eq.trans (World.drewN_drewN _ _ _) (congrArg (World.drewN _) (Nat.add_assoc _ _ _))⟩); have p269 : 0 ≤ (x10_2 : Int) := of_decide_eq_true asz; have q269 : x10_2 < (t264.length : Int) := of_decide_eq_true asz; obtain ⟨ad269, e269, hx269_0⟩ := Kd.at_int (Kd.R_reads' HO_8.out).2.2 x10_2 p269 q269; obtain rfl : ad267 = ad269 := (by injection e269); replace p269 := eq_true p269; replace q269 := eq_true q269) | (go_at_call 49; (with_reducible refine (dropperref01_depth.calls k2 _ _ l1 (rd t264 x10_2) t270 _ ?side1 HC1.out A17.out).mono ?_); (case side1 => repeat (first | exact (Kd.C_below HR1.out bel) | (with_reducible refine Kd.C_alloc ?_ _) | (with_reducible refine Kd.C_drewN ?_ _) | (with_reducible refine Kd.C_drew ?_))); rintro e w' ⟨rfl, ⟨nd, rfl⟩⟩; (try first | exact ⟨rfl, _, World.drewN_drewN _ _ _⟩ | exact ⟨rfl, _, Eq.trans (World.drewN_drewN _ _ _) (congrArg (World.drewN _) (Nat.add_assoc _ _ _))⟩)) | ((with_reducible refine gate_builtin (b := .append) (xs := #[.tmp 44, .tmp 74]) rfl ?_); at_builtin; refine Kd.R_append Kd.bool (w0 := w) w.heap.size rfl (.tmp 44) (.tmp 74) 65 4 (.bool false) 1 rfl Tryd.underlying65 info4 rfl (by decide) (by omega) u9 x9_2 (!(decide (t270 > 0))) [.bool (!(decide (t270 > 0)))] (fun _ => True) (fun _ => False) rfl rfl ?aP (fun _ hk => hk.elim) ?aF ?aO ?aB ?aS ?aL ?_; (case aP => exact rfl); (case aB => exact bel); (case aF => exact (fun _ _ => trivial)); (case aO => exact (ownx HO_9)); (case aS => exact (below_size bel)); (case aL => have := LMc64.out; omega); intro v305 w66 ho hb hg hat; rw [← Ny304.out] at ho; have n0_ := Aside0.mk (Kd.R_over' (ownx HO_8) (Kd.R_typed (ownx HO_9)) (by decide) hg); have n1_ := Aside0.mk (hb); have n2_ := Aside0.mk (ho); clear HO_8; clear HB; clear HO_9; have HO_8 := n0_; have HB := n1_; have HO306 := n2_; clear n0_ n1_ n2_; clear ho hb hg hat))
             repeat (go_quiet (first | (go_at_call 49; (with_reducible refine (dropperref01_depth.calls k2 _ _ l0 (rd t264 x10_2) t268 _ (cbz HR0) HC0.out A16.out).mono ?_); rintro e w' ⟨rfl, ⟨nd, rfl⟩⟩; (try first | exact ⟨rfl, _, World.drewN_drewN _ _ _⟩ | exact ⟨rfl, _, Eq.trans (World.drewN_drewN _ _ _) (congrArg (World.drewN _) (Nat.add_assoc _ _ _))⟩); have p269 : 0 ≤ (x10_2 : Int) := of_decide_eq_true asz; have q269 : x10_2 < (t264.length : Int) := of_decide_eq_true asz; obtain ⟨ad269, e269, hx269_0⟩ := Kd.at_int (Kd.R_reads' HO_8.out).2.2 x10_2 p269 q269; obtain rfl : ad267 = ad269 := (by injection e269); replace p269 := eq_true p269; replace q269 := eq_true q269) | (go_at_call 49; (with_reducible refine (dropperref01_depth.calls k2 _ _ l1 (rd t264 x10_2) t270 _ ?side1 HC1.out A17.out).mono ?_); (case side1 => repeat (first | exact (Kd.C_below HR1.out bel) | (with_reducible refine Kd.C_alloc ?_ _) | (with_reducible refine Kd.C_drewN ?_ _) | (with_reducible refine Kd.C_drew ?_))); rintro e w' ⟨rfl, ⟨nd, rfl⟩⟩; (try first | exact ⟨rfl, _, World.drewN_drewN _ _ _⟩ | exact ⟨rfl, _, Eq.trans (World.drewN_drewN _ _ _) (congrArg (World.drewN _) (Nat.add_assoc _ _ _))⟩)) | ((with_reducible refine gate_builtin (b := .append) (xs := #[.tmp 44, .tmp 74]) rfl ?_); at_builtin; refine Kd.R_append Kd.bool (w0 := w) w.heap.size rfl (.tmp 44) (.tmp 74) 65 4 (.bool false) 1 rfl Tryd.underlying65 info4 rfl (by decide) (by omega) u9 x9_2 (!(decide (t270 > 0))) [.bool (!(decide (t270 > 0)))] (fun _ => True) (fun _ => False) rfl rfl ?aP (fun _ hk => hk.elim) ?aF ?aO ?aB ?aS ?aL ?_; (case aP => exact rfl); (case aB => exact bel); (case aF => exact (fun _ _ => trivial)); (case aO => exact (ownx HO_9)); (case aS => exact (below_size bel)); (case aL => have := LMc64.out; omega); intro v305 w66 ho hb hg hat; rw [← Ny304.out] at ho; have n0_ := Aside0.mk (Kd.R_over' (ownx HO_8) (Kd.R_typed (ownx HO_9)) (by decide) hg); have n1_ := Aside0.mk (hb); have n2_ := Aside0.mk (ho); clear HO_8; clear HB; clear HO_9; have HO_8 := n0_; have HB := n1_; have HO306 := n2_; clear n0_ n1_ n2_; clear ho hb hg hat)); try go_wp2_with (first | (go_at_call 49; (with_reducible refine (dropperref01_depth.calls k2 _ _ l0 (rd t264 x10_2) t268 _ (cbz HR0) HC0.out A16.out).mono ?_); rintro e w' ⟨rfl, ⟨nd, rfl⟩⟩; (try first | exact ⟨rfl, _, World.drewN_drewN _ _ _⟩ | exact ⟨rfl, _, Eq.trans (World.drewN_drewN _ _ _) (congrArg (World.drewN _) (Nat.add_assoc _ _ _))⟩); have p269 : 0 ≤ (x10_2 : Int) := of_decide_eq_true asz; have q269 : x10_2 < (t264.length : Int) := of_decide_eq_true asz; obtain ⟨ad269, e269, hx269_0⟩ := Kd.at_int (Kd.R_reads' HO_8.out).2.2 x10_2 p269 q269; obtain rfl : ad267 = ad269 := (by injection e269); replace p269 := eq_true p269; replace q269 := eq_true q269) | (go_at_call 49; (with_reducible refine (dropperref01_depth.calls k2 _ _ l1 (rd t264 x10_2) t270 _ ?side1 HC1.out A17.out).mono ?_); (case side1 => repeat (first | exact (Kd.C_below HR1.out bel) | (with_reducible refine Kd.C_alloc ?_ _) | (with_reducible refine Kd.C_drewN ?_ _) | (with_reducible refine Kd.C_drew ?_))); rintro e w' ⟨rfl, ⟨nd, rfl⟩⟩; (try first | exact ⟨rfl, _, World.drewN_drewN _ _ _⟩ | exact ⟨rfl, _, Eq.trans (World.drewN_drewN _ _ _) (congrArg (World.drewN _) (Nat.add_assoc _ _ _))⟩)) | ((with_reducible refine gate_builtin (b := .append) (xs := #[.tmp 44, .tmp 74]) rfl ?_); at_builtin; refine Kd.R_append Kd.bool (w0 := w) w.heap.size rfl (.tmp 44) (.tmp 74) 65 4 (.bool false) 1 rfl Tryd.underlying65 info4 rfl (by decide) (by omega) u9 x9_2 (!(decide (t270 > 0))) [.bool (!(decide (t270 > 0)))] (fun _ => True) (fun _ => False) rfl rfl ?aP (fun _ hk => hk.elim) ?aF ?aO ?aB ?aS ?aL ?_; (case aP => exact rfl); (case aB => exact bel); (case aF => exact (fun _ _ => trivial)); (case aO => exact (ownx HO_9)); (case aS => exact (below_size bel)); (case aL => have := LMc64.out; omega); intro v305 w66 ho hb hg hat; rw [← Ny304.out] at ho; have n0_ := Aside0.mk (Kd.R_over' (ownx HO_8) (Kd.R_typed (ownx HO_9)) (by decide) hg); have n1_ := Aside0.mk (hb); have n2_ := Aside0.mk (ho); clear HO_8; clear HB; clear HO_9; have HO_8 := n0_; have HB := n1_; have HO306 := n2_; clear n0_ n1_ n2_; clear ho hb hg hat)))
             go_roundg k2
             case measure => have := HJ3.out; have := HK2.out; omega
             case rel => exact ⟨(y304), (wrap64 (x10_2 + 1)), rsz, H', ⟨by have := HJ3.out; have := HK2.out; omega⟩, ⟨by (with_reducible repeat (first | apply Kd.R_alloc | apply Kd.R_drewN | apply Kd.R_drew)); exact HO_8.out⟩, ⟨by (with_reducible repeat (first | apply Kd.R_alloc | apply Kd.R_drewN | apply Kd.R_drew)); exact HO306.out⟩, ⟨bel⟩⟩
            ·
             rw [if_neg c64] at H
             exact absurd H (by simp)
           ·
            rw [if_neg c63] at H
            have c63b0 : decide (0 < t268) = false := decide_eq_false c63
            clear c63
            by_cases c67 : x9_2.length < 140737488355328
            ·
             rw [if_pos c67] at H
             have LMc67 := Aside0.mk c67
             clear c67
             obtain ⟨y307, hy307⟩ : ∃ y_ : List Bool, y_ = (x9_2 ++ [false]) := ⟨_, rfl⟩
             replace H : (dropperref01_together.l0 k2 l0 l1 a2 t264 y307 (wrap64 (x10_2 + 1))) = some (r1, r2) := by first | (rw [hy307]; with_reducible exact H) | (have H2_ := (Option.bind_some _ _).symm.trans H; rw [hy307]; with_reducible exact H2_) | (have H2_ := (Option.bind_some _ _).symm.trans H; with_reducible exact H2_) | with_reducible exact H | (rw [hy307]; exact H) | exact H
             have Ny307 := Aside0.mk hy307
             clear hy307
             have H' := Aside0.mk H
             clear H
             obtain ⟨Ao68, co68, eo68⟩ := Kd.R_slice HO_8.out
             subst eo68
             have p267 : 0 ≤ (x10_2 : Int) := of_decide_eq_true asz
             have q267 : x10_2 < (t264.length : Int) := of_decide_eq_true asz
             obtain ⟨ad267, e267, hx267_0⟩ := Kd.at_int (Kd.R_reads' HO_8.out).2.2 x10_2 p267 q267
             cases e267
             replace p267 := eq_true p267
             replace q267 := eq_true q267
             go_wp2_with (first | (go_at_call 49; (with_reducible refine (dropperref01_depth.calls k2 _ _ l0 (rd t264 x10_2) t268 _ (cbz HR0) HC0.out A16.out).mono ?_); rintro e w' ⟨rfl, ⟨nd, rfl⟩⟩; (try first | exact ⟨rfl, _, World.drewN_drewN _ _ _⟩ | exact ⟨rfl, _, Eq.trans (World.drewN_drewN _ _ _) (congrArg (World.drewN _) (Nat.add_assoc _ _ _))⟩); have p269 : 0 ≤ (x10_2 : Int) := of_decide_eq_true asz; have q269 : x10_2 < (t264.length : Int) := of_decide_eq_true asz; obtain ⟨ad269, e269, hx269_0⟩ := Kd.at_int (Kd.R_reads' HO_8.out).2.2 x10_2 p269 q269; obtain rfl : ad267 = ad269 := (by injection e269); replace p269 := eq_true p269; replace q269 := eq_true q269) | (go_at_call 49; (with_reducible refine (dropperref01_depth.calls k2 _ _ l1 (rd t264 x10_2) t270 _ ?side1 HC1.out A17.out).mono ?_); (case side1 => repeat (first | exact (Kd.C_below HR1.out bel) | (with_reducible refine Kd.C_alloc ?_ _) | (with_reducible refine Kd.C_drewN ?_ _) | (with_reducible refine Kd.C_drew ?_))); rintro e w' ⟨rfl, ⟨nd, rfl⟩⟩; (try first | exact ⟨rfl, _, World.drewN_drewN _ _ _⟩ | exact ⟨rfl, _, Eq.trans (World.drewN_drewN _ _ _) (congrArg (World.drewN _) (Nat.add_assoc _ _ _))⟩)) | ((with_reducible refine gate_builtin (b := .append) (xs := #[.tmp 44, .tmp 74]) rfl ?_); at_builtin; refine Kd.R_append Kd.bool (w0 := w) w.heap.size rfl (.tmp 44) (.tmp 74) 65 4 (.bool false) 1 rfl Tryd.underlying65 info4 rfl (by decide) (by omega) u9 x9_2 false [.bool false] (fun _ => True) (fun _ => False) rfl rfl ?aP (fun _ hk => hk.elim) ?aF ?aO ?aB ?aS ?aL ?_; (case aP => exact rfl); (case aB => exact bel); (case aF => exact (fun _ _ => trivial)); (case aO => exact (ownx HO_9)); (case aS => exact (below_size bel)); (case aL => have := LMc67.out; omega); intro v308 w69 ho hb hg hat; rw [← Ny307.out] at ho; have n0_ := Aside0.mk (Kd.R_over' (ownx HO_8) (Kd.R_typed (ownx HO_9)) (by decide) hg); have n1_ := Aside0.mk (hb); have n2_ := Aside0.mk (ho); clear HO_8; clear HB; clear HO_9; have HO_8 := n0_; have HB := n1_; have HO309 := n2_; clear n0_ n1_ n2_; clear ho hb hg hat))
             repeat (go_quiet (first | (go_at_call 49; (with_reducible refine (dropperref01_depth.calls k2 _ _ l0 (rd t264 x10_2) t268 _ (cbz HR0) HC0.out A16.out).mono ?_); rintro e w' ⟨rfl, ⟨nd, rfl⟩⟩; (try first | exact ⟨rfl, _, World.drewN_drewN _ _ _⟩ | exact ⟨rfl, _, Eq.trans (World.drewN_drewN _ _ _) (congrArg (World.drewN _) (Nat.add_assoc _ _ _))⟩); have p269 : 0 ≤ (x10_2 : Int) := of_decide_eq_true asz; have q269 : x10_2 < (t264.length : Int) := of_decide_eq_true asz; obtain ⟨ad269, e269, hx269_0⟩ := Kd.at_int (Kd.R_reads' HO_8.out).2.2 x10_2 p269 q269; obtain rfl : ad267 = ad269 := (by injection e269); replace p269 := eq_true p269; replace q269 := eq_true q269) | (go_at_call 49; (with_reducible refine (dropperref01_depth.calls k2 _ _ l1 (rd t264 x10_2) t270 _ ?side1 HC1.out A17.out).mono ?_); (case side1 => repeat (first | exact (Kd.C_below HR1.out bel) | (with_reducible refine Kd.C_alloc ?_ _) | (with_reducible refine Kd.C_drewN ?_ _) | (with_reducible refine Kd.C_drew ?_))); rintro e w' ⟨rfl, ⟨nd, rfl⟩⟩; (try first | exact ⟨rfl, _, World.drewN_drewN _ _ _⟩ | exact ⟨rfl, _, Eq.trans (World.drewN_drewN _ _ _) (congrArg (World.drewN _) (Nat.add_assoc _ _ _))⟩)) | ((with_reducible refine gate_builtin (b := .append) (xs := #[.tmp 44, .tmp 74]) rfl ?_); at_builtin; refine Kd.R_append Kd.bool (w0 := w) w.heap.size rfl (.tmp 44) (.tmp 74) 65 4 (.bool false) 1 rfl Tryd.underlying65 info4 rfl (by decide) (by omega) u9 x9_2 false [.bool false] (fun _ => True) (fun _ => False) rfl rfl ?aP (fun _ hk => hk.elim) ?aF ?aO ?aB ?aS ?aL ?_; (case aP => exact rfl); (case aB => exact bel); (case aF => exact (fun _ _ => trivial)); (case aO => exact (ownx HO_9)); (case aS => exact (below_size bel)); (case aL => have := LMc67.out; omega); intro v308 w69 ho hb hg hat; rw [← Ny307.out] at ho; have n0_ := Aside0.mk (Kd.R_over' (ownx HO_8) (Kd.R_typed (ownx HO_9)) (by decide) hg); have n1_ := Aside0.mk (hb); have n2_ := Aside0.mk (ho); clear HO_8; clear HB; clear HO_9; have HO_8 := n0_; have HB := n1_; have HO309 := n2_; clear n0_ n1_ n2_; clear ho hb hg hat)); try go_wp2_with (first | (go_at_call 49; (with_reducible refine (dropperref01_depth.calls k2 _ _ l0 (rd t264 x10_2) t268 _ (cbz HR0) HC0.out A16.out).mono ?_); rintro e w' ⟨rfl, ⟨nd, rfl⟩⟩; (try first | exact ⟨rfl, _, World.drewN_drewN _ _ _⟩ | exact ⟨rfl, _, Eq.trans (World.drewN_drewN _ _ _) (congrArg (World.drewN _) (Nat.add_assoc _ _ _))⟩); have p269 : 0 ≤ (x10_2 : Int) := of_decide_eq_true asz; have q269 : x10_2 < (t264.length : Int) := of_decide_eq_true asz; obtain ⟨ad269, e269, hx269_0⟩ := Kd.at_int (Kd.R_reads' HO_8.out).2.2 x10_2 p269 q269; obtain rfl : ad267 = ad269 := (by injection e269); replace p269 := eq_true p269; replace q269 := eq_true q269) | (go_at_call 49; (with_reducible refine (dropperref01_depth.calls k2 _ _ l1 (rd t264 x10_2) t270 _ ?side1 HC1.out A17.out).mono ?_); (case side1 => repeat (first | exact (Kd.C_below HR1.out bel) | (with_reducible refine Kd.C_alloc ?_ _) | (with_reducible refine Kd.C_drewN ?_ _) | (with_reducible refine Kd.C_drew ?_))); rintro e w' ⟨rfl, ⟨nd, rfl⟩⟩; (try first | exact ⟨rfl, _, World.drewN_drewN _ _ _⟩ | exact ⟨rfl, _, Eq.trans (World.drewN_drewN _ _ _) (congrArg (World.drewN _) (Nat.add_assoc _ _ _))⟩)) | ((with_reducible refine gate_builtin (b := .append) (xs := #[.tmp 44, .tmp 74]) rfl ?_); at_builtin; refine Kd.R_append Kd.bool (w0 := w) w.heap.size rfl (.tmp 44) (.tmp 74) 65 4 (.bool false) 1 rfl Tryd.underlying65 info4 rfl (by decide) (by omega) u9 x9_2 false [.bool false] (fun _ => True) (fun _ => False) rfl rfl ?aP (fun _ hk => hk.elim) ?aF ?aO ?aB ?aS ?aL ?_; (case aP => exact rfl); (case aB => exact bel); (case aF => exact (fun _ _ => trivial)); (case aO => exact (ownx HO_9)); (case aS => exact (below_size bel)); (case aL => have := LMc67.out; omega); intro v308 w69 ho hb hg hat; rw [← Ny307.out] at ho; have n0_ := Aside0.mk (Kd.R_over' (ownx HO_8) (Kd.R_typed (ownx HO_9)) (by decide) hg); have n1_ := Aside0.mk (hb); have n2_ := Aside0.mk (ho); clear HO_8; clear HB; clear HO_9; have HO_8 := n0_; have HB := n1_; have HO309 := n2_; clear n0_ n1_ n2_; clear ho hb hg hat)))
             go_roundg k2
             case measure => have := HJ3.out; have := HK2.out; omega
             case rel => exact ⟨(y307), (wrap64 (x10_2 + 1)), rsz, H', ⟨by have := HJ3.out; have := HK2.out; omega⟩, ⟨by (with_reducible repeat (first | apply Kd.R_alloc | apply Kd.R_drewN | apply Kd.R_drew)); exact HO_8.out⟩, ⟨by (with_reducible repeat (first | apply Kd.R_alloc | apply Kd.R_drewN | apply Kd.R_drew)); exact HO309.out⟩, ⟨bel⟩⟩
            ·
             rw [if_neg c67] at H
             exact absurd H (by simp)
          ·
           rw [if_neg c62] at H
           have c62b0 : (a2 == 3) = false := beq_eq_false_iff_ne.mpr c62
           have c62b1 : (a2 != 3) = true := bne_iff_ne.mpr c62
           by_cases c70 : x9_2.length < 140737488355328
           ·
            rw [if_pos c70] at H
            have LMc70 := Aside0.mk c70
            clear c70
            obtain ⟨y310, hy310⟩ : ∃ y_ : List Bool, y_ = (x9_2 ++ [false]) := ⟨_, rfl⟩
            replace H : (dropperref01_together.l0 k2 l0 l1 a2 t264 y310 (wrap64 (x10_2 + 1))) = some (r1, r2) := by first | (rw [hy310]; with_reducible exact H) | (have H2_ := (Option.bind_some _ _).symm.trans H; rw [hy310]; with_reducible exact H2_) | (have H2_ := (Option.bind_some _ _).symm.trans H; with_reducible exact H2_) | with_reducible exact H | (rw [hy310]; exact H) | exact H
            have Ny310 := Aside0.mk hy310
            clear hy310
            have H' := Aside0.mk H
            clear H
            obtain ⟨Ao71, co71, eo71⟩ := Kd.R_slice HO_8.out
            subst eo71
            have p267 : 0 ≤ (x10_2 : Int) := of_decide_eq_true asz
            have q267 : x10_2 < (t264.length : Int) := of_decide_eq_true asz
            obtain ⟨ad267, e267, hx267_0⟩ := Kd.at_int (Kd.R_reads' HO_8.out).2.2 x10_2 p267 q267
            cases e267
            replace p267 := eq_true p267
            replace q267 := eq_true q267
            go_wp2_with (first | (go_at_call 49; (with_reducible refine (dropperref01_depth.calls k2 _ _ l0 (rd t264 x10_2) t268 _ (cbz HR0) HC0.out A16.out).mono ?_); rintro e w' ⟨rfl, ⟨nd, rfl⟩⟩; (try first | exact ⟨rfl, _, World.drewN_drewN _ _ _⟩ | exact ⟨rfl, _, Eq.trans (World.drewN_drewN _ _ _) (congrArg (World.drewN _) (Nat.add_assoc _ _ _))⟩); have p269 : 0 ≤ (x10_2 : Int) := of_decide_eq_true asz; have q269 : x10_2 < (t264.length : Int) := of_decide_eq_true asz; obtain ⟨ad269, e269, hx269_0⟩ := Kd.at_int (Kd.R_reads' HO_8.out).2.2 x10_2 p269 q269; obtain rfl : ad267 = ad269 := (by injection e269); replace p269 := eq_true p269; replace q269 := eq_true q269) | (go_at_call 49; (with_reducible refine (dropperref01_depth.calls k2 _ _ l1 (rd t264 x10_2) t270 _ ?side1 HC1.out A17.out).mono ?_); (case side1 => repeat (first | exact (Kd.C_below HR1.out bel) | (with_reducible refine Kd.C_alloc ?_ _) | (with_reducible refine Kd.C_drewN ?_ _) | (with_reducible refine Kd.C_drew ?_))); rintro e w' ⟨rfl, ⟨nd, rfl⟩⟩; (try first | exact ⟨rfl, _, World.drewN_drewN _ _ _⟩ | exact ⟨rfl, _, Eq.trans (World.drewN_drewN _ _ _) (congrArg (World.drewN _) (Nat.add_assoc _ _ _))⟩)) | ((with_reducible refine gate_builtin (b := .append) (xs := #[.tmp 44, .tmp 74]) rfl ?_); at_builtin; refine Kd.R_append Kd.bool (w0 := w) w.heap.size rfl (.tmp 44) (.tmp 74) 65 4 (.bool false) 1 rfl Tryd.underlying65 info4 rfl (by decide) (by omega) u9 x9_2 false [.bool false] (fun _ => True) (fun _ => False) rfl rfl ?aP (fun _ hk => hk.elim) ?aF ?aO ?aB ?aS ?aL ?_; (case aP => exact rfl); (case aB => exact bel); (case aF => exact (fun _ _ => trivial)); (case aO => exact (ownx HO_9)); (case aS => exact (below_size bel)); (case aL => have := LMc70.out; omega); intro v311 w72 ho hb hg hat; rw [← Ny310.out] at ho; have n0_ := Aside0.mk (Kd.R_over' (ownx HO_8) (Kd.R_typed (ownx HO_9)) (by decide) hg); have n1_ := Aside0.mk (hb); have n2_ := Aside0.mk (ho); clear HO_8; clear HB; clear HO_9; have HO_8 := n0_; have HB := n1_; have HO312 := n2_; clear n0_ n1_ n2_; clear ho hb hg hat))
            repeat (go_quiet (first | (go_at_call 49; (with_reducible refine (dropperref01_depth.calls k2 _ _ l0 (rd t264 x10_2) t268 _ (cbz HR0) HC0.out A16.out).mono ?_); rintro e w' ⟨rfl, ⟨nd, rfl⟩⟩; (try first | exact ⟨rfl, _, World.drewN_drewN _ _ _⟩ | exact ⟨rfl, _, Eq.trans (World.drewN_drewN _ _ _) (congrArg (World.drewN _) (Nat.add_assoc _ _ _))⟩); have p269 : 0 ≤ (x10_2 : Int) := of_decide_eq_true asz; have q269 : x10_2 < (t264.length : Int) := of_decide_eq_true asz; obtain ⟨ad269, e269, hx269_0⟩ := Kd.at_int (Kd.R_reads' HO_8.out).2.2 x10_2 p269 q269; obtain rfl : ad267 = ad269 := (by injection e269); replace p269 := eq_true p269; replace q269 := eq_true q269) | (go_at_call 49; (with_reducible refine (dropperref01_depth.calls k2 _ _ l1 (rd t264 x10_2) t270 _ ?side1 HC1.out A17.out).mono ?_); (case side1 => repeat (first | exact (Kd.C_below HR1.out bel) | (with_reducible refine Kd.C_alloc ?_ _) | (with_reducible refine Kd.C_drewN ?_ _) | (with_reducible refine Kd.C_drew ?_))); rintro e w' ⟨rfl, ⟨nd, rfl⟩⟩; (try first | exact ⟨rfl, _, World.drewN_drewN _ _ _⟩ | exact ⟨rfl, _, Eq.trans (World.drewN_drewN _ _ _) (congrArg (World.drewN _) (Nat.add_assoc _ _ _))⟩)) | ((with_reducible refine gate_builtin (b := .append) (xs := #[.tmp 44, .tmp 74]) rfl ?_); at_builtin; refine Kd.R_append Kd.bool (w0 := w) w.heap.size rfl (.tmp 44) (.tmp 74) 65 4 (.bool false) 1 rfl Tryd.underlying65 info4 rfl (by decide) (by omega) u9 x9_2 false [.bool false] (fun _ => True) (fun _ => False) rfl rfl ?aP (fun _ hk => hk.elim) ?aF ?aO ?aB ?aS ?aL ?_; (case aP => exact rfl); (case aB => exact bel); (case aF => exact (fun _ _ => trivial)); (case aO => exact (ownx HO_9)); (case aS => exact (below_size bel)); (case aL => have := LMc70.out; omega); intro v311 w72 ho hb hg hat; rw [← Ny310.out] at ho; have n0_ := Aside0.mk (Kd.R_over' (ownx HO_8) (Kd.R_typed (ownx HO_9)) (by decide) hg); have n1_ := Aside0.mk (hb); have n2_ := Aside0.mk (ho); clear HO_8; clear HB; clear HO_9; have HO_8 := n0_; have HB := n1_; have HO312 := n2_; clear n0_ n1_ n2_; clear ho hb hg hat)); try go_wp2_with (first | (go_at_call 49; (with_reducible refine (dropperref01_depth.calls k2 _ _ l0 (rd t264 x10_2) t268 _ (cbz HR0) HC0.out A16.out).mono ?_); rintro e w' ⟨rfl, ⟨nd, rfl⟩⟩; (try first | exact ⟨rfl, _, World.drewN_drewN _ _ _⟩ | exact ⟨rfl, _, Eq.trans (World.drewN_drewN _ _ _) (congrArg (World.drewN _) (Nat.add_assoc _ _ _))⟩); have p269 : 0 ≤ (x10_2 : Int) := of_decide_eq_true asz; have q269 : x10_2 < (t264.length : Int) := of_decide_eq_true asz; obtain ⟨ad269, e269, hx269_0⟩ := Kd.at_int (Kd.R_reads' HO_8.out).2.2 x10_2 p269 q269; obtain rfl : ad267 = ad269 := (by injection e269); replace p269 := eq_true p269; replace q269 := eq_true q269) | (go_at_call 49; (with_reducible refine (dropperref01_depth.calls k2 _ _ l1 (rd t264 x10_2) t270 _ ?side1 HC1.out A17.out).mono ?_); (case side1 => repeat (first | exact (Kd.C_below HR1.out bel) | (with_reducible refine Kd.C_alloc ?_ _) | (with_reducible refine Kd.C_drewN ?_ _) | (with_reducible refine Kd.C_drew ?_))); rintro e w' ⟨rfl, ⟨nd, rfl⟩⟩; (try first | exact ⟨rfl, _, World.drewN_drewN _ _ _⟩ | exact ⟨rfl, _, Eq.trans (World.drewN_drewN _ _ _) (congrArg (World.drewN _) (Nat.add_assoc _ _ _))⟩)) | ((with_reducible refine gate_builtin (b := .append) (xs := #[.tmp 44, .tmp 74]) rfl ?_); at_builtin; refine Kd.R_append Kd.bool (w0 := w) w.heap.size rfl (.tmp 44) (.tmp 74) 65 4 (.bool false) 1 rfl Tryd.underlying65 info4 rfl (by decide) (by omega) u9 x9_2 false [.bool false] (fun _ => True) (fun _ => False) rfl rfl ?aP (fun _ hk => hk.elim) ?aF ?aO ?aB ?aS ?aL ?_; (case aP => exact rfl); (case aB => exact bel); (case aF => exact (fun _ _ => trivial)); (case aO => exact (ownx HO_9)); (case aS => exact (below_size bel)); (case aL => have := LMc70.out; omega); intro v311 w72 ho hb hg hat; rw [← Ny310.out] at ho; have n0_ := Aside0.mk (Kd.R_over' (ownx HO_8) (Kd.R_typed (ownx HO_9)) (by decide) hg); have n1_ := Aside0.mk (hb); have n2_ := Aside0.mk (ho); clear HO_8; clear HB; clear HO_9; have HO_8 := n0_; have HB := n1_; have HO312 := n2_; clear n0_ n1_ n2_; clear ho hb hg hat)))
            go_roundg k2
            case measure => have := HJ3.out; have := HK2.out; omega
            case rel => exact ⟨(y310), (wrap64 (x10_2 + 1)), rsz, H', ⟨by have := HJ3.out; have := HK2.out; omega⟩, ⟨by (with_reducible repeat (first | apply Kd.R_alloc | apply Kd.R_drewN | apply Kd.R_drew)); exact HO_8.out⟩, ⟨by (with_reducible repeat (first | apply Kd.R_alloc | apply Kd.R_drewN | apply Kd.R_drew)); exact HO312.out⟩, ⟨bel⟩⟩
           ·
            rw [if_neg c70] at H
            exact absurd H (by simp)
       ·
        rw [if_neg c15] at H
        exact absurd H (by simp)
      ·
       rw [if_neg c14] at H
       have c14b0 : decide (x10_2 < (t264.length : Int)) = false := decide_eq_false c14
       clear c14
       replace H := Option.bind_eq_some_iff.mp H
       obtain ⟨⟨t313, t314⟩, A730, H⟩ := H
       try dsimp only at H
       have A73 := Aside0.mk A730
       clear A730
       simp only [Option.some.injEq, Prod.mk.injEq] at H
       obtain ⟨rfl, rfl⟩ := H
       obtain ⟨Ao74, co74, eo74⟩ := Kd.R_slice HO_8.out
       subst eo74
       obtain ⟨Ao75, co75, eo75⟩ := Kd.R_slice HO_9.out
       subst eo75
       go_wp2_with (first | (go_at_call 67; (with_reducible refine (dropperref01_made.calls k2 _ _ t264 _ _ x9_2 t313 t314 _ ?side1 ?side2 ?side3 ?side4 A73.out).mono ?_); (case side1 => repeat (first | exact (Kd.R_reads' HO_8.out).2.2 | (with_reducible refine Kd.C_alloc ?_ _) | (with_reducible refine Kd.C_drewN ?_ _) | (with_reducible refine Kd.C_drew ?_))); (case side2 => exact (Kd.R_reads' HO_8.out).2.1); (case side3 => repeat (first | exact (Kd.R_reads' HO_9.out).2.2 | (with_reducible refine Kd.C_alloc ?_ _) | (with_reducible refine Kd.C_drewN ?_ _) | (with_reducible refine Kd.C_drew ?_))); (case side4 => exact (Kd.R_reads' HO_9.out).2.1); rintro e w76 ⟨v315, rfl, ho0, hb⟩; have HO316 := Aside0.mk (Kd.R_lower ho0 (below_size bel)); replace HO_8 := Aside0.mk (Kd.R_below (ownx HO_8) hb); replace HO_9 := Aside0.mk (Kd.R_below (ownx HO_9) hb); replace HB := Aside0.mk (below_step bel hb); (try clear hb); (try clear hb2); (try clear hk); (try clear hi); (try clear ho0)))
       repeat (go_quiet (first | (go_at_call 67; (with_reducible refine (dropperref01_made.calls k2 _ _ t264 _ _ x9_2 t313 t314 _ ?side1 ?side2 ?side3 ?side4 A73.out).mono ?_); (case side1 => repeat (first | exact (Kd.R_reads' HO_8.out).2.2 | (with_reducible refine Kd.C_alloc ?_ _) | (with_reducible refine Kd.C_drewN ?_ _) | (with_reducible refine Kd.C_drew ?_))); (case side2 => exact (Kd.R_reads' HO_8.out).2.1); (case side3 => repeat (first | exact (Kd.R_reads' HO_9.out).2.2 | (with_reducible refine Kd.C_alloc ?_ _) | (with_reducible refine Kd.C_drewN ?_ _) | (with_reducible refine Kd.C_drew ?_))); (case side4 => exact (Kd.R_reads' HO_9.out).2.1); rintro e w76 ⟨v315, rfl, ho0, hb⟩; have HO316 := Aside0.mk (Kd.R_lower ho0 (below_size bel)); replace HO_8 := Aside0.mk (Kd.R_below (ownx HO_8) hb); replace HO_9 := Aside0.mk (Kd.R_below (ownx HO_9) hb); replace HB := Aside0.mk (below_step bel hb); (try clear hb); (try clear hb2); (try clear hk); (try clear hi); (try clear ho0))); try go_wp2_with (first | (go_at_call 67; (with_reducible refine (dropperref01_made.calls k2 _ _ t264 _ _ x9_2 t313 t314 _ ?side1 ?side2 ?side3 ?side4 A73.out).mono ?_); (case side1 => repeat (first | exact (Kd.R_reads' HO_8.out).2.2 | (with_reducible refine Kd.C_alloc ?_ _) | (with_reducible refine Kd.C_drewN ?_ _) | (with_reducible refine Kd.C_drew ?_))); (case side2 => exact (Kd.R_reads' HO_8.out).2.1); (case side3 => repeat (first | exact (Kd.R_reads' HO_9.out).2.2 | (with_reducible refine Kd.C_alloc ?_ _) | (with_reducible refine Kd.C_drewN ?_ _) | (with_reducible refine Kd.C_drew ?_))); (case side4 => exact (Kd.R_reads' HO_9.out).2.1); rintro e w76 ⟨v315, rfl, ho0, hb⟩; have HO316 := Aside0.mk (Kd.R_lower ho0 (below_size bel)); replace HO_8 := Aside0.mk (Kd.R_below (ownx HO_8) hb); replace HO_9 := Aside0.mk (Kd.R_below (ownx HO_9) hb); replace HB := Aside0.mk (below_step bel hb); (try clear hb); (try clear hb2); (try clear hk); (try clear hi); (try clear ho0))))
       go_ret2
       exact ⟨_, ezz, by (with_reducible repeat (first | apply Kd.R_alloc | apply Kd.R_drewN | apply Kd.R_drew)); exact HO316.out, bel⟩

/-! ### mast_length: function 51 -/
def mast_length.l0 : Nat → Int → List (S46) → Int → Int → Option (Int)
 | 0, _, _, _, _ => none
 | k + 1, x2, x5, x6, x7 => if x7 < x6 then (if 0 ≤ x7 then (if x7 < (x5.length : Int) then (mast_length.l0 k (wrap64 (x2 + (wrap64 (((rd_T46 x5 x7).f1) - ((rd_T46 x5 x7).f0))))) x5 x6 (wrap64 (x7 + 1))) else (none)) else (none)) else (some x2)
def mast_length.f (k : Nat) (l0 : List (S46)) : Option (Int) := mast_length.l0 k 0 l0 (l0.length : Int) 0
set_option maxHeartbeats 8000000 in
set_option maxRecDepth 100000 in
theorem mast_length.calls (k : Nat) (A0 : Option Addr) (c0 : Nat) (l0 : List (S46)) (r : Int) (w : World) (hr0 : Kd.C k46 w A0 l0.length l0) (hc0 : l0.length ≤ c0) (h : mast_length.f k l0 = some r) :
  Calls Tryd.prog 51 #[.slice A0 l0.length c0] w fun e w' => e = .returned (.int .i64 r) ∧ Below w.heap.size w w' := by
 have hu46 := Tryd.underlying46
 have HR0 := Aside0.mk hr0
 have HC0 := Aside0.mk hc0
 clear hr0 hc0
 have HB := Aside0.mk (Below.refl w.heap.size w)
 have H : (mast_length.l0 k 0 l0 (l0.length : Int) 0) = some r := h
 clear h
 have H' := Aside0.mk H
 clear H
 go_enter Tryd.func51, Tryd.ntmps51
 go_wp2
 go_loopg [2, 7] k (fun kq v2 v7 w' => ∃ (x2_1 : Int) (x7_1 : Int), v2 = .int .i64 x2_1 ∧ v7 = .int .i64 x7_1 ∧ Aside0 (mast_length.l0 kq x2_1 l0 (l0.length : Int) x7_1 = some r) ∧ Aside0 (kq ≤ k) ∧ Aside0 (Below w.heap.size w w'))
 case atStart => exact ⟨(0), (0), rsz, rsz, H', ⟨Nat.le_refl _⟩, ⟨bel⟩⟩
 case round =>
  clear H'
  obtain ⟨x2_1, x7_1, rfl, rfl, HA, HK1, HB⟩ := hrel
  cases gk with
  | zero => exact absurd HA.out (by simp [mast_length.l0])
  | succ k1 =>
   have H := HA.out
   clear HA
   simp only [mast_length.l0] at H
   by_cases c2 : x7_1 < (l0.length : Int)
   ·
    rw [if_pos c2] at H
    have c2b0 : decide (x7_1 < (l0.length : Int)) = true := decide_eq_true c2
    clear c2
    by_cases c3 : 0 ≤ x7_1
    ·
     rw [if_pos c3] at H
     have c3b0 : decide (0 ≤ x7_1) = true := decide_eq_true c3
     clear c3
     by_cases c4 : x7_1 < (l0.length : Int)
     ·
      rw [if_pos c4] at H
      have c4b0 : decide (x7_1 < (l0.length : Int)) = true := decide_eq_true c4
      clear c4
      have H' := Aside0.mk H
      clear H
      have p227 : 0 ≤ (x7_1 : Int) := of_decide_eq_true asz
      have q227 : x7_1 < (l0.length : Int) := of_decide_eq_true asz
      obtain ⟨ad227, e227, hx227_0, hx227_1⟩ := at_T46 HR0.out x7_1 p227 q227
      cases e227
      replace hx227_0 := (HB.out.cell (World.block_lt_of_cell? w _ hx227_0)).trans hx227_0
      replace hx227_1 := (HB.out.cell (World.block_lt_of_cell? w _ hx227_1)).trans hx227_1
      replace p227 := eq_true p227
      replace q227 := eq_true q227
      go_wp2_with (first | ((with_reducible refine gate_dst (N := 4) rfl ?_); refine box_event ?hg (N := 4) ?hd (cs := #[.int .i64 0, .int .i64 0]) (t := 46) ?hr ?_; (case hd => rfl); (case hg => rfl); (case hr => first | (go_simp; done) | (go_simp; rfl)); intro gb228 hg w5 hbox hb; have BK228 := Aside0.mk (hbox); have GW228 := bsz (w := w) hg; have GE228 := GW228; replace HB := Aside0.mk (below_step bel hb); clear hb hbox hg; obtain ⟨hcz6_0, hcz6_1⟩ := bc2 BK228.out; obtain ⟨hfz6_0, hfz6_1⟩ := bf2 BK228.out))
      go_roundg k1
      case measure => have := HK1.out; omega
      case rel => exact ⟨(wrap64 (x2_1 + (wrap64 (((rd_T46 l0 x7_1).f1) - ((rd_T46 l0 x7_1).f0))))), (wrap64 (x7_1 + 1)), rsz, rsz, H', ⟨by have := HK1.out; omega⟩, ⟨bel⟩⟩
     ·
      rw [if_neg c4] at H
      exact absurd H (by simp)
    ·
     rw [if_neg c3] at H
     exact absurd H (by simp)
   ·
    rw [if_neg c2] at H
    have c2b0 : decide (x7_1 < (l0.length : Int)) = false := decide_eq_false c2
    clear c2
    obtain rfl := Option.some.inj H
    go_wp2
    go_ret
    exact ⟨ezz, bel⟩

/-! ### dropperref01_Sum: function 38 -/
def dropperref01_Sum.l0 : Nat → List (S46) → Int → Int → Option (Int)
 | 0, _, _, _ => none
 | k + 1, x0, x3, x4 => if x4 < (x0.length : Int) then (if 0 ≤ x4 then (dropperref01_Sum.l0 k x0 (wrap64 (x3 + (wrap64 (((rd_T46 x0 x4).f1) - ((rd_T46 x0 x4).f0))))) (wrap64 (x4 + 1))) else (none)) else (some x3)
def dropperref01_Sum.f (k : Nat) (l0 : List (S46)) : Option (Int) := dropperref01_Sum.l0 k l0 0 0
set_option maxHeartbeats 8000000 in
set_option maxRecDepth 100000 in
theorem dropperref01_Sum.calls (k : Nat) (A0 : Option Addr) (c0 : Nat) (l0 : List (S46)) (r : Int) (w : World) (hr0 : Kd.C k46 w A0 l0.length l0) (hc0 : l0.length ≤ c0) (h : dropperref01_Sum.f k l0 = some r) :
  Calls Tryd.prog 38 #[.slice A0 l0.length c0] w fun e w' => e = .returned (.int .i64 r) ∧ Drawn0 w w' := by
 have HR0 := Aside0.mk hr0
 have HC0 := Aside0.mk hc0
 clear hr0 hc0
 have H : (dropperref01_Sum.l0 k l0 0 0) = some r := h
 clear h
 have H' := Aside0.mk H
 clear H
 go_enter Tryd.func38, Tryd.ntmps38
 go_wp2
 repeat (go_quiet (fail); try go_wp2)
 go_loopg [3, 4] k (fun kq v3 v4 w' => ∃ (x3_1 : Int) (x4_1 : Int), v3 = .int .i64 x3_1 ∧ v4 = .int .i64 x4_1 ∧ Aside0 (dropperref01_Sum.l0 kq l0 x3_1 x4_1 = some r) ∧ Aside0 (kq ≤ k) ∧ Drawn0 w w')
 case atStart => exact ⟨(0), (0), rsz, rsz, H', ⟨Nat.le_refl _⟩, drz⟩
 case round =>
  clear H'
  obtain ⟨x3_1, x4_1, rfl, rfl, HA, HK1, ⟨m1, rfl⟩⟩ := hrel
  cases gk with
  | zero => exact absurd HA.out (by simp [dropperref01_Sum.l0])
  | succ k1 =>
   have H := HA.out
   clear HA
   simp only [dropperref01_Sum.l0] at H
   by_cases c2 : x4_1 < (l0.length : Int)
   ·
    rw [if_pos c2] at H
    have c2b0 : decide (x4_1 < (l0.length : Int)) = true := decide_eq_true c2
    clear c2
    by_cases c3 : 0 ≤ x4_1
    ·
     rw [if_pos c3] at H
     have c3b0 : decide (0 ≤ x4_1) = true := decide_eq_true c3
     clear c3
     have H' := Aside0.mk H
     clear H
     have p235 : 0 ≤ (x4_1 : Int) := of_decide_eq_true asz
     have q235 : x4_1 < (l0.length : Int) := of_decide_eq_true asz
     obtain ⟨ad235, e235, hx235_0, hx235_1⟩ := at_T46 HR0.out x4_1 p235 q235
     cases e235
     replace p235 := eq_true p235
     replace q235 := eq_true q235
     have p236 : 0 ≤ (x4_1 : Int) := of_decide_eq_true asz
     have q236 : x4_1 < (l0.length : Int) := of_decide_eq_true asz
     obtain ⟨ad236, e236, hx236_0, hx236_1⟩ := at_T46 HR0.out x4_1 p236 q236
     obtain rfl : ad235 = ad236 := (by injection e236)
     replace p236 := eq_true p236
     replace q236 := eq_true q236
     go_wp2
     repeat (go_quiet (fail); try go_wp2)
     go_roundg k1
     case measure => have := HK1.out; omega
     case rel => exact ⟨(wrap64 (x3_1 + (wrap64 (((rd_T46 l0 x4_1).f1) - ((rd_T46 l0 x4_1).f0))))), (wrap64 (x4_1 + 1)), rsz, rsz, H', ⟨by have := HK1.out; omega⟩, drz⟩
    ·
     rw [if_neg c3] at H
     exact absurd H (by simp)
   ·
    rw [if_neg c2] at H
    have c2b0 : decide (x4_1 < (l0.length : Int)) = false := decide_eq_false c2
    clear c2
    obtain rfl := Option.some.inj H
    go_wp2
    repeat (go_quiet (fail); try go_wp2)
    go_ret
    exact ⟨by first | rfl | (simp; done) | (simp [*]; done), drz⟩

end Go.Proofs.YtcmdcgghpkcchaaDoor.XMast
/- Which lists are lays, as the program and the reference say it. -/
namespace Go.Proofs.YtcmdcgghpkcchaaDoor.Lay
set_option linter.unusedVariables false
set_option linter.unusedSimpArgs false
open Go.RowKit Go.Proofs.YtcmdcgghpkcchaaDoor.XMast Go.Proofs.YtcmdcgghpkcchaaDoorW.PrintWords Go.Proofs.YtcmdcgghpkcchaaDoorW.PrintLast Go.Proofs.YtcmdcgghpkcchaaDoorW.PrintMore
theorem ev_const {α : Type} {o : Option α} {r : α} (h : o = some r) : Ev (fun _ => o) r := ⟨0, fun _ _ => h⟩
theorem ev_pos {α : Type} {c : Prop} [Decidable c] {a b : Nat → Option α} {r : α} (hc : c) (h : Ev a r) : Ev (fun k => if c then a k else b k) r := Ev.congr (fun k => if_pos hc) h
theorem ev_neg {α : Type} {c : Prop} [Decidable c] {a b : Nat → Option α} {r : α} (hc : ¬ c) (h : Ev b r) : Ev (fun k => if c then a k else b k) r := Ev.congr (fun k => if_neg hc) h
theorem ev_some {α β : Type} {a : α} {f : Nat → α → Option β} {r : β} (h : Ev (fun k => f k a) r) : Ev (fun k => (some a).bind (f k)) r := h
theorem ev_one {α : Type} {g : Nat → Option α} {r s : α} {k : Nat} (hg : ∀ k, LeO (g k) (g (k + 1))) (h : Ev g r) (h' : g k = some s) : s = r := by
 obtain ⟨K, hK⟩ := h
 obtain ⟨K', hK'⟩ := Ev.of hg h'
 have h1 := hK (max K K') (Nat.le_max_left _ _)
 have h2 := hK' (max K K') (Nat.le_max_right _ _)
 exact Option.some.inj (h2.symm.trans h1)
theorem wrap_id {x : Int} (h0 : -9223372036854775808 ≤ x) (h1 : x ≤ 9223372036854775807) : wrap64 x = x := by unfold wrap64; omega
theorem wrap_succ {i n : Nat} (h : i < n) (hn : n ≤ 9223372036854775807) : wrap64 ((i : Int) + 1) = ((i + 1 : Nat) : Int) := by rw [wrap_id] <;> omega
theorem rdSt (l : List St) (i : Nat) (h : i < l.length) : rd_T46 l (i : Int) = l[i] := by simp [rd_T46, List.getD_eq_getElem?_getD, h]
open Classical in
noncomputable def okB (l : List St) : Bool := decide (Norm l ∧ l.length ≤ 60)
theorem okB_iff (l : List St) : okB l = true ↔ Norm l ∧ l.length ≤ 60 := by unfold okB; exact @decide_eq_true_iff _ (_)
theorem okB_no {l : List St} (h : ¬ Norm l) : okB l = false := by rw [Bool.eq_false_iff]; intro h'; exact h ((okB_iff l).1 h').1
open Classical in
theorem okB_len {l : List St} (h : Norm l) : okB l = decide ((l.length : Int) ≤ 60) := by
 rw [Bool.eq_iff_iff, okB_iff, decide_eq_true_iff]
 exact ⟨fun ⟨_, h⟩ => by omega, fun h' => ⟨h, by omega⟩⟩
instance (s : St) : Decidable (isSt s) := inferInstanceAs (Decidable (_ ∧ _))
theorem mst (a b : Int) : mast_isStretch.f a b = some (decide (isSt ⟨a, b⟩)) := by
 unfold mast_isStretch.f mast_isAt.f isSt
 by_cases c1 : a ≥ 0 <;> by_cases c2 : a ≤ 100000 <;> by_cases c3 : b ≥ 0 <;> by_cases c4 : b ≤ 100000 <;> simp [c1, c2, c3, c4]
theorem rst (a b : Int) : dropperref01_isStretch.f a b = some (decide (isSt ⟨a, b⟩)) := by
 unfold dropperref01_isStretch.f dropperref01_isAt.f isSt
 by_cases c1 : a ≥ 0 <;> by_cases c2 : a ≤ 100000 <;> by_cases c3 : b ≥ 0 <;> by_cases c4 : b ≤ 100000 <;> simp [c1, c2, c3, c4]
theorem Norm.at_ {l : List St} (h : Norm l) (i : Nat) (hi : i < l.length) : Lay.isSt l[i] := h.isSt _ (List.getElem_mem hi)
theorem Norm.gap {l : List St} (h : Norm l) (i : Nat) (hi : i + 1 < l.length) : l[i].f1 < l[i + 1].f0 := List.pairwise_iff_getElem.1 h.1 i (i + 1) (by omega) hi (by omega)
theorem norm_step {l : List St} {i : Nat} (hi : i < l.length) (h : Norm (l.take i)) (hs : isSt l[i]) (hg : ∀ h : 0 < i, l[i - 1].f1 < l[i].f0) : Norm (l.take (i + 1)) := by
 rw [List.take_succ_eq_append_getElem hi]
 refine Norm.snoc h (fun u hu => ?_) hs.1 hs.2.2.2.2 hs.2.2.2.1
 rcases Nat.eq_zero_or_pos i with h0 | h0
 ·
  subst h0; simp at hu
 ·
  have h1 := hg h0
  obtain ⟨j, hj, rfl⟩ := List.mem_iff_getElem.1 hu
  simp only [List.length_take] at hj
  rw [List.getElem_take]
  by_cases hji : j = i - 1
  ·
   subst hji; exact h1
  ·
   have h2 := List.pairwise_iff_getElem.1 h.1 j (i - 1) (by simp; omega) (by simp; omega) (by omega)
   rw [List.getElem_take, List.getElem_take] at h2
   have h3 := h.2 l[i - 1] (by rw [List.mem_take_iff_getElem]; exact ⟨i - 1, by omega, rfl⟩)
   omega
theorem mvalid (l : List St) (hl : l.length ≤ 9223372036854775806) : Ev (fun k => mast_Valid.f k l) (okB l) := by
 have H : ∀ (d i : Nat), i + d = l.length → Norm (l.take i) → Ev (fun k => mast_Valid.l0 k l l (l.length : Int) (i : Int)) (okB l) := by
  intro d
  induction d with
  | zero =>
   intro i hi hn
   refine Ev.step (fun k => by rw [mast_Valid.l0]) ?_
   refine ev_neg (by omega) (ev_const ?_)
   rw [List.take_of_length_le (by omega)] at hn
   rw [okB_len hn]
  | succ d ih =>
   intro i hi hn
   have hil : i < l.length := by omega
   refine Ev.step (fun k => by rw [mast_Valid.l0]) ?_
   refine ev_pos (by omega) (ev_pos (by omega) (ev_pos (by omega) ?_))
   rw [rdSt l i hil, mst]
   refine ev_some ?_
   by_cases hs : isSt l[i]
   ·
    refine ev_pos (by simpa using hs) ?_
    have hw := wrap_succ hil (by omega)
    by_cases hi0 : 0 < i
    ·
     have e : wrap64 ((i : Int) - 1) = ((i - 1 : Nat) : Int) := by rw [wrap_id] <;> omega
     rw [e, hw, rdSt l (i - 1) (by omega)]
     refine ev_pos (by omega) (ev_pos (by omega) (ev_pos (by omega) ?_))
     by_cases hg : l[i].f0 ≤ l[i - 1].f1
     ·
      refine ev_pos hg (ev_const ?_)
      rw [okB_no]
      intro h
      have h2 := h.gap (i - 1) (by omega)
      have h3 : l[i - 1 + 1] = l[i] := by congr 1; omega
      rw [h3] at h2
      omega
     ·
      exact ev_neg hg (ih (i + 1) (by omega) (norm_step hil hn hs (fun _ => by omega)))
    ·
     refine ev_neg (by omega) ?_
     rw [hw]
     exact ih (i + 1) (by omega) (norm_step hil hn hs (fun h => absurd h hi0))
   ·
    refine ev_neg (by simpa using hs) (ev_const ?_)
    rw [okB_no]
    intro h
    exact hs (h.at_ i hil)
 exact H l.length 0 (by omega) (by simpa using Norm.nil)
theorem rvalid (l : List St) (hl : l.length ≤ 9223372036854775806) : Ev (fun k => dropperref01_Valid.f k l) (okB l) := by
 have H : ∀ (d i : Nat), i + d = l.length → Norm (l.take i) → Ev (fun k => dropperref01_Valid.l0 k l (i : Int)) (okB l) := by
  intro d
  induction d with
  | zero =>
   intro i hi hn
   refine Ev.step (fun k => by rw [dropperref01_Valid.l0]) ?_
   refine ev_neg (by omega) (ev_const ?_)
   rw [List.take_of_length_le (by omega)] at hn
   rw [okB_len hn]
  | succ d ih =>
   intro i hi hn
   have hil : i < l.length := by omega
   refine Ev.step (fun k => by rw [dropperref01_Valid.l0]) ?_
   refine ev_pos (by omega) (ev_pos (by omega) ?_)
   rw [rdSt l i hil, rst]
   refine ev_some ?_
   by_cases hs : isSt l[i]
   ·
    refine ev_pos (by simpa using hs) ?_
    have hw := wrap_succ hil (by omega)
    by_cases hi0 : 0 < i
    ·
     have e : wrap64 ((i : Int) - 1) = ((i - 1 : Nat) : Int) := by rw [wrap_id] <;> omega
     rw [e, hw, rdSt l (i - 1) (by omega)]
     refine ev_pos (by omega) (ev_pos (by omega) (ev_pos (by omega) ?_))
     by_cases hg : l[i].f0 ≤ l[i - 1].f1
     ·
      refine ev_pos hg (ev_const ?_)
      rw [okB_no]
      intro h
      have h2 := h.gap (i - 1) (by omega)
      have h3 : l[i - 1 + 1] = l[i] := by congr 1; omega
      rw [h3] at h2
      omega
     ·
      exact ev_neg hg (ih (i + 1) (by omega) (norm_step hil hn hs (fun _ => by omega)))
    ·
     refine ev_neg (by omega) ?_
     rw [hw]
     exact ih (i + 1) (by omega) (norm_step hil hn hs (fun h => absurd h hi0))
   ·
    refine ev_neg (by simpa using hs) (ev_const ?_)
    rw [okB_no]
    intro h
    exact hs (h.at_ i hil)
 exact H l.length 0 (by omega) (by simpa using Norm.nil)
theorem mvalid_one {k : Nat} {l : List St} {r : Bool} (hl : l.length ≤ 9223372036854775806) (h : mast_Valid.f k l = some r) : r = okB l := ev_one (mast_Valid.mono l) (mvalid l hl) h
end Go.Proofs.YtcmdcgghpkcchaaDoor.Lay

/- The layer's smaller functions, and the reference's cuts, plainly. -/
namespace Go.Proofs.YtcmdcgghpkcchaaDoor.Lay
set_option linter.unusedVariables false
set_option linter.unusedSimpArgs false
open Go.RowKit Go.Proofs.YtcmdcgghpkcchaaDoor.XMast Go.Proofs.YtcmdcgghpkcchaaDoorW.PrintWords Go.Proofs.YtcmdcgghpkcchaaDoorW.PrintLast Go.Proofs.YtcmdcgghpkcchaaDoorW.PrintMore
theorem ev_bind1 {α β : Type} {g : Nat → Option α} {f : Nat → α → Option β} {a : α} {r : β} (h : Ev g a) (k : Ev (fun n => f n a) r) : Ev (fun n => (g n).bind (f n)) r := Ev.bind h k
theorem ev_val {α β : Type} {g : Option α} {f : Nat → α → Option β} {a : α} {r : β} (h : g = some a) (k : Ev (fun n => f n a) r) : Ev (fun n => g.bind (f n)) r := by subst h; exact k
/-! ### Same -/
theorem same_refl (l : List St) (hl : l.length ≤ 9223372036854775806) : Ev (fun k => dropperlaw01_Same.f k l l) true := by
 unfold dropperlaw01_Same.f
 refine ev_pos rfl ?_
 have H : ∀ (d i : Nat), i + d = l.length → Ev (fun k => dropperlaw01_Same.l0 k l l (i : Int)) true := by
  intro d
  induction d with
  | zero =>
   intro i hi
   refine Ev.step (fun k => by rw [dropperlaw01_Same.l0]) ?_
   exact ev_neg (by omega) (Ev.now _)
  | succ d ih =>
   intro i hi
   refine Ev.step (fun k => by rw [dropperlaw01_Same.l0]) ?_
   refine ev_pos (by omega) (ev_pos (by omega) (ev_pos (by omega) (ev_neg (by simp) ?_)))
   rw [wrap_succ (n := l.length) (by omega) (by omega)]
   exact ih (i + 1) (by omega)
 exact H l.length 0 (by omega)
theorem same_iff (a b : List St) (hl : a.length ≤ 9223372036854775806) : ∃ r : Bool, Ev (fun k => dropperlaw01_Same.f k a b) r ∧ (r = true ↔ a = b) := by
 unfold dropperlaw01_Same.f
 by_cases hlen : a.length = b.length
 ·
  have H : ∀ (d i : Nat), i + d = a.length → a.take i = b.take i → ∃ r : Bool, Ev (fun k => dropperlaw01_Same.l0 k a b (i : Int)) r ∧ (r = true ↔ a = b) := by
   intro d
   induction d with
   | zero =>
    intro i hi ht
    refine ⟨true, ?_, fun _ => ?_, fun _ => rfl⟩
    ·
     refine Ev.step (fun k => by rw [dropperlaw01_Same.l0]) ?_
     exact ev_neg (by omega) (Ev.now _)
    ·
     rwa [List.take_of_length_le (by omega), List.take_of_length_le (by omega)] at ht
   | succ d ih =>
    intro i hi ht
    have ha : i < a.length := by omega
    have hb : i < b.length := by omega
    by_cases he : a[i] = b[i]
    ·
     obtain ⟨r, h1, h2⟩ := ih (i + 1) (by omega) (by rw [List.take_succ_eq_append_getElem ha, List.take_succ_eq_append_getElem hb, ht, he])
     refine ⟨r, ?_, h2⟩
     refine Ev.step (fun k => by rw [dropperlaw01_Same.l0]) ?_
     refine ev_pos (by omega) (ev_pos (by omega) (ev_pos (by omega) ?_))
     rw [rdSt a i ha, rdSt b i hb, he]
     refine ev_neg (by simp) ?_
     rw [wrap_succ (n := a.length) (by omega) (by omega)]
     exact h1
    ·
     refine ⟨false, ?_, (fun h => by cases h), fun h => absurd (by simp [h]) he⟩
     refine Ev.step (fun k => by rw [dropperlaw01_Same.l0]) ?_
     refine ev_pos (by omega) (ev_pos (by omega) (ev_pos (by omega) ?_))
     rw [rdSt a i ha, rdSt b i hb]
     refine ev_pos ?_ (Ev.now _)
     by_cases h0 : a[i].f0 = b[i].f0
     ·
      have h1 : a[i].f1 ≠ b[i].f1 := fun h1 => he (St.ext' h0 h1)
      simp [h0, h1]
     ·
      simp [h0]
  obtain ⟨r, h1, h2⟩ := H a.length 0 (by omega) (by simp)
  exact ⟨r, ev_pos (by omega) h1, h2⟩
 ·
  exact ⟨false, ev_neg (by omega) (Ev.now _), (fun h => by cases h), fun h => absurd (by rw [h]) hlen⟩
/-! ### how many have a metre; how many metres -/
theorem cnt_snoc (l : List St) (s : St) (x : Int) : cnt (l ++ [s]) x = cnt l x + (if s.f0 ≤ x ∧ x < s.f1 then 1 else 0) := by
 induction l with
 | nil => simp [cnt]
 | cons t l ih => rw [List.cons_append, cnt, cnt, ih]; omega
theorem depth (l : List St) (x : Int) (hl : l.length ≤ 1000000) : Ev (fun k => dropperref01_depth.f k l x) (cnt l x) := by
 have H : ∀ (d i : Nat), i + d = l.length → Ev (fun k => dropperref01_depth.l0 k l x (cnt (l.take i) x) (i : Int)) (cnt l x) := by
  intro d
  induction d with
  | zero =>
   intro i hi
   refine Ev.step (fun k => by rw [dropperref01_depth.l0]) ?_
   refine ev_neg (by omega) (ev_const ?_)
   rw [List.take_of_length_le (by omega)]
  | succ d ih =>
   intro i hi
   have hil : i < l.length := by omega
   have hc := cnt_nonneg (l.take i) x
   have hlen : (l.take i).length ≤ 1000000 := by simp; omega
   have ih1 := ih (i + 1) (by omega)
   rw [List.take_succ_eq_append_getElem hil, cnt_snoc] at ih1
   refine Ev.step (fun k => by rw [dropperref01_depth.l0]) ?_
   refine ev_pos (by omega) (ev_pos (by omega) ?_)
   rw [rdSt l i hil, wrap_succ (n := l.length) hil (by omega)]
   by_cases h1 : l[i].f0 ≤ x
   ·
    refine ev_pos h1 ?_
    by_cases h2 : x < l[i].f1
    ·
     refine ev_pos h2 ?_
     rw [if_pos ⟨h1, h2⟩] at ih1
     rw [wrap_id (x := cnt (l.take i) x + 1) (by omega) (by omega)]
     exact ih1
    ·
     refine ev_neg h2 ?_
     rw [if_neg (fun h => h2 h.2), Int.add_zero] at ih1
     exact ih1
   ·
    refine ev_neg h1 ?_
    rw [if_neg (fun h => h1 h.1), Int.add_zero] at ih1
    exact ih1
 exact H l.length 0 (by omega)
def tot : List St → Int
 | [] => 0
 | s :: t => (s.f1 - s.f0) + tot t
theorem tot_snoc (l : List St) (s : St) : tot (l ++ [s]) = tot l + (s.f1 - s.f0) := by
 induction l with
 | nil => simp [tot]
 | cons t l ih => rw [List.cons_append, tot, tot, ih]; omega
theorem tot_bound : ∀ (l : List St), (∀ s ∈ l, isSt s) → 0 ≤ tot l ∧ tot l ≤ 100000 * l.length
 | [], _ => by simp [tot]
 | s :: t, h => by
  have h1 := h s List.mem_cons_self
  have h2 := tot_bound t (fun u hu => h u (List.mem_cons_of_mem _ hu))
  unfold isSt at h1
  rw [tot, List.length_cons]
  omega
theorem length_ (l : List St) (hl : l.length ≤ 1000) (hs : ∀ s ∈ l, isSt s) : Ev (fun k => mast_length.f k l) (tot l) := by
 have H : ∀ (d i : Nat), i + d = l.length → Ev (fun k => mast_length.l0 k (tot (l.take i)) l (l.length : Int) (i : Int)) (tot l) := by
  intro d
  induction d with
  | zero =>
   intro i hi
   refine Ev.step (fun k => by rw [mast_length.l0]) ?_
   refine ev_neg (by omega) (ev_const ?_)
   rw [List.take_of_length_le (by omega)]
  | succ d ih =>
   intro i hi
   have hil : i < l.length := by omega
   have hb := tot_bound (l.take i) (fun s h => hs s (List.mem_of_mem_take h))
   have hlen : (l.take i).length ≤ 1000 := by simp; omega
   have h1 := hs l[i] (List.getElem_mem hil)
   unfold isSt at h1
   have ih1 := ih (i + 1) (by omega)
   rw [List.take_succ_eq_append_getElem hil, tot_snoc] at ih1
   refine Ev.step (fun k => by rw [mast_length.l0]) ?_
   refine ev_pos (by omega) (ev_pos (by omega) (ev_pos (by omega) ?_))
   rw [rdSt l i hil, wrap_succ (n := l.length) hil (by omega), wrap_id (x := l[i].f1 - l[i].f0) (by omega) (by omega), wrap_id (x := tot (l.take i) + (l[i].f1 - l[i].f0)) (by omega) (by omega)]
   exact ih1
 exact H l.length 0 (by omega)
theorem sum_ (l : List St) (hl : l.length ≤ 1000) (hs : ∀ s ∈ l, isSt s) : Ev (fun k => dropperref01_Sum.f k l) (tot l) := by
 have H : ∀ (d i : Nat), i + d = l.length → Ev (fun k => dropperref01_Sum.l0 k l (tot (l.take i)) (i : Int)) (tot l) := by
  intro d
  induction d with
  | zero =>
   intro i hi
   refine Ev.step (fun k => by rw [dropperref01_Sum.l0]) ?_
   refine ev_neg (by omega) (ev_const ?_)
   rw [List.take_of_length_le (by omega)]
  | succ d ih =>
   intro i hi
   have hil : i < l.length := by omega
   have hb := tot_bound (l.take i) (fun s h => hs s (List.mem_of_mem_take h))
   have hlen : (l.take i).length ≤ 1000 := by simp; omega
   have h1 := hs l[i] (List.getElem_mem hil)
   unfold isSt at h1
   have ih1 := ih (i + 1) (by omega)
   rw [List.take_succ_eq_append_getElem hil, tot_snoc] at ih1
   refine Ev.step (fun k => by rw [dropperref01_Sum.l0]) ?_
   refine ev_pos (by omega) (ev_pos (by omega) ?_)
   rw [rdSt l i hil, wrap_succ (n := l.length) hil (by omega), wrap_id (x := l[i].f1 - l[i].f0) (by omega) (by omega), wrap_id (x := tot (l.take i) + (l[i].f1 - l[i].f0)) (by omega) (by omega)]
   exact ih1
 exact H l.length 0 (by omega)
/-! ### raw -/
def rawOk (l : List St) : Prop := l.length ≤ 200 ∧ ∀ s ∈ l, isSt s
theorem bad_st (x : St) : mast_raw.bad x = !decide (isSt x) := by
 unfold mast_raw.bad
 rw [mst]
 cases decide (isSt x) <;> rfl
theorem mraw (l : List St) : (rawOk l ∧ mast_raw.f l = some 0) ∨ (¬ rawOk l ∧ mast_raw.f l = some 2) := by
 unfold mast_raw.f rawOk
 by_cases h1 : (l.length : Int) > 200
 ·
  exact .inr ⟨fun h => by omega, by rw [if_pos h1]⟩
 ·
  rw [if_neg h1]
  by_cases h2 : l.any mast_raw.bad = true
  ·
   rw [if_pos h2]
   refine .inr ⟨fun h => ?_, rfl⟩
   obtain ⟨x, hx, h3⟩ := List.any_eq_true.1 h2
   rw [bad_st] at h3
   simp [h.2 x hx] at h3
  ·
   rw [if_neg h2]
   refine .inl ⟨⟨by omega, fun s hs => ?_⟩, rfl⟩
   by_cases h3 : isSt s
   ·
    exact h3
   ·
    exact absurd (List.any_eq_true.2 ⟨s, hs, by rw [bad_st]; simp [h3]⟩) h2
theorem rraw (l : List St) (hl : l.length ≤ 9223372036854775806) : ∃ r : Bool, Ev (fun k => dropperref01_raw.f k l) r ∧ (r = true ↔ rawOk l) := by
 have H : ∀ (d i : Nat), i + d = l.length → (∀ s ∈ l.take i, isSt s) → ∃ r : Bool, Ev (fun k => dropperref01_raw.l0 k l (i : Int)) r ∧ (r = true ↔ rawOk l) := by
  intro d
  induction d with
  | zero =>
   intro i hi hs
   refine ⟨decide ((l.length : Int) ≤ 200), ?_, ?_⟩
   ·
    refine Ev.step (fun k => by rw [dropperref01_raw.l0]) ?_
    exact ev_neg (by omega) (Ev.now _)
   ·
    rw [List.take_of_length_le (by omega)] at hs
    rw [decide_eq_true_iff]
    exact ⟨fun h => ⟨by omega, hs⟩, fun h => by have := h.1; omega⟩
  | succ d ih =>
   intro i hi hs
   have hil : i < l.length := by omega
   by_cases h1 : isSt l[i]
   ·
    obtain ⟨r, h2, h3⟩ := ih (i + 1) (by omega) (fun s h => by
     rw [List.take_succ_eq_append_getElem hil] at h
     rcases List.mem_append.1 h with h | h
     ·
      exact hs s h
     ·
      rw [List.mem_singleton] at h; subst h; exact h1)
    refine ⟨r, ?_, h3⟩
    refine Ev.step (fun k => by rw [dropperref01_raw.l0]) ?_
    refine ev_pos (by omega) (ev_pos (by omega) ?_)
    rw [rdSt l i hil, rst, wrap_succ (n := l.length) hil (by omega)]
    exact ev_some (ev_pos (by simpa using h1) h2)
   ·
    refine ⟨false, ?_, (fun h => by cases h), fun h => absurd (h.2 _ (List.getElem_mem hil)) h1⟩
    refine Ev.step (fun k => by rw [dropperref01_raw.l0]) ?_
    refine ev_pos (by omega) (ev_pos (by omega) ?_)
    rw [rdSt l i hil, rst]
    exact ev_some (ev_neg (by simpa using h1) (Ev.now _))
 exact H l.length 0 (by omega) (fun s h => by simp at h)
/-! ### cuts -/
structure Cuts (C : List Int) : Prop where
 asc : C.Pairwise (· < ·)
 lo : 0 ∈ C
 hi : 100000 ∈ C
 bnd : ∀ c ∈ C, 0 ≤ c ∧ c ≤ 100000
open Put (putF idx)
theorem idx_lt (n : Int) : ∀ (l : List Int), ∀ x ∈ l.take (idx l n), x < n
 | [], x, h => by simp at h
 | y :: l, x, h => by
  unfold idx at h
  rw [List.takeWhile_cons] at h
  by_cases hy : y < n
  ·
   rw [if_pos (by simpa using hy), List.length_cons, List.take_succ_cons] at h
   rcases List.mem_cons.1 h with rfl | h
   ·
    exact hy
   ·
    exact idx_lt n l x h
  ·
   rw [if_neg (by simpa using hy)] at h; simp at h
theorem idx_ge (n : Int) : ∀ (l : List Int), l.Pairwise (· < ·) → ∀ x ∈ l.drop (idx l n), n ≤ x
 | [], _, x, h => by simp at h
 | y :: l, hp, x, h => by
  rw [List.pairwise_cons] at hp
  unfold idx at h
  rw [List.takeWhile_cons] at h
  by_cases hy : y < n
  ·
   rw [if_pos (by simpa using hy), List.length_cons, List.drop_succ_cons] at h
   exact idx_ge n l hp.2 x h
  ·
   rw [if_neg (by simpa using hy), List.length_nil, List.drop_zero] at h
   rcases List.mem_cons.1 h with rfl | h
   ·
    omega
   ·
    have := hp.1 x h; omega
theorem put_mem {l : List Int} {n : Int} (x : Int) : x ∈ putF l n ↔ x ∈ l ∨ x = n := by
 unfold putF
 by_cases h : l[idx l n]? = some n
 ·
  rw [if_pos h]
  refine ⟨.inl, fun h' => ?_⟩
  rcases h' with h' | rfl
  ·
   exact h'
  ·
   exact List.mem_of_getElem? h
 ·
  rw [if_neg h]
  rw [List.mem_append, List.mem_cons]
  constructor
  ·
   rintro (h' | rfl | h')
   ·
    exact .inl (List.mem_of_mem_take h')
   ·
    exact .inr rfl
   ·
    exact .inl (List.mem_of_mem_drop h')
  ·
   rintro (h' | rfl)
   ·
    rw [← List.take_append_drop (idx l n) l, List.mem_append] at h'
    rcases h' with h' | h'
    ·
     exact .inl h'
    ·
     exact .inr (.inr h')
   ·
    exact .inr (.inl rfl)
theorem put_asc {l : List Int} {n : Int} (hp : l.Pairwise (· < ·)) : (putF l n).Pairwise (· < ·) := by
 unfold putF
 by_cases h : l[idx l n]? = some n
 ·
  rw [if_pos h]; exact hp
 ·
  rw [if_neg h]
  have h1 := hp
  rw [← List.take_append_drop (idx l n) l, List.pairwise_append] at h1
  refine List.pairwise_append.2 ⟨h1.1, List.pairwise_cons.2 ⟨fun y hy => ?_, h1.2.1⟩, fun x hx y hy => ?_⟩
  ·
   have h2 := idx_ge n l hp y hy
   rcases Int.lt_or_eq_of_le h2 with h3 | h3
   ·
    exact h3
   ·
    exfalso
    subst h3
    apply h
    cases hd : l.drop (idx l n) with
    | nil => rw [hd] at hy; cases hy
    | cons z r =>
     rw [hd] at hy
     have h4 := h1.2.1
     rw [hd, List.pairwise_cons] at h4
     have h5 := idx_ge n l hp z (by rw [hd]; exact List.mem_cons_self)
     have h6 : l[idx l n]? = some z := by rw [← List.head?_drop, hd]; rfl
     rcases List.mem_cons.1 hy with e | e
     ·
      rw [h6, e]
     ·
      have := h4.1 _ e; omega
  ·
   have h2 := idx_lt n l x hx
   rcases List.mem_cons.1 hy with rfl | hy
   ·
    exact h2
   ·
    have := idx_ge n l hp y hy; omega
theorem Cuts.put {C : List Int} {n : Int} (h : Cuts C) (h0 : 0 ≤ n) (h1 : n ≤ 100000) : Cuts (putF C n) :=
 ⟨put_asc h.asc, (put_mem _).2 (.inl h.lo), (put_mem _).2 (.inl h.hi), fun c hc => by
  rcases (put_mem _).1 hc with hc | rfl
  ·
   exact h.bnd c hc
  ·
   exact ⟨h0, h1⟩⟩
theorem cuts_all : ∀ (l : List St) (C : List Int), Cuts C → (∀ s ∈ l, isSt s) → Cuts (dropperref01_bounds.all l C) ∧ (∀ c ∈ C, c ∈ dropperref01_bounds.all l C) ∧ ∀ s ∈ l, s.f0 ∈ dropperref01_bounds.all l C ∧ s.f1 ∈ dropperref01_bounds.all l C
 | [], C, h, _ => ⟨h, fun _ hc => hc, fun _ h => by cases h⟩
 | s :: t, C, h, hs => by
  have h1 := hs s List.mem_cons_self
  unfold isSt at h1
  obtain ⟨a, b, c⟩ := cuts_all t _ ((h.put (n := s.f0) (by omega) (by omega)).put (n := s.f1) (by omega) (by omega)) (fun u hu => hs u (List.mem_cons_of_mem _ hu))
  rw [dropperref01_bounds.all]
  refine ⟨a, fun x hx => b x ((put_mem _).2 (.inl ((put_mem _).2 (.inl hx)))), fun u hu => ?_⟩
  rcases List.mem_cons.1 hu with rfl | hu
  ·
   exact ⟨b _ ((put_mem _).2 (.inl ((put_mem _).2 (.inr rfl)))), b _ ((put_mem _).2 (.inr rfl))⟩
  ·
   exact c u hu
theorem cuts_len : ∀ (l : List St) (C : List Int), (dropperref01_bounds.all l C).length ≤ C.length + 2 * l.length
 | [], C => by simp [dropperref01_bounds.all]
 | s :: t, C => by
  have h1 := cuts_len t (putF (putF C s.f0) s.f1)
  have h2 := (dropperref01_bounds.put_len C s.f0).1
  have h3 := (dropperref01_bounds.put_len (putF C s.f0) s.f1).1
  rw [dropperref01_bounds.all, List.length_cons]
  omega
theorem bounds_ (l m : List St) (hl : l.length + m.length ≤ 450) (h0 : ∀ s ∈ l, isSt s) (h1 : ∀ s ∈ m, isSt s) :
  ∃ C, dropperref01_bounds.f l m = some C ∧ Cuts C ∧ C.length ≤ 1000 ∧ (∀ s ∈ l, s.f0 ∈ C ∧ s.f1 ∈ C) ∧ (∀ s ∈ m, s.f0 ∈ C ∧ s.f1 ∈ C) := by
 have hc : Cuts [0, 100000] := ⟨by simp, by simp, by simp, fun c hc => by simp at hc; omega⟩
 obtain ⟨a, _, c⟩ := cuts_all (l ++ m) [0, 100000] hc (fun s hs => by rcases List.mem_append.1 hs with hs | hs; exact h0 s hs; exact h1 s hs)
 refine ⟨_, by unfold dropperref01_bounds.f; rw [if_pos hl], a, ?_, fun s hs => c s (List.mem_append_left _ hs), fun s hs => c s (List.mem_append_right _ hs)⟩
 have := cuts_len (l ++ m) [0, 100000]
 simp at this
 omega
theorem Cuts.zero {C : List Int} (h : Cuts C) : ∃ hl : 0 < C.length, C[0] = 0 := by
 obtain ⟨j, hj, e⟩ := List.mem_iff_getElem.1 h.lo
 have hl : 0 < C.length := by omega
 refine ⟨hl, ?_⟩
 rcases Nat.eq_zero_or_pos j with rfl | hj0
 ·
  exact e
 ·
  have h1 := List.pairwise_iff_getElem.1 h.asc 0 j hl hj hj0
  have h2 := (h.bnd C[0] (List.getElem_mem hl)).1
  omega
theorem Cuts.last {C : List Int} (h : Cuts C) (hl : C.length - 1 < C.length) : C[C.length - 1] = 100000 := by
 obtain ⟨j, hj, e⟩ := List.mem_iff_getElem.1 h.hi
 by_cases hj1 : j = C.length - 1
 ·
  subst hj1; exact e
 ·
  have h1 := List.pairwise_iff_getElem.1 h.asc j (C.length - 1) hj hl (by omega)
  have h2 := (h.bnd _ (List.getElem_mem hl)).2
  omega
theorem cnt_const {C : List Int} (h : Cuts C) {l : List St} (hl : ∀ s ∈ l, s.f0 ∈ C ∧ s.f1 ∈ C) {i : Nat} (hi : i < C.length) {x : Int} (h1 : C[i] ≤ x) (h2 : ∀ j (hj : j < C.length), i < j → x < C[j]) : cnt l x = cnt l C[i] := by
 have key : ∀ c ∈ C, (c ≤ x ↔ c ≤ C[i]) := fun c hc => by
  obtain ⟨j, hj, rfl⟩ := List.mem_iff_getElem.1 hc
  refine ⟨fun h3 => ?_, fun h3 => by omega⟩
  rcases Nat.lt_trichotomy i j with h4 | h4 | h4
  ·
   have := h2 j hj h4; omega
  ·
   subst h4; exact Int.le_refl _
  ·
   have := List.pairwise_iff_getElem.1 h.asc j i hj hi h4; omega
 induction l with
 | nil => rfl
 | cons s t ih =>
  have hs := hl s List.mem_cons_self
  have k0 := key _ hs.1
  have k1 := key _ hs.2
  rw [cnt, cnt, ih (fun u hu => hl u (List.mem_cons_of_mem _ hu))]
  by_cases a : s.f0 ≤ x ∧ x < s.f1
  ·
   rw [if_pos a, if_pos (by omega)]
  ·
   rw [if_neg a, if_neg (by omega)]
theorem rdI (l : List Int) (i : Nat) (h : i < l.length) : rd l (i : Int) = l[i] := by simp [rd, List.getD_eq_getElem?_getD, h]
theorem rdB (l : List Bool) (i : Nat) (h : i < l.length) : rdOf false l (i : Int) = l[i] := by simp [rdOf, List.getD_eq_getElem?_getD, h]
theorem made_ {C : List Int} (h : Cuts C) (hC : C.length ≤ 1000) (Q : Int → Prop) (B : List Bool) (hB : B.length = C.length)
  (hq : ∀ (i : Nat) (h1 : i + 1 < C.length), ∀ x, C[i] ≤ x → x < C[i + 1] → (Q x ↔ B[i]'(by omega) = true)) :
  ∃ o, Norm o ∧ (∀ x, cov o x ↔ (0 ≤ x ∧ x < 100000 ∧ Q x)) ∧ Ev (fun k => dropperref01_made.f k C B) (fin o) := by
 have H : ∀ (d i : Nat) (out : List St) (hi : i + d + 1 = C.length), Part Q (C[i]'(by omega)) out → out.length ≤ i → ∃ o, Norm o ∧ (∀ x, cov o x ↔ (0 ≤ x ∧ x < 100000 ∧ Q x)) ∧ Ev (fun k => dropperref01_made.l0 k C B out (i : Int)) (fin o) := by
  intro d
  induction d with
  | zero =>
   intro i out hi hp hol
   have e : i = C.length - 1 := by omega
   subst e
   rw [h.last (by omega)] at hp
   refine ⟨out, hp.1, hp.2.2, ?_⟩
   refine Ev.step (fun k => by rw [dropperref01_made.l0]) ?_
   rw [wrap_id (by omega) (by omega)]
   refine ev_neg (by omega) ?_
   unfold fin
   by_cases h60 : out.length > 60
   ·
    rw [if_pos h60]; exact ev_pos (by omega) (Ev.now _)
   ·
    rw [if_neg h60]; exact ev_neg (by omega) (Ev.now _)
  | succ d ih =>
   intro i out hi hp hol
   have hi1 : i + 1 < C.length := by omega
   have hlt := List.pairwise_iff_getElem.1 h.asc i (i + 1) (by omega) hi1 (by omega)
   have hb0 := h.bnd C[i] (List.getElem_mem _)
   have hb1 := h.bnd C[i + 1] (List.getElem_mem _)
   have hw : wrap64 ((i : Int) + 1) = ((i + 1 : Nat) : Int) := wrap_succ (n := C.length) (by omega) (by omega)
   have hq1 := hq i hi1
   by_cases hbt : B[i]'(by omega) = true
   ·
    rcases List.eq_nil_or_concat out with rfl | ⟨o', u, rfl⟩
    ·
     obtain ⟨o, n1, n2, n3⟩ := ih (i + 1) ([] ++ [⟨C[i], C[i + 1]⟩]) (by omega) (hp.new hb0.1 hlt hb1.2 (fun _ h => by cases h) (fun x h1 h2 => (hq1 x h1 h2).2 hbt)) (by simp)
     refine ⟨o, n1, n2, ?_⟩
     refine Ev.step (fun k => by rw [dropperref01_made.l0]) ?_
     rw [hw, rdB B i (by omega), rdI C i (by omega), rdI C (i + 1) hi1]
     exact ev_pos (by omega) (ev_pos (by omega) (ev_pos (by omega) (ev_pos hbt (ev_neg (by simp) (ev_pos (by omega) (ev_pos (by omega) (ev_pos (by simp) n3)))))))
    ·
     rw [List.concat_eq_append] at hp hol ⊢
     have hL : (o' ++ [u]).length = o'.length + 1 := by simp
     have e1 : wrap64 (((o' ++ [u]).length : Int) - 1) = ((o'.length : Nat) : Int) := by rw [hL, wrap_id] <;> omega
     have e2 : rd_T46 (o' ++ [u]) ((o'.length : Nat) : Int) = u := by rw [rdSt _ _ (by simp)]; simp
     by_cases hu : u.f1 = C[i]
     ·
      obtain ⟨o, n1, n2, n3⟩ := ih (i + 1) (o' ++ [⟨u.f0, C[i + 1]⟩]) (by omega) (hp.more hu hlt hb1.2 (fun x h1 h2 => (hq1 x h1 h2).2 hbt)) (by simp at hol ⊢; omega)
      refine ⟨o, n1, n2, ?_⟩
      refine Ev.step (fun k => by rw [dropperref01_made.l0]) ?_
      rw [hw, e1, rdB B i (by omega), rdI C i (by omega), rdI C (i + 1) hi1, e2]
      have e3 : (o' ++ [u]).set ((o'.length : Nat) : Int).toNat ⟨u.f0, C[i + 1]⟩ = o' ++ [⟨u.f0, C[i + 1]⟩] := by simp
      rw [e3]
      exact ev_pos (by omega) (ev_pos (by omega) (ev_pos (by omega) (ev_pos hbt (ev_pos (by omega) (ev_pos (by omega) (ev_pos (by omega) (ev_pos (by omega) (ev_pos hu (ev_pos (by omega) n3)))))))))
     ·
      obtain ⟨o, n1, n2, n3⟩ := ih (i + 1) (o' ++ [u] ++ [⟨C[i], C[i + 1]⟩]) (by omega) (hp.new hb0.1 hlt hb1.2 (hp.last hu) (fun x h1 h2 => (hq1 x h1 h2).2 hbt)) (by rw [List.length_append, List.length_singleton]; omega)
      refine ⟨o, n1, n2, ?_⟩
      refine Ev.step (fun k => by rw [dropperref01_made.l0]) ?_
      rw [hw, e1, rdB B i (by omega), rdI C i (by omega), rdI C (i + 1) hi1, e2]
      exact ev_pos (by omega) (ev_pos (by omega) (ev_pos (by omega) (ev_pos hbt (ev_pos (by omega) (ev_pos (by omega) (ev_pos (by omega) (ev_pos (by omega) (ev_neg hu (ev_pos (by omega) (ev_pos (by omega) n3))))))))))
   ·
    obtain ⟨o, n1, n2, n3⟩ := ih (i + 1) out (by omega) (hp.skip (Int.le_of_lt hlt) (fun x h1 h2 hx => hbt ((hq1 x h1 h2).1 hx))) (by omega)
    refine ⟨o, n1, n2, ?_⟩
    refine Ev.step (fun k => by rw [dropperref01_made.l0]) ?_
    rw [hw, rdB B i (by omega)]
    exact ev_pos (by omega) (ev_pos (by omega) (ev_pos (by omega) (ev_neg hbt n3)))
 obtain ⟨hl, h0⟩ := h.zero
 exact H (C.length - 1) 0 [] (by omega) (by rw [h0]; exact Part.start Q) (Nat.le_refl _)
end Go.Proofs.YtcmdcgghpkcchaaDoor.Lay

/- both, walked: for whatever function of the level that is handed in. -/
namespace Go.Proofs.YtcmdcgghpkcchaaDoor.Lay
set_option linter.unusedVariables false
set_option linter.unusedSimpArgs false
open Go.RowKit Go.Proofs.YtcmdcgghpkcchaaDoor.XMast Go.Proofs.YtcmdcgghpkcchaaDoorW.PrintWords Go.Proofs.YtcmdcgghpkcchaaDoorW.PrintLast Go.Proofs.YtcmdcgghpkcchaaDoorW.PrintMore
def bothF (p : Int → Bool) (k : Nat) (l0 l1 : List St) : Option (List St × Int) :=
 if l0.length ≤ 9223372036854775806 ∧ l1.length ≤ 9223372036854775806 then (mast_Valid.f k l0).bind fun a => if a = true then ((mast_Valid.f k l1).bind fun b => if b = true then some (fin (swept p (srt (chg 1 l0 ++ chg 2 l1)))) else some ([], 10)) else some ([], 10) else none
theorem bothF_mono (p : Int → Bool) (l0 l1 : List St) (k : Nat) : LeO (bothF p k l0 l1) (bothF p (k + 1) l0 l1) := by
 unfold bothF
 exact LeO.ite (LeO.bind (mast_Valid.mono _ _) (fun a => LeO.ite (LeO.bind (mast_Valid.mono _ _) (fun b => LeO.refl _)) (LeO.refl _))) (LeO.refl _)
theorem good_both {l0 l1 : List St} (h0 : Norm l0 ∧ l0.length ≤ 60) (h1 : Norm l1 ∧ l1.length ≤ 60) : Good (chg 1 l0 ++ chg 2 l1) := by
 refine ⟨by rw [List.length_append, chg_length, chg_length]; omega, fun c hc => ?_⟩
 rcases List.mem_append.1 hc with hc | hc
 ·
  exact chg_mem (.inl rfl) h0.1.isSt c hc
 ·
  exact chg_mem (.inr rfl) h1.1.isSt c hc
set_option maxHeartbeats 4000000 in
set_option maxRecDepth 100000 in
theorem both (c : Nat) (p : Int → Bool) (he : ∀ (vs : Array Value) (W : World), (callFunc c vs).run Tryd.prog W = .ok (.enter c vs) W)
  (hf : ∀ (lv : Int) (W : World), Calls Tryd.prog c #[.int .i64 lv] W fun e w' => e = .returned (.bool (p lv)) ∧ w' = W)
  (k : Nat) (A0 : Option Addr) (c0 : Nat) (l0 : List St) (A1 : Option Addr) (c1 : Nat) (l1 : List St) (r1 : List St) (r2 : Int) (w : World) (hr0 : Kd.C k46 w A0 l0.length l0) (hc0 : l0.length ≤ c0) (hr1 : Kd.C k46 w A1 l1.length l1) (hc1 : l1.length ≤ c1) (h : bothF p k l0 l1 = some (r1, r2)) :
  Calls Tryd.prog 54 #[.slice A0 l0.length c0, .slice A1 l1.length c1, .func (.func c) #[] #[]] w fun e w' => ∃ v0_ : Value, e = .returned (.tuple #[v0_, .int .i64 r2]) ∧ Kd.R k46 46 w' w.heap.size (fun _ => True) v0_ r1 ∧ Below w.heap.size w w' := by
 have HR0 := Aside0.mk hr0
 have HR1 := Aside0.mk hr1
 have HC0 := Aside0.mk hc0
 have HC1 := Aside0.mk hc1
 have HF := Aside0.mk hf
 clear hr0 hr1 hc0 hc1 hf
 unfold bothF at h
 by_cases hll : ¬ (l0.length ≤ 9223372036854775806 ∧ l1.length ≤ 9223372036854775806)
 ·
  rw [if_neg hll] at h; cases h
 replace hll := Decidable.not_not.1 hll
 rw [if_pos hll] at h
 obtain ⟨a, ha, h1⟩ := Option.bind_eq_some_iff.1 h
 have HA := Aside0.mk ha
 have ha' := mvalid_one hll.1 ha
 clear h ha
 cases a with
 | false =>
  rw [if_neg (by decide)] at h1
  have h1' := Option.some.inj h1
  injection h1' with h3 h4
  subst h3 h4
  clear h1 ha' hll
  go_enter Tryd.func54, Tryd.ntmps54
  go_wp2_with (go_at_call 50; (with_reducible refine (mast_Valid.calls k _ _ l0 false _ HR0.out HC0.out HA.out).mono ?_); rintro e w1 ⟨rfl, hb⟩; have HB1 := Aside0.mk hb; clear hb)
  go_ret2
  exact ⟨_, rfl, Kd.R_nil _ _ _ _ _, HB1.out⟩
 | true =>
  rw [if_pos rfl] at h1
  obtain ⟨b, hb, h2⟩ := Option.bind_eq_some_iff.1 h1
  have HBV := Aside0.mk hb
  have hb' := mvalid_one hll.2 hb
  clear h1 hb
  cases b with
  | false =>
   rw [if_neg (by decide)] at h2
   have h1' := Option.some.inj h2
   injection h1' with h3 h4
   subst h3 h4
   clear h2 ha' hb' hll
   go_enter Tryd.func54, Tryd.ntmps54
   go_wp2_with (first | (go_at_call 50; (with_reducible refine (mast_Valid.calls k _ _ l0 true _ HR0.out HC0.out HA.out).mono ?_); rintro e w1 ⟨rfl, hb⟩; have HB1 := Aside0.mk hb; clear hb) | (go_at_call 50; (with_reducible refine (mast_Valid.calls k _ _ l1 false _ (Kd.C_below HR1.out HB1.out) HC1.out HBV.out).mono ?_); rintro e w2 ⟨rfl, hb⟩; have HB2 := Aside0.mk hb; clear hb))
   go_ret2
   exact ⟨_, rfl, Kd.R_nil _ _ _ _ _, below_step HB1.out HB2.out⟩
  | true =>
   rw [if_pos rfl] at h2
   have H1 := Aside0.mk (Option.some.inj h2)
   have N0 := Aside0.mk ((okB_iff l0).1 ha'.symm)
   have N1 := Aside0.mk ((okB_iff l1).1 hb'.symm)
   have L0 : Aside0 (l0.length ≤ 1000) := ⟨by have := N0.out.2; omega⟩
   have L1 : Aside0 (l1.length ≤ 1000) := ⟨by have := N1.out.2; omega⟩
   clear h2 ha' hb' hll
   go_enter Tryd.func54, Tryd.ntmps54
   go_wp2_with (first | (go_at_call 50; (with_reducible refine (mast_Valid.calls k _ _ l0 true _ HR0.out HC0.out HA.out).mono ?_); rintro e w1 ⟨rfl, hb⟩; have HB1 := Aside0.mk hb; clear hb) | (go_at_call 50; (with_reducible refine (mast_Valid.calls k _ _ l1 true _ (Kd.C_below HR1.out HB1.out) HC1.out HBV.out).mono ?_); rintro e w2 ⟨rfl, hb⟩; have HB2 := Aside0.mk (below_step HB1.out hb); clear hb) | (go_at_call 46; (with_reducible refine (changes _ _ l0 1 _ (Kd.C_below HR0.out HB2.out) HC0.out L0.out (Or.inl rfl)).mono ?_); rintro e w3 ⟨va, ya, rfl, hp, hs, hr, hb⟩; obtain ⟨Aa, ca, ea⟩ := Kd.R_slice hr; subst ea; have HPA := Aside0.mk hp; have HRA := Aside0.mk hr; have HBA := Aside0.mk hb; have HB3 := Aside0.mk (below_step HB2.out hb); clear hp hs hr hb) | (go_at_call 46; (with_reducible refine (changes _ _ l1 2 _ (Kd.C_below HR1.out HB3.out) HC1.out L1.out (Or.inr rfl)).mono ?_); rintro e w4 ⟨vb, yb, rfl, hp, hs, hr, hb⟩; obtain ⟨Ab, cb, hcb, eb, hreads⟩ := Kd.R_reads hr; subst hcb; have HPB := Aside0.mk hp; have HRB := Aside0.mk hr; have HRD := Aside0.mk hreads; have HB4 := Aside0.mk (below_step HB3.out hb); have HRA4 := Aside0.mk (Kd.R_lower (Kd.R_below HRA.out hb) (below_size HB2.out)); clear hp hs hr hb hreads eb) | (at_builtin; refine Kd.R_append_rows kCh (w0 := w4) w.heap.size rfl (.tmp 17) (.tmp 19) 50 54 (.agg #[.int .i64 0, .int .i64 0]) 16 rfl Tryd.underlying50 infoCh rfl (by decide) (by omega) (.slice Aa ya.length ca) ya yb Ab yb.length cb (fun _ => True) (fun _ => False) rfl rfl HRA4.out HRD.out (fun x cs hx => (by rw [kCh_open hx]; exact flatCh.mk_ _ _ _ _)) (fun _ h => h.elim) (fun _ _ => trivial) (Below.refl _ _) (below_size HB4.out) (by rw [HPA.out.length_eq, HPB.out.length_eq, chg_length, chg_length]; have := N0.out.2; have := N1.out.2; omega) ?_; intro v5 w5 ho hb hg hat; have HO5 := Aside0.mk ho; have HB5 := Aside0.mk (HB4.out.grown hg (below_size HB4.out) (by intro k hk; obtain ⟨inner, hi⟩ := Kd.R_own HRA4.out; exact own_base hi k hk)); clear ho hb hg hat) | (go_at_call 45; refine (sweptW c #[] p v5 (ya ++ yb) _ _ _ HO5.out ?hl ?hk he (fun lv W _ => ((HF.out lv W).mono fun e w' ⟨h1_, h2_⟩ => ⟨h1_, by rw [h2_]; exact Below.refl _ _⟩))).mono ?_; (case hl => rw [List.length_append, HPA.out.length_eq, HPB.out.length_eq, chg_length, chg_length]; have := N0.out.2; have := N1.out.2; omega); (case hk => obtain ⟨inner, ho⟩ := Kd.R_own HO5.out; exact own_lt ho); rintro e w6 ⟨zs, hpz, hsz, v0, rfl, ho, hg⟩; have HPZ := Aside0.mk hpz; have HSZ := Aside0.mk hsz; have HO := Aside0.mk ho; have HG := Aside0.mk hg; clear hpz hsz ho hg))
   go_ret2
   have hperm : zs.Perm (chg 1 l0 ++ chg 2 l1) := HPZ.out.trans (HPA.out.append HPB.out)
   have hgood := good_both N0.out N1.out
   have hq : swept p zs = swept p (srt (chg 1 l0 ++ chg 2 l1)) :=
    swept_perm _ (hperm.trans (srt_perm _).symm) HSZ.out (srt_sorted _) ⟨by rw [hperm.length_eq]; exact hgood.1, fun c hc => hgood.2 c (hperm.mem_iff.1 hc)⟩
   have ho := HO.out
   rw [hq, H1.out] at ho
   rw [hq, H1.out]
   refine ⟨_, rfl, Kd.R_lower ho (below_size HB5.out), HB5.out.grown HG.out (below_size HB5.out) (fun k hk => ?_)⟩
   obtain ⟨inner, hi⟩ := Kd.R_own HO5.out
   exact own_base hi k hk
end Go.Proofs.YtcmdcgghpkcchaaDoor.Lay

/- What the reference's loops over the cuts answer, and that the program's sweeps answer the same. -/
namespace Go.Proofs.YtcmdcgghpkcchaaDoor.Lay
set_option linter.unusedVariables false
set_option linter.unusedSimpArgs false
open Go.RowKit Go.Proofs.YtcmdcgghpkcchaaDoor.XMast Go.Proofs.YtcmdcgghpkcchaaDoorW.PrintWords Go.Proofs.YtcmdcgghpkcchaaDoorW.PrintLast Go.Proofs.YtcmdcgghpkcchaaDoorW.PrintMore
theorem Good.perm {ys zs : List Ch} (h : Good ys) (hp : zs.Perm ys) : Good zs := ⟨by rw [hp.length_eq]; exact h.1, fun c hc => h.2 c (hp.mem_iff.1 hc)⟩
theorem good_chg {l : List St} (h : rawOk l) : Good (chg 1 l) := ⟨by rw [chg_length]; have := h.1; omega, fun c hc => chg_mem (.inl rfl) h.2 c hc⟩
def IsLay (Q : Int → Prop) (o : List St) : Prop := Norm o ∧ ∀ x, cov o x ↔ (0 ≤ x ∧ x < 100000 ∧ Q x)
theorem IsLay.same {Q R : Int → Prop} {o o' : List St} (h : IsLay Q o) (h' : IsLay R o') (hq : ∀ x, 0 ≤ x → x < 100000 → (Q x ↔ R x)) : o = o' :=
 Norm.unique h.1 h'.1 fun x => by
  rw [h.2, h'.2]
  constructor
  ·
   rintro ⟨a, b, c⟩; exact ⟨a, b, (hq x a b).1 c⟩
  ·
   rintro ⟨a, b, c⟩; exact ⟨a, b, (hq x a b).2 c⟩
theorem swept_lay (p : Int → Bool) {ys : List Ch} (hg : Good ys) : IsLay (fun x => p (lev ys x) = true) (swept p (srt ys)) := by
 obtain ⟨a, b⟩ := swept_spec p (srt ys) (srt_sorted ys) (hg.perm (srt_perm ys))
 refine ⟨a, fun x => (b x).trans ?_⟩
 rw [lev_perm (srt_perm ys)]
def oftenL (l : List St) (n : Int) : List St := swept (fun lv => decide (n ≤ lv)) (srt (chg 1 l))
theorem often_lay {l : List St} (h : rawOk l) (n : Int) : IsLay (fun x => n ≤ cnt l x) (oftenL l n) := by
 obtain ⟨a, b⟩ := swept_lay (fun lv => decide (n ≤ lv)) (good_chg h)
 refine ⟨a, fun x => (b x).trans ?_⟩
 show (_ ∧ _ ∧ decide (n ≤ lev (chg 1 l) x) = true) ↔ (_ ∧ _ ∧ n ≤ cnt l x)
 rw [lev_chg 1 l x h.2, Int.one_mul, decide_eq_true_iff]
theorem cuts_next {C : List Int} (h : Cuts C) {i : Nat} (hi : i + 1 < C.length) {x : Int} (hx : x < C[i + 1]) : ∀ j (hj : j < C.length), i < j → x < C[j] := fun j hj hij => by
 rcases Nat.eq_or_lt_of_le (show i + 1 ≤ j from hij) with e | e
 ·
  subst e; exact hx
 ·
  have := List.pairwise_iff_getElem.1 h.asc (i + 1) j hi hj e; omega
theorem often_ref {l : List St} (h : rawOk l) (n : Int) : Ev (fun k => dropperref01_often.f k l n) (fin (oftenL l n)) := by
 obtain ⟨C, hb, hC, hL, hm, _⟩ := bounds_ l [] (by have := h.1; simp; omega) h.2 (fun _ h => by cases h)
 unfold dropperref01_often.f
 refine ev_val hb ?_
 have H : ∀ (d i : Nat), i + d = C.length → Ev (fun k => dropperref01_often.l0 k l n C ((C.take i).map (fun c => decide (cnt l c ≥ n))) (i : Int)) (fin (oftenL l n)) := by
  intro d
  induction d with
  | zero =>
   intro i hi
   refine Ev.step (fun k => by rw [dropperref01_often.l0]) ?_
   refine ev_neg (by omega) ?_
   rw [List.take_of_length_le (by omega)]
   obtain ⟨o, h1, h2, h3⟩ := made_ hC hL (fun x => n ≤ cnt l x) (C.map (fun c => decide (cnt l c ≥ n))) (by simp) (fun i hi x h1 h2 => by
    rw [cnt_const hC hm (i := i) (by omega) h1 (cuts_next hC hi h2)]
    simp)
   have e : o = oftenL l n := (IsLay.same ⟨h1, h2⟩ (often_lay h n) (fun _ _ _ => Iff.rfl))
   rw [← e]
   exact Ev.bind h3 (Ev.now _)
  | succ d ih =>
   intro i hi
   have hil : i < C.length := by omega
   have ih1 := ih (i + 1) (by omega)
   rw [List.take_succ_eq_append_getElem hil, List.map_append] at ih1
   refine Ev.step (fun k => by rw [dropperref01_often.l0]) ?_
   rw [rdI C i hil, wrap_succ (n := C.length) hil (by omega)]
   exact ev_pos (by omega) (ev_pos (by omega) (Ev.bind (depth l C[i] (by have := h.1; omega)) (ev_pos (by simp; omega) ih1)))
 exact H C.length 0 (by omega)
theorem fin_len (o : List St) : (fin o).1.length ≤ 60 := by
 unfold fin
 by_cases h : o.length > 60
 ·
  rw [if_pos h]; exact Nat.zero_le _
 ·
  rw [if_neg h]; show o.length ≤ 60; omega
theorem Often_ref (l : List St) (n : Int) (hl : l.length ≤ 9223372036854775806) : ∃ r, mast_Often.f l n = some r ∧ Ev (fun k => dropperref01_Often.f k l n) r ∧ r.1.length ≤ 60 := by
 obtain ⟨b, hb, hb2⟩ := rraw l hl
 unfold dropperref01_Often.f mast_Often.f
 rcases mraw l with ⟨h, e⟩ | ⟨h, e⟩
 ·
  rw [e]
  have hb3 := hb2.2 h
  subst hb3
  rw [Option.bind_some, if_pos rfl]
  by_cases h1 : n < 1
  ·
   rw [if_pos h1]; exact ⟨_, rfl, Ev.bind hb (ev_pos rfl (ev_pos h1 (Ev.now _))), Nat.zero_le _⟩
  ·
   rw [if_neg h1]
   by_cases h2 : n > 200
   ·
    rw [if_pos h2]; exact ⟨_, rfl, Ev.bind hb (ev_pos rfl (ev_neg h1 (ev_pos h2 (Ev.now _)))), Nat.zero_le _⟩
   ·
    rw [if_neg h2]
    exact ⟨_, rfl, Ev.bind hb (ev_pos rfl (ev_neg h1 (ev_neg h2 (Ev.bind (often_ref h n) (Ev.now _))))), fin_len _⟩
 ·
  rw [e]
  have hb3 : b = false := by cases b; rfl; exact absurd (hb2.1 rfl) h
  subst hb3
  exact ⟨_, rfl, Ev.bind hb (ev_neg (by simp) (Ev.now _)), Nat.zero_le _⟩
theorem Clean_ref (l : List St) (hl : l.length ≤ 9223372036854775806) : ∃ r, mast_Clean.f l = some r ∧ Ev (fun k => dropperref01_Clean.f k l) r ∧ r.1.length ≤ 60 := by
 obtain ⟨b, hb, hb2⟩ := rraw l hl
 unfold dropperref01_Clean.f mast_Clean.f mast_Often.f
 rcases mraw l with ⟨h, e⟩ | ⟨h, e⟩
 ·
  rw [e]
  have hb3 := hb2.2 h
  subst hb3
  exact ⟨fin (oftenL l 1), rfl, Ev.bind hb (ev_pos rfl (Ev.bind (often_ref h 1) (Ev.now _))), fin_len _⟩
 ·
  rw [e]
  have hb3 : b = false := by cases b; rfl; exact absurd (hb2.1 rfl) h
  subst hb3
  exact ⟨_, rfl, Ev.bind hb (ev_neg (by simp) (Ev.now _)), Nat.zero_le _⟩
/-! ### Deepest -/
theorem Top.step {C : List Int} (hC : Cuts C) {l : List St} (hm : ∀ s ∈ l, s.f0 ∈ C ∧ s.f1 ∈ C) {i : Nat} (hi : i < C.length) {m d : Int} (h0 : 0 ≤ d)
  (h : Top (fun x => ∀ j (hj : j < C.length), i ≤ j → x < C[j]) (cnt l) m d) :
  (cnt l C[i] > d → Top (fun x => ∀ j (hj : j < C.length), i + 1 ≤ j → x < C[j]) (cnt l) C[i] (cnt l C[i])) ∧
  (¬ cnt l C[i] > d → Top (fun x => ∀ j (hj : j < C.length), i + 1 ≤ j → x < C[j]) (cnt l) m d) := by
 have key : ∀ x, (∀ j (hj : j < C.length), i + 1 ≤ j → x < C[j]) → (x < C[i] ∧ (∀ j (hj : j < C.length), i ≤ j → x < C[j])) ∨ (C[i] ≤ x ∧ cnt l x = cnt l C[i]) := fun x hx => by
  rcases Int.lt_or_le x C[i] with h1 | h1
  ·
   refine .inl ⟨h1, fun j hj hij => ?_⟩
   rcases Nat.eq_or_lt_of_le hij with e | e
   ·
    subst e; exact h1
   ·
    exact hx j hj e
  ·
   exact .inr ⟨h1, cnt_const hC hm hi h1 hx⟩
 have up : ∀ x, (∀ j (hj : j < C.length), i ≤ j → x < C[j]) → ∀ j (hj : j < C.length), i + 1 ≤ j → x < C[j] := fun x hx j hj hij => hx j hj (by omega)
 have self : ∀ j (hj : j < C.length), i + 1 ≤ j → C[i] < C[j] := fun j hj hij => List.pairwise_iff_getElem.1 hC.asc i j hi hj hij
 constructor
 ·
  intro hg
  refine .inr ⟨by omega, self, rfl, fun x hx => ?_, fun x hx hlt => ?_⟩
  ·
   rcases key x hx with ⟨_, h1⟩ | ⟨_, h1⟩
   ·
    rcases h with ⟨a, b, c⟩ | ⟨a, b, c, e, g⟩
    ·
     have := c x h1; omega
    ·
     have := e x h1; omega
   ·
    omega
  ·
   rcases key x hx with ⟨_, h1⟩ | ⟨h2, h1⟩
   ·
    rcases h with ⟨a, b, c⟩ | ⟨a, b, c, e, g⟩
    ·
     have := c x h1; omega
    ·
     have := e x h1; omega
   ·
    omega
 ·
  intro hg
  rcases h with ⟨a, b, c⟩ | ⟨a, b, c, e, g⟩
  ·
   refine .inl ⟨a, b, fun x hx => ?_⟩
   rcases key x hx with ⟨_, h1⟩ | ⟨_, h1⟩
   ·
    exact c x h1
   ·
    omega
  ·
   refine .inr ⟨a, up m b, c, fun x hx => ?_, fun x hx hlt => ?_⟩
   ·
    rcases key x hx with ⟨_, h1⟩ | ⟨_, h1⟩
    ·
     exact e x h1
    ·
     omega
   ·
    have hmi := b i hi (Nat.le_refl _)
    rcases key x hx with ⟨_, h1⟩ | ⟨h2, h1⟩
    ·
     exact g x h1 hlt
    ·
     omega
theorem cnt_before {l : List St} (hl : ∀ s ∈ l, isSt s) {x : Int} (hx : x < 0) : cnt l x = 0 := by
 induction l with
 | nil => rfl
 | cons s t ih =>
  have h := hl s List.mem_cons_self
  unfold isSt at h
  rw [cnt, ih (fun u hu => hl u (List.mem_cons_of_mem _ hu)), if_neg (by omega)]
  rfl
def deepL (l : List St) : Int × Int := deep (srt (chg 1 l)) 0 0 0
theorem deep_top {l : List St} (h : rawOk l) : Top (fun _ => True) (cnt l) (deepL l).1 (deepL l).2 := by
 have h1 := deepest_spec (srt (chg 1 l)) (srt_sorted _) ((good_chg h).perm (srt_perm _))
 have e : lev (srt (chg 1 l)) = cnt l := funext fun x => by rw [lev_perm (srt_perm _), lev_chg 1 l x h.2, Int.one_mul]
 rw [e] at h1
 exact h1
theorem Deepest_ref (l : List St) (hl : l.length ≤ 9223372036854775806) : ∃ r, mast_Deepest.f l = some r ∧ Ev (fun k => dropperref01_Deepest.f k l) r := by
 obtain ⟨b, hb, hb2⟩ := rraw l hl
 unfold dropperref01_Deepest.f mast_Deepest.f
 rcases mraw l with ⟨h, e⟩ | ⟨h, e⟩
 ·
  rw [e]
  have hb3 := hb2.2 h
  subst hb3
  obtain ⟨C, hbd, hC, hL, hm, _⟩ := bounds_ l [] (by have := h.1; simp; omega) h.2 (fun _ h => by cases h)
  refine ⟨((deepL l).1, (deepL l).2, 0), rfl, Ev.bind hb (ev_pos rfl (ev_val hbd ?_))⟩
  have H : ∀ (d i : Nat) (m n : Int), i + d = C.length → 0 ≤ n → Top (fun x => ∀ j (hj : j < C.length), i ≤ j → x < C[j]) (cnt l) m n → Ev (fun k => dropperref01_Deepest.l0 k l C m n (i : Int)) ((deepL l).1, (deepL l).2, 0) := by
   intro d
   induction d with
   | zero =>
    intro i m n hi h0 ht
    refine Ev.step (fun k => by rw [dropperref01_Deepest.l0]) ?_
    refine ev_neg (by omega) (ev_const ?_)
    have e2 : (fun x : Int => ∀ j (hj : j < C.length), i ≤ j → x < C[j]) = fun _ => True := funext fun x => propext ⟨fun _ => trivial, fun _ j hj hij => by omega⟩
    rw [e2] at ht
    obtain ⟨e3, e4⟩ := ht.unique (deep_top h)
    rw [e3, e4]
   | succ d ih =>
    intro i m n hi h0 ht
    have hil : i < C.length := by omega
    obtain ⟨t1, t2⟩ := ht.step hC hm hil h0
    refine Ev.step (fun k => by rw [dropperref01_Deepest.l0]) ?_
    rw [rdI C i hil, wrap_succ (n := C.length) hil (by omega)]
    refine ev_pos (by omega) (ev_pos (by omega) (Ev.bind (depth l C[i] (by have := h.1; omega)) ?_))
    by_cases hg : cnt l C[i] > n
    ·
     exact ev_pos hg (ih (i + 1) _ _ (by omega) (by omega) (t1 hg))
    ·
     exact ev_neg hg (ih (i + 1) _ _ (by omega) h0 (t2 hg))
  refine H C.length 0 0 0 (by omega) (Int.le_refl _) (.inl ⟨rfl, rfl, fun x hx => ?_⟩)
  obtain ⟨hl0, h00⟩ := hC.zero
  have := hx 0 hl0 (Nat.le_refl _)
  rw [h00] at this
  rw [cnt_before h.2 this]
  exact Int.le_refl _
 ·
  rw [e]
  have hb3 : b = false := by cases b; rfl; exact absurd (hb2.1 rfl) h
  subst hb3
  exact ⟨_, rfl, Ev.bind hb (ev_neg (by simp) (Ev.now _))⟩
/-! ### two lays together -/
def tog (how x y : Int) : Bool := if how = 1 then decide (0 < x) || decide (0 < y) else if how = 2 then decide (0 < x) && decide (0 < y) else decide (0 < x) && !decide (0 < y)
theorem together_ref {a b : List St} (how : Int) (hh : how = 1 ∨ how = 2 ∨ how = 3) (ha : Norm a ∧ a.length ≤ 60) (hb : Norm b ∧ b.length ≤ 60) {o : List St}
  (ho : IsLay (fun x => tog how (cnt a x) (cnt b x) = true) o) : Ev (fun k => dropperref01_together.f k a b how) (fin o) := by
 obtain ⟨C, hbd, hC, hL, hma, hmb⟩ := bounds_ a b (by omega) ha.1.isSt hb.1.isSt
 have va := rvalid a (by omega)
 have vb := rvalid b (by omega)
 rw [(okB_iff a).2 ha] at va
 rw [(okB_iff b).2 hb] at vb
 have H : ∀ (d i : Nat), i + d = C.length → Ev (fun k => dropperref01_together.l0 k a b how C ((C.take i).map (fun c => tog how (cnt a c) (cnt b c))) (i : Int)) (fin o) := by
  intro d
  induction d with
  | zero =>
   intro i hi
   refine Ev.step (fun k => by rw [dropperref01_together.l0]) ?_
   refine ev_neg (by omega) ?_
   rw [List.take_of_length_le (by omega)]
   obtain ⟨o', h1, h2, h3⟩ := made_ hC hL (fun x => tog how (cnt a x) (cnt b x) = true) (C.map (fun c => tog how (cnt a c) (cnt b c))) (by simp) (fun i hi x h1 h2 => by
    rw [cnt_const hC hma (i := i) (by omega) h1 (cuts_next hC hi h2), cnt_const hC hmb (i := i) (by omega) h1 (cuts_next hC hi h2)]
    simp)
   have e : o' = o := (IsLay.same ⟨h1, h2⟩ ho (fun _ _ _ => Iff.rfl))
   rw [← e]
   exact Ev.bind h3 (Ev.now _)
  | succ d ih =>
   intro i hi
   have hil : i < C.length := by omega
   have ih1 := ih (i + 1) (by omega)
   rw [List.take_succ_eq_append_getElem hil, List.map_append] at ih1
   have hlen : ((C.take i).map (fun c => tog how (cnt a c) (cnt b c))).length < 140737488355328 := by simp; omega
   refine Ev.step (fun k => by rw [dropperref01_together.l0]) ?_
   rw [rdI C i hil, wrap_succ (n := C.length) hil (by omega)]
   refine ev_pos (by omega) (ev_pos (by omega) (Ev.bind (depth a C[i] (by omega)) (Ev.bind (depth b C[i] (by omega)) ?_)))
   rw [List.map_singleton] at ih1
   generalize (C.take i).map (fun c => tog how (cnt a c) (cnt b c)) = B at ih1 hlen ⊢
   generalize cnt a C[i] = x at ih1 ⊢
   generalize cnt b C[i] = y at ih1 ⊢
   rcases hh with rfl | rfl | rfl
   ·
    by_cases hx : x > 0
    ·
     have e : tog 1 x y = true := by simp [tog]; omega
     rw [e] at ih1
     exact ev_pos rfl (ev_pos hx (ev_pos hlen ih1))
    ·
     by_cases hy : y > 0
     ·
      have e : tog 1 x y = true := by simp [tog]; omega
      rw [e] at ih1
      exact ev_pos rfl (ev_neg hx (ev_pos hy (ev_pos hlen ih1)))
     ·
      have e : tog 1 x y = false := by simp [tog]; omega
      rw [e] at ih1
      exact ev_pos rfl (ev_neg hx (ev_neg hy (ev_neg (by decide) (ev_neg (by decide) (ev_pos hlen ih1)))))
   ·
    by_cases hx : x > 0
    ·
     by_cases hy : y > 0
     ·
      have e : tog 2 x y = true := by simp [tog]; omega
      rw [e] at ih1
      exact ev_neg (by decide) (ev_pos rfl (ev_pos hx (ev_pos hy (ev_pos hlen ih1))))
     ·
      have e : tog 2 x y = false := by simp [tog]; omega
      rw [e] at ih1
      exact ev_neg (by decide) (ev_pos rfl (ev_pos hx (ev_neg hy (ev_neg (by decide) (ev_pos hlen ih1)))))
    ·
     have e : tog 2 x y = false := by simp [tog]; omega
     rw [e] at ih1
     exact ev_neg (by decide) (ev_pos rfl (ev_neg hx (ev_neg (by decide) (ev_pos hlen ih1))))
   ·
    by_cases hx : x > 0
    ·
     have e : tog 3 x y = !decide (y > 0) := by simp [tog]; omega
     rw [e] at ih1
     exact ev_neg (by decide) (ev_neg (by decide) (ev_pos rfl (ev_pos hx (ev_pos hlen ih1))))
    ·
     have e : tog 3 x y = false := by simp [tog]; omega
     rw [e] at ih1
     exact ev_neg (by decide) (ev_neg (by decide) (ev_pos rfl (ev_neg hx (ev_pos hlen ih1))))
 unfold dropperref01_together.f
 refine Ev.bind va (ev_pos rfl (Ev.bind vb (Ev.step (fun k => by rw [dropperref01_together.j0]) (ev_neg (by simp) (ev_val hbd ?_)))))
 exact H C.length 0 (by omega)
end Go.Proofs.YtcmdcgghpkcchaaDoor.Lay

/- First, the chapter's examples. -/
namespace Go.Proofs.YtcmdcgghpkcchaaDoor.Lay
set_option linter.unusedVariables false
set_option linter.unusedSimpArgs false
open Go.RowKit Go.Proofs.YtcmdcgghpkcchaaDoor.XMast Go.Proofs.YtcmdcgghpkcchaaDoorW.PrintWords Go.Proofs.YtcmdcgghpkcchaaDoorW.PrintLast Go.Proofs.YtcmdcgghpkcchaaDoorW.PrintMore
theorem clean_first : mast_Clean.f [⟨5, 9⟩, ⟨0, 5⟩, ⟨20, 30⟩] = some ([⟨0, 9⟩, ⟨20, 30⟩], 0) := by
 have hr : rawOk [⟨5, 9⟩, ⟨0, 5⟩, ⟨20, 30⟩] := ⟨by decide, fun s hs => by
  simp only [List.mem_cons, List.not_mem_nil, or_false] at hs
  rcases hs with rfl | rfl | rfl <;> (unfold isSt; decide)⟩
 have e : oftenL [⟨5, 9⟩, ⟨0, 5⟩, ⟨20, 30⟩] 1 = [⟨0, 9⟩, ⟨20, 30⟩] := by
  refine (often_lay hr 1).same (R := fun x => 1 ≤ cnt [⟨5, 9⟩, ⟨0, 5⟩, ⟨20, 30⟩] x) ⟨?_, fun x => ?_⟩ (fun _ _ _ => Iff.rfl)
  ·
   refine Norm.cons.2 ⟨Norm.cons.2 ⟨Norm.nil, (fun _ h => by cases h), by decide, by decide, by decide⟩, fun u hu => ?_, by decide, by decide, by decide⟩
   rw [List.mem_singleton] at hu
   subst hu
   decide
  ·
   show _ ↔ (_ ∧ _ ∧ 0 < cnt _ x)
   rw [cnt_pos]
   simp only [cov_cons]
   have h := cov_nil x
   constructor
   ·
    rintro (h1 | h1 | h1)
    ·
     refine ⟨by omega, by omega, ?_⟩
     by_cases h2 : x < 5
     ·
      exact .inr (.inl ⟨by omega, by omega⟩)
     ·
      exact .inl ⟨by omega, by omega⟩
    ·
     exact ⟨by omega, by omega, .inr (.inr (.inl h1))⟩
    ·
     exact absurd h1 h
   ·
    rintro ⟨h2, h3, h1 | h1 | h1 | h1⟩
    ·
     exact .inl ⟨by omega, by omega⟩
    ·
     exact .inl ⟨by omega, by omega⟩
    ·
     exact .inr (.inl h1)
    ·
     exact absurd h1 h
 unfold mast_Clean.f mast_Often.f
 rcases mraw [⟨5, 9⟩, ⟨0, 5⟩, ⟨20, 30⟩] with ⟨h, e2⟩ | ⟨h, e2⟩
 ·
  rw [e2]
  show some ((fin (oftenL [⟨5, 9⟩, ⟨0, 5⟩, ⟨20, 30⟩] 1)).1, (fin (oftenL [⟨5, 9⟩, ⟨0, 5⟩, ⟨20, 30⟩] 1)).2) = _
  rw [e]
  rfl
 ·
  exact absurd hr h
theorem first_at : mast_FormatAt.f 12345 = some (⟨#[49, 50, 43, 51, 52, 53]⟩, 0) := by kernel_rfl
theorem first_form : mast_Format.f 10 [⟨0, 9⟩, ⟨20, 30⟩] = some (⟨#[48, 43, 48, 48, 48, 45, 48, 43, 48, 48, 57, 32, 48, 43, 48, 50, 48, 45, 48, 43, 48, 51, 48]⟩, 0) := by kernel_rfl
theorem first_near : mast_Near.f 10 [⟨0, 9⟩, ⟨20, 30⟩] 15 = some (20, 0) := by kernel_rfl
theorem first_ev : Ev (fun k => dropperlaw01_First.f k) true := by
 unfold dropperlaw01_First.f
 refine ev_val first_at (ev_val clean_first (Ev.bind (Ev.of (mast_Format.mono _) first_form) (Ev.bind (Ev.of (mast_Near.mono _ _) first_near) ?_)))
 refine ev_pos rfl (ev_pos rfl (ev_pos rfl (ev_pos rfl (ev_pos ?_ (ev_pos ?_ (Ev.now _))))))
 ·
  exact ByteArray.toList_eq _
 ·
  exact ByteArray.toList_eq _
end Go.Proofs.YtcmdcgghpkcchaaDoor.Lay

namespace Go.Proofs.YtcmdcgghpkcchaaDoor.Open
open Go.RowKit Go.Proofs.YtcmdcgghpkcchaaDoorW.PrintWords Go.Proofs.YtcmdcgghpkcchaaDoorW.PrintLast Go.Proofs.YtcmdcgghpkcchaaDoorW.PrintMore
set_option linter.unusedVariables false
set_option linter.unusedSimpArgs false
/-! What an argument of a type reads as, in the print's kinds. -/
def Opens {α : Type} (P : Program) (t : TypeId) (kd : Kd α) (G : α → Prop) : Prop :=
 ∀ (H : Type) (enc : TypeId × Value → H) (W : World) (fuel : Nat) (cs : List Value) (x : DataW H × List MemPlace), DataW.trod enc P W 0 (fun _ => true) true fuel t cs = some x → ∃ a, kd.K W a cs ∧ G a
section
variable {P : Program} {t e : TypeId} {α β : Type} {kd : Kd α} {G : α → Prop}
theorem opens_int {k : IntKind} (hu : P.underlying t = some (.int k)) : Opens P t (Kd.int k) (fun n => (Lit.int k n).wf = true) := by
 intro H enc W fuel cs x h
 obtain ⟨n, rfl, _, hw⟩ := DataW.trod_int hu h
 exact ⟨n, rfl, hw⟩
theorem exists_list {Q : Nat → α → Prop} : ∀ n, (∀ i, i < n → ∃ x, Q i x) → ∃ xs : List α, xs.length = n ∧ ∀ i x, xs[i]? = some x → Q i x := by
 intro n
 induction n with
 | zero => intro _; exact ⟨[], rfl, fun i x h => by simp at h⟩
 | succ n ih =>
  intro h
  obtain ⟨xs, hl, hq⟩ := ih (fun i hi => h i (by omega))
  obtain ⟨x, hx⟩ := h n (by omega)
  refine ⟨xs ++ [x], by simp [hl], fun i y hy => ?_⟩
  by_cases hi : i < n
  ·
   rw [List.getElem?_append_left (by omega)] at hy
   exact hq i y hy
  ·
   rw [List.getElem?_append_right (by omega)] at hy
   have : i - xs.length = 0 := by
    have := (List.getElem?_eq_some_iff.1 hy).1
    simp at this; omega
   rw [this] at hy
   have hin : i = n := by omega
   subst hin
   simp at hy
   subst hy
   exact hx
theorem add_add (a : Addr) (m n : Nat) : (a.add m).add n = a.add (m + n) := by
 unfold Addr.add
 by_cases h1 : m = 0
 ·
  subst h1; simp
 ·
  by_cases h2 : n = 0
  ·
   subst h2; simp [h1]
  ·
   have : ¬ m + n = 0 := by omega
   simp [h1, h2, this, Nat.add_assoc]
theorem opens_slice (hu : P.underlying t = some (.slice e)) (he : Opens P e kd G) (hc : P.cellsOf e = kd.sz) : Opens P t (Kd.slice e kd) (fun l => l.length ≤ 9223372036854775807 ∧ ∀ x ∈ l, G x) := by
 intro H enc W fuel cs x h
 rcases DataW.trod_slice hu h with ⟨rfl, _⟩ | ⟨a, len, cap, elems, rest, n, _, rfl, _, hb, hl, hm, hlen, hel, _, _⟩
 ·
  exact ⟨[], ⟨none, 0, rfl, Nat.le_refl _, rfl, by simp, fun h => absurd h (by simp)⟩, by simp, fun x hx => by simp at hx⟩
 ·
  have hx : ∀ i, i < len → ∃ y : α, (∃ c, c.length = kd.sz ∧ kd.K W y c ∧ ∀ j u, c[j]? = some u → W.cell? (a.add (i * kd.sz + j)) = some u) ∧ G y := by
   intro i hi
   have h1 := hel i hi
   rw [List.getElem?_eq_getElem (by omega)] at h1
   obtain ⟨c, hc1, hc2⟩ := Option.bind_eq_some_iff.1 h1
   obtain ⟨y, hk, hg⟩ := he H enc W n c _ hc2
   obtain ⟨_, hcl, hcell⟩ := World.cells?_some hc1
   refine ⟨y, ⟨c, kd.K_len hk, hk, fun j u hj => ?_⟩, hg⟩
   rw [hc] at hcell
   have := hcell j (by have := (List.getElem?_eq_some_iff.1 hj).1; have := kd.K_len hk; omega)
   rw [← add_add, this, hj]
  obtain ⟨xs, hxl, hxq⟩ := exists_list len hx
  have hmax : len ≤ 9223372036854775807 := by unfold maxLen at hm; omega
  refine ⟨xs, ⟨some a, cap, by rw [hxl], by omega, rfl, by omega, fun _ => ⟨a, rfl, fun j p hj => (hxq j p hj).1⟩⟩, by omega, fun y hy => ?_⟩
  obtain ⟨i, hi, rfl⟩ := List.mem_iff_getElem.1 hy
  exact (hxq i xs[i] (List.getElem?_eq_getElem hi)).2
def OpensF (P : Program) (fs : List Field) (off : Nat) (kd : Kd α) (G : α → Prop) : Prop :=
 ∀ (H : Type) (enc : TypeId × Value → H) (W : World) (fuel : Nat) (cs : List Value) (xs : List (DataW H × List MemPlace)), xs.length = fs.length → cs.length = off + kd.sz →
  (∀ (i : Nat) (f : Field), fs[i]? = some f → DataW.trod enc P W 0 (fun _ => true) true fuel f.type ((cs.drop f.offset).take (P.cellsOf f.type)) = xs[i]?) → ∃ a, kd.K W a (cs.drop off) ∧ G a
theorem opensF_one {f : Field} {off : Nat} (ho : f.offset = off) (hc : P.cellsOf f.type = kd.sz) (h : Opens P f.type kd G) : OpensF P [f] off kd G := by
 intro H enc W fuel cs xs hl hcs hx
 have h0 := hx 0 f rfl
 rw [List.getElem?_eq_getElem (by rw [hl]; simp), ho, hc, List.take_of_length_le (by rw [List.length_drop]; omega)] at h0
 exact h H enc W fuel _ _ h0
theorem opensF_cons {f : Field} {fs : List Field} {off : Nat} {ka : Kd α} {kb : Kd β} {Ga : α → Prop} {Gb : β → Prop} (ho : f.offset = off) (hc : P.cellsOf f.type = ka.sz) (h : Opens P f.type ka Ga) (hr : OpensF P fs (off + ka.sz) kb Gb) :
  OpensF P (f :: fs) off (Kd.pair ka kb) (fun p => Ga p.1 ∧ Gb p.2) := by
 intro H enc W fuel cs xs hl hcs hx
 have hcs' : cs.length = off + (ka.sz + kb.sz) := hcs
 match xs, hl with
 | x0 :: xs', hl =>
  have h0 := hx 0 f rfl
  rw [ho, hc] at h0
  obtain ⟨a, ha, hga⟩ := h H enc W fuel _ x0 h0
  obtain ⟨b, hb, hgb⟩ := hr H enc W fuel cs xs' (by simpa using hl) (by omega) (fun i f' hf' => hx (i + 1) f' (by simpa using hf'))
  refine ⟨(a, b), ⟨_, _, ?_, ha, hb⟩, hga, hgb⟩
  rw [← List.drop_drop, List.take_append_drop]
theorem opens_struct {fs : Array Field} (hu : P.underlying t = some (.struct fs)) (hc : P.cellsOf t = kd.sz) (h : OpensF P fs.toList 0 kd G) : Opens P t kd G := by
 intro H enc W fuel cs x hx
 obtain ⟨xs, n, _, _, hl, hxl, hf⟩ := DataW.trod_struct hu hx
 obtain ⟨a, ha, hg⟩ := h H enc W n cs xs (by rw [hxl]; simp) (by omega) (fun i f hf' => hf i f (by simpa using hf'))
 exact ⟨a, ha, hg⟩
theorem opens_iso {f : β → α} (g : α → β) (hfg : ∀ y, f (g y) = y) (h : Opens P t kd G) : Opens P t (Kd.iso kd f) (fun b => G (f b)) := by
 intro H enc W fuel cs x hx
 obtain ⟨a, ha, hg⟩ := h H enc W fuel cs x hx
 exact ⟨g a, by show kd.K W (f (g a)) cs; rw [hfg]; exact ha, by show G (f (g a)); rw [hfg]; exact hg⟩
end
end Go.Proofs.YtcmdcgghpkcchaaDoor.Open

/- From the rows' condition on the laid tables to the table of the powers of ten in the world. -/
namespace Go.Proofs.YtcmdcgghpkcchaaDoor.Laid
set_option linter.unusedVariables false
set_option linter.unusedSimpArgs false
open Go.ChangeShapes Go.WideShapes Go.ChangeAt Go.WideMaps Go.WideElems Go.RowKit Go.Proofs.YtcmdcgghpkcchaaDoor

abbrev laid2 : List (String × DataW Unit) := [("math/bits.deBruijn32tab", Rows.laid_math_bits_deBruijn32tab), ("math/bits.deBruijn64tab", Rows.laid_math_bits_deBruijn64tab), ("internal/strconv.uint64pow10", Rows.laid_internal_strconv_uint64pow10)]
theorem gp : Tryd.prog.globalNamed "internal/strconv.uint64pow10" = some 1 := by kernel_rfl
theorem tp : (Tryd.prog.globals[1]?).map (·.type) = some 120 := by kernel_rfl
theorem door_met (os : Os) (args : Array Value) : laidMetH Tryd.prog laid2 ((World.doorLaid Tryd.prog 4000 os).forCall (fun _ _ => 0) ⟨#[], args, []⟩).memory :=
 laidMetH_of_parts3 (fuel := 100) (laidMet_of_run' 100 (by kernel_rfl) (by kernel_rfl)) (by kernel_rfl) (by kernel_rfl)
theorem tabs_of {W : World} (h : laidMetH Tryd.prog laid2 W) : Tab.Tabs W := by
 rw [MakeChecks.laidMetH_plain _ _ _ (by kernel_rfl)] at h
 obtain ⟨ps, ⟨g0, t0, cs0, f0, p0, q0, hg0, ht0, hv0, hd0, ⟨g1, t1, cs1, f1, p1, q1, hg1, ht1, hv1, hd1, ⟨g2, t2, cs2, f2, p2, q2, hg2, ht2, hv2, hd2, _, _⟩, _⟩, _⟩, _, _⟩ := h
 obtain rfl := Option.some.inj (gp.symm.trans hg2)
 obtain rfl := Option.some.inj (tp.symm.trans ht2)
 have hT : (Rows.laid_internal_strconv_uint64pow10 : DataW Unit) = Lib.tabData .u64 Lib.pow10Tab := rfl
 rw [hT] at hd2
 unfold Tab.Tabs Lib.TabIs
 rw [hv2, ← Lib.cells_of_tab Tryd.underlying120 Tryd.underlying100 (by kernel_rfl) (by kernel_rfl) hd2]
end Go.Proofs.YtcmdcgghpkcchaaDoor.Laid

namespace Go.Proofs.YtcmdcgghpkcchaaDoor.XMast
open Go.RowKit Go.Proofs.YtcmdcgghpkcchaaDoorW.PrintWords Go.Proofs.YtcmdcgghpkcchaaDoorW.PrintLast Go.Proofs.YtcmdcgghpkcchaaDoorW.PrintMore
attribute [local go_sem] max2_int min2_int max_two min_two max_three min_three max_four min_four   -- for this text's walks alone
set_option linter.unusedVariables false
set_option linter.unusedSimpArgs false
/-! ### mast_Join: function 29 -/
def mast_Join.p (lv : Int) : Bool := decide (0 < lv)
theorem mast_Join.clos (lv : Int) (w : World) : Calls Tryd.prog 58 #[.int .i64 lv] w fun e w' => e = .returned (.bool (mast_Join.p lv)) ∧ w' = w := by
 unfold mast_Join.p
 go_enter Tryd.func58, Tryd.ntmps58
 go_wp2
 go_ret
 exact ⟨rfl, rfl⟩
theorem mast_Join.enter (vs : Array Value) (W : World) : (callFunc 58 vs).run Tryd.prog W = .ok (.enter 58 vs) W := enters_ Tryd.func58 (by kernel_rfl) (by kernel_rfl) vs W
def mast_Join.f (k : Nat) (l0 l1 : List S46) : Option (List S46 × Int) := Lay.bothF mast_Join.p k l0 l1
theorem mast_Join.calls (k : Nat) (A0 : Option Addr) (c0 : Nat) (l0 : List S46) (A1 : Option Addr) (c1 : Nat) (l1 : List S46) (r1 : List S46) (r2 : Int) (w : World) (hr0 : Kd.C k46 w A0 l0.length l0) (hc0 : l0.length ≤ c0) (hr1 : Kd.C k46 w A1 l1.length l1) (hc1 : l1.length ≤ c1) (h : mast_Join.f k l0 l1 = some (r1, r2)) :
  Calls Tryd.prog 29 #[.slice A0 l0.length c0, .slice A1 l1.length c1] w fun e w' => ∃ v0_ : Value, e = .returned (.tuple #[v0_, .int .i64 r2]) ∧ Kd.R k46 46 w' w.heap.size (fun _ => True) v0_ r1 ∧ Below w.heap.size w w' := by
 have H := Aside0.mk (Lay.both 58 mast_Join.p mast_Join.enter mast_Join.clos k A0 c0 l0 A1 c1 l1 r1 r2 w hr0 hc0 hr1 hc1 h)
 clear hr0 hr1 hc0 hc1 h
 go_enter Tryd.func29, Tryd.ntmps29
 go_wp2_with (go_at_call 54; (with_reducible refine H.out.mono ?_); rintro e w1 ⟨v0, rfl, ho, hb⟩; have HO := Aside0.mk ho; have HB := Aside0.mk hb; clear ho hb)
 go_ret2
 exact ⟨_, rfl, HO.out, HB.out⟩

/-! ### dropperref01_Join: function 30 -/
def dropperref01_Join.f (k : Nat) (l0 : List (S46)) (l1 : List (S46)) : Option ((List (S46)) × Int) := (dropperref01_together.f k l0 l1 1).bind fun bt361 => (some (bt361.1, bt361.2))
set_option maxHeartbeats 8000000 in
set_option maxRecDepth 100000 in
theorem dropperref01_Join.calls (k : Nat) (A0 : Option Addr) (c0 : Nat) (l0 : List (S46)) (A1 : Option Addr) (c1 : Nat) (l1 : List (S46)) (r1 : List (S46)) (r2 : Int) (w : World) (hr0 : Kd.C k46 w A0 l0.length l0) (hc0 : l0.length ≤ c0) (hr1 : Kd.C k46 w A1 l1.length l1) (hc1 : l1.length ≤ c1) (h : dropperref01_Join.f k l0 l1 = some (r1, r2)) :
  Calls Tryd.prog 30 #[.slice A0 l0.length c0, .slice A1 l1.length c1] w fun e w' => ∃ v0_ : Value, e = .returned (.tuple #[v0_, .int .i64 r2]) ∧ Kd.R k46 46 w' w.heap.size (fun _ => True) v0_ r1 ∧ Below w.heap.size w w' := by
 have HR0 := Aside0.mk hr0
 have HC0 := Aside0.mk hc0
 clear hr0 hc0
 have HR1 := Aside0.mk hr1
 have HC1 := Aside0.mk hc1
 clear hr1 hc1
 have HB := Aside0.mk (Below.refl w.heap.size w)
 have H : ((dropperref01_together.f k l0 l1 1).bind fun bt361 => (some (bt361.1, bt361.2))) = some (r1, r2) := h
 clear h
 replace H := Option.bind_eq_some_iff.mp H
 obtain ⟨⟨t361, t362⟩, A30, H⟩ := H
 try dsimp only at H
 have A3 := Aside0.mk A30
 clear A30
 simp only [Option.some.injEq, Prod.mk.injEq] at H
 obtain ⟨rfl, rfl⟩ := H
 go_enter Tryd.func30, Tryd.ntmps30
 go_wp2_with (first | ((with_reducible refine gate_callee (f := 56) rfl ?_); refine goesL_ (some 8) rfl rfl Tryd.func56 (by kernel_rfl) rfl #[.slice A0 l0.length c0, .slice A1 l1.length c1, .int .i64 1] rfl mapz ?_; (with_reducible refine (dropperref01_together.calls k _ _ l0 _ _ l1 1 t361 t362 _ ?side1 HC0.out ?side3 HC1.out A3.out).mono ?_); (case side1 => repeat (first | exact HR0.out | (with_reducible refine Kd.C_alloc ?_ _) | (with_reducible refine Kd.C_drewN ?_ _) | (with_reducible refine Kd.C_drew ?_))); (case side3 => repeat (first | exact HR1.out | (with_reducible refine Kd.C_alloc ?_ _) | (with_reducible refine Kd.C_drewN ?_ _) | (with_reducible refine Kd.C_drew ?_))); rintro e w4 ⟨v363, rfl, ho0, hb⟩; refine ⟨_, rfl, ?_⟩; have HO364 := Aside0.mk (Kd.R_lower ho0 (below_size bel)); replace HB := Aside0.mk (below_step bel hb); (try clear hb); (try clear hb2); (try clear hk); (try clear hi); (try clear ho0)))
 go_ret2
 exact ⟨_, ezz, by (with_reducible repeat (first | apply Kd.R_alloc | apply Kd.R_drewN | apply Kd.R_drew)); exact HO364.out, bel⟩

/-! ### mast_Both: function 31 -/
def mast_Both.p (lv : Int) : Bool := lv == 3
theorem mast_Both.clos (lv : Int) (w : World) : Calls Tryd.prog 59 #[.int .i64 lv] w fun e w' => e = .returned (.bool (mast_Both.p lv)) ∧ w' = w := by
 unfold mast_Both.p
 go_enter Tryd.func59, Tryd.ntmps59
 go_wp2
 go_ret
 exact ⟨rfl, rfl⟩
theorem mast_Both.enter (vs : Array Value) (W : World) : (callFunc 59 vs).run Tryd.prog W = .ok (.enter 59 vs) W := enters_ Tryd.func59 (by kernel_rfl) (by kernel_rfl) vs W
def mast_Both.f (k : Nat) (l0 l1 : List S46) : Option (List S46 × Int) := Lay.bothF mast_Both.p k l0 l1
theorem mast_Both.calls (k : Nat) (A0 : Option Addr) (c0 : Nat) (l0 : List S46) (A1 : Option Addr) (c1 : Nat) (l1 : List S46) (r1 : List S46) (r2 : Int) (w : World) (hr0 : Kd.C k46 w A0 l0.length l0) (hc0 : l0.length ≤ c0) (hr1 : Kd.C k46 w A1 l1.length l1) (hc1 : l1.length ≤ c1) (h : mast_Both.f k l0 l1 = some (r1, r2)) :
  Calls Tryd.prog 31 #[.slice A0 l0.length c0, .slice A1 l1.length c1] w fun e w' => ∃ v0_ : Value, e = .returned (.tuple #[v0_, .int .i64 r2]) ∧ Kd.R k46 46 w' w.heap.size (fun _ => True) v0_ r1 ∧ Below w.heap.size w w' := by
 have H := Aside0.mk (Lay.both 59 mast_Both.p mast_Both.enter mast_Both.clos k A0 c0 l0 A1 c1 l1 r1 r2 w hr0 hc0 hr1 hc1 h)
 clear hr0 hr1 hc0 hc1 h
 go_enter Tryd.func31, Tryd.ntmps31
 go_wp2_with (go_at_call 54; (with_reducible refine H.out.mono ?_); rintro e w1 ⟨v0, rfl, ho, hb⟩; have HO := Aside0.mk ho; have HB := Aside0.mk hb; clear ho hb)
 go_ret2
 exact ⟨_, rfl, HO.out, HB.out⟩

/-! ### dropperref01_Both: function 32 -/
def dropperref01_Both.f (k : Nat) (l0 : List (S46)) (l1 : List (S46)) : Option ((List (S46)) × Int) := (dropperref01_together.f k l0 l1 2).bind fun bt365 => (some (bt365.1, bt365.2))
set_option maxHeartbeats 8000000 in
set_option maxRecDepth 100000 in
theorem dropperref01_Both.calls (k : Nat) (A0 : Option Addr) (c0 : Nat) (l0 : List (S46)) (A1 : Option Addr) (c1 : Nat) (l1 : List (S46)) (r1 : List (S46)) (r2 : Int) (w : World) (hr0 : Kd.C k46 w A0 l0.length l0) (hc0 : l0.length ≤ c0) (hr1 : Kd.C k46 w A1 l1.length l1) (hc1 : l1.length ≤ c1) (h : dropperref01_Both.f k l0 l1 = some (r1, r2)) :
  Calls Tryd.prog 32 #[.slice A0 l0.length c0, .slice A1 l1.length c1] w fun e w' => ∃ v0_ : Value, e = .returned (.tuple #[v0_, .int .i64 r2]) ∧ Kd.R k46 46 w' w.heap.size (fun _ => True) v0_ r1 ∧ Below w.heap.size w w' := by
 have HR0 := Aside0.mk hr0
 have HC0 := Aside0.mk hc0
 clear hr0 hc0
 have HR1 := Aside0.mk hr1
 have HC1 := Aside0.mk hc1
 clear hr1 hc1
 have HB := Aside0.mk (Below.refl w.heap.size w)
 have H : ((dropperref01_together.f k l0 l1 2).bind fun bt365 => (some (bt365.1, bt365.2))) = some (r1, r2) := h
 clear h
 replace H := Option.bind_eq_some_iff.mp H
 obtain ⟨⟨t365, t366⟩, A30, H⟩ := H
 try dsimp only at H
 have A3 := Aside0.mk A30
 clear A30
 simp only [Option.some.injEq, Prod.mk.injEq] at H
 obtain ⟨rfl, rfl⟩ := H
 go_enter Tryd.func32, Tryd.ntmps32
 go_wp2_with (first | ((with_reducible refine gate_callee (f := 56) rfl ?_); refine goesL_ (some 8) rfl rfl Tryd.func56 (by kernel_rfl) rfl #[.slice A0 l0.length c0, .slice A1 l1.length c1, .int .i64 2] rfl mapz ?_; (with_reducible refine (dropperref01_together.calls k _ _ l0 _ _ l1 2 t365 t366 _ ?side1 HC0.out ?side3 HC1.out A3.out).mono ?_); (case side1 => repeat (first | exact HR0.out | (with_reducible refine Kd.C_alloc ?_ _) | (with_reducible refine Kd.C_drewN ?_ _) | (with_reducible refine Kd.C_drew ?_))); (case side3 => repeat (first | exact HR1.out | (with_reducible refine Kd.C_alloc ?_ _) | (with_reducible refine Kd.C_drewN ?_ _) | (with_reducible refine Kd.C_drew ?_))); rintro e w4 ⟨v367, rfl, ho0, hb⟩; refine ⟨_, rfl, ?_⟩; have HO368 := Aside0.mk (Kd.R_lower ho0 (below_size bel)); replace HB := Aside0.mk (below_step bel hb); (try clear hb); (try clear hb2); (try clear hk); (try clear hi); (try clear ho0)))
 go_ret2
 exact ⟨_, ezz, by (with_reducible repeat (first | apply Kd.R_alloc | apply Kd.R_drewN | apply Kd.R_drew)); exact HO368.out, bel⟩

/-! ### mast_Without: function 33 -/
def mast_Without.p (lv : Int) : Bool := lv == 1
theorem mast_Without.clos (lv : Int) (w : World) : Calls Tryd.prog 60 #[.int .i64 lv] w fun e w' => e = .returned (.bool (mast_Without.p lv)) ∧ w' = w := by
 unfold mast_Without.p
 go_enter Tryd.func60, Tryd.ntmps60
 go_wp2
 go_ret
 exact ⟨rfl, rfl⟩
theorem mast_Without.enter (vs : Array Value) (W : World) : (callFunc 60 vs).run Tryd.prog W = .ok (.enter 60 vs) W := enters_ Tryd.func60 (by kernel_rfl) (by kernel_rfl) vs W
def mast_Without.f (k : Nat) (l0 l1 : List S46) : Option (List S46 × Int) := Lay.bothF mast_Without.p k l0 l1
theorem mast_Without.calls (k : Nat) (A0 : Option Addr) (c0 : Nat) (l0 : List S46) (A1 : Option Addr) (c1 : Nat) (l1 : List S46) (r1 : List S46) (r2 : Int) (w : World) (hr0 : Kd.C k46 w A0 l0.length l0) (hc0 : l0.length ≤ c0) (hr1 : Kd.C k46 w A1 l1.length l1) (hc1 : l1.length ≤ c1) (h : mast_Without.f k l0 l1 = some (r1, r2)) :
  Calls Tryd.prog 33 #[.slice A0 l0.length c0, .slice A1 l1.length c1] w fun e w' => ∃ v0_ : Value, e = .returned (.tuple #[v0_, .int .i64 r2]) ∧ Kd.R k46 46 w' w.heap.size (fun _ => True) v0_ r1 ∧ Below w.heap.size w w' := by
 have H := Aside0.mk (Lay.both 60 mast_Without.p mast_Without.enter mast_Without.clos k A0 c0 l0 A1 c1 l1 r1 r2 w hr0 hc0 hr1 hc1 h)
 clear hr0 hr1 hc0 hc1 h
 go_enter Tryd.func33, Tryd.ntmps33
 go_wp2_with (go_at_call 54; (with_reducible refine H.out.mono ?_); rintro e w1 ⟨v0, rfl, ho, hb⟩; have HO := Aside0.mk ho; have HB := Aside0.mk hb; clear ho hb)
 go_ret2
 exact ⟨_, rfl, HO.out, HB.out⟩

/-! ### dropperref01_Without: function 34 -/
def dropperref01_Without.f (k : Nat) (l0 : List (S46)) (l1 : List (S46)) : Option ((List (S46)) × Int) := (dropperref01_together.f k l0 l1 3).bind fun bt369 => (some (bt369.1, bt369.2))
set_option maxHeartbeats 8000000 in
set_option maxRecDepth 100000 in
theorem dropperref01_Without.calls (k : Nat) (A0 : Option Addr) (c0 : Nat) (l0 : List (S46)) (A1 : Option Addr) (c1 : Nat) (l1 : List (S46)) (r1 : List (S46)) (r2 : Int) (w : World) (hr0 : Kd.C k46 w A0 l0.length l0) (hc0 : l0.length ≤ c0) (hr1 : Kd.C k46 w A1 l1.length l1) (hc1 : l1.length ≤ c1) (h : dropperref01_Without.f k l0 l1 = some (r1, r2)) :
  Calls Tryd.prog 34 #[.slice A0 l0.length c0, .slice A1 l1.length c1] w fun e w' => ∃ v0_ : Value, e = .returned (.tuple #[v0_, .int .i64 r2]) ∧ Kd.R k46 46 w' w.heap.size (fun _ => True) v0_ r1 ∧ Below w.heap.size w w' := by
 have HR0 := Aside0.mk hr0
 have HC0 := Aside0.mk hc0
 clear hr0 hc0
 have HR1 := Aside0.mk hr1
 have HC1 := Aside0.mk hc1
 clear hr1 hc1
 have HB := Aside0.mk (Below.refl w.heap.size w)
 have H : ((dropperref01_together.f k l0 l1 3).bind fun bt369 => (some (bt369.1, bt369.2))) = some (r1, r2) := h
 clear h
 replace H := Option.bind_eq_some_iff.mp H
 obtain ⟨⟨t369, t370⟩, A30, H⟩ := H
 try dsimp only at H
 have A3 := Aside0.mk A30
 clear A30
 simp only [Option.some.injEq, Prod.mk.injEq] at H
 obtain ⟨rfl, rfl⟩ := H
 go_enter Tryd.func34, Tryd.ntmps34
 go_wp2_with (first | ((with_reducible refine gate_callee (f := 56) rfl ?_); refine goesL_ (some 8) rfl rfl Tryd.func56 (by kernel_rfl) rfl #[.slice A0 l0.length c0, .slice A1 l1.length c1, .int .i64 3] rfl mapz ?_; (with_reducible refine (dropperref01_together.calls k _ _ l0 _ _ l1 3 t369 t370 _ ?side1 HC0.out ?side3 HC1.out A3.out).mono ?_); (case side1 => repeat (first | exact HR0.out | (with_reducible refine Kd.C_alloc ?_ _) | (with_reducible refine Kd.C_drewN ?_ _) | (with_reducible refine Kd.C_drew ?_))); (case side3 => repeat (first | exact HR1.out | (with_reducible refine Kd.C_alloc ?_ _) | (with_reducible refine Kd.C_drewN ?_ _) | (with_reducible refine Kd.C_drew ?_))); rintro e w4 ⟨v371, rfl, ho0, hb⟩; refine ⟨_, rfl, ?_⟩; have HO372 := Aside0.mk (Kd.R_lower ho0 (below_size bel)); replace HB := Aside0.mk (below_step bel hb); (try clear hb); (try clear hb2); (try clear hk); (try clear hi); (try clear ho0)))
 go_ret2
 exact ⟨_, ezz, by (with_reducible repeat (first | apply Kd.R_alloc | apply Kd.R_drewN | apply Kd.R_drew)); exact HO372.out, bel⟩

/-! ### mast_Under: function 35 -/
theorem mast_Under.bs_some (l : List S46) (m : Int) : ∀ (k i j : Nat), j - i < k → i ≤ j → j ≤ l.length → ∃ n, mast_find.bs l m k i j = some n ∧ i ≤ n ∧ n ≤ j
 | 0, i, j, h, _, _ => by omega
 | k + 1, i, j, h, hij, hj => by
  rw [mast_find.bs]
  by_cases hlt : i < j
  ·
   rw [if_pos hlt]
   split
   ·
    obtain ⟨n, h1, h2, h3⟩ := mast_Under.bs_some l m k ((i + j) / 2 + 1) j (by omega) (by omega) hj
    exact ⟨n, h1, by omega, h3⟩
   ·
    obtain ⟨n, h1, h2, h3⟩ := mast_Under.bs_some l m k i ((i + j) / 2) (by omega) (by omega) (by omega)
    exact ⟨n, h1, h2, by omega⟩
  ·
   rw [if_neg hlt]
   exact ⟨i, rfl, Nat.le_refl _, hij⟩
theorem mast_Under.find_some (l : List S46) (m : Int) (hl : l.length ≤ 1000000) : ∃ n : Nat, mast_find.f l m = some (n : Int) ∧ n ≤ l.length := by
 obtain ⟨n, h1, _, h3⟩ := mast_Under.bs_some l m (l.length + 1) 0 l.length (by omega) (by omega) (by omega)
 exact ⟨n, by unfold mast_find.f; rw [if_pos hl, h1]; rfl, h3⟩
def mast_Under.bad (l1 : List S46) (s : S46) : Bool := match mast_find.f l1 s.f0 with | some i => if i = (l1.length : Int) then true else if s.f0 < (rd_T46 l1 i).f0 then true else decide (s.f1 > (rd_T46 l1 i).f1) | none => false
set_option maxHeartbeats 8000000 in
set_option maxRecDepth 100000 in
theorem mast_Under.clos (b : Nat) (A1 : Option Addr) (c1 : Nat) (l1 : List S46) (x : S46) (w : World) (hl : l1.length ≤ 1000000) (hcb : ∃ cells t, w.heap[b]? = some (.cells cells t (0, 0))) (hc : w.cell? ⟨b, 0, none⟩ = some (.slice A1 l1.length c1)) (hr : Kd.C k46 w A1 l1.length l1) (hc1 : l1.length ≤ c1) :
  Calls Tryd.prog 62 #[.agg #[.int .i64 x.f0, .int .i64 x.f1], .pointer (some ⟨b, 0, none⟩)] w fun e w' => e = .returned (.bool (mast_Under.bad l1 x)) ∧ Below w.heap.size w w' := by
 have hu := Tryd.underlying46
 obtain ⟨n, hf, hn⟩ := mast_Under.find_some l1 x.f0 hl
 have hbad : mast_Under.bad l1 x = (if (n : Int) = (l1.length : Int) then true else if x.f0 < (rd_T46 l1 n).f0 then true else decide (x.f1 > (rd_T46 l1 n).f1)) := by unfold mast_Under.bad; rw [hf]
 have HF := Aside0.mk hf
 have HR := Aside0.mk hr
 have HC := Aside0.mk hc1
 obtain ⟨cells, t, hblk⟩ := hcb
 have HBL := Aside0.mk hblk
 have HCC := Aside0.mk hc
 have B0 : Below w.heap.size w (w.alloc (.cells #[.int .i64 x.f0, .int .i64 x.f1] 46)) := below_alloc (Below.refl _ _) _
 have HB0 := Aside0.mk B0
 have BX := Aside0.mk (blk_new w (.cells #[.int .i64 x.f0, .int .i64 x.f1] 46))
 have HLN : Aside0 (l1.length ≤ 1000000) := ⟨hl⟩
 clear hf hr hc1 hblk B0
 have hb_lt : b < w.heap.size := blk_lt HBL.out
 by_cases hnl : n = l1.length
 ·
  have e1 : mast_Under.bad l1 x = true := by rw [hbad, if_pos (by omega)]
  rw [e1]
  have q1 : ((n : Int) == (l1.length : Int)) = true := by simp; omega
  clear hbad e1
  have HNL := Aside0.mk hnl
  clear hnl
  go_enter Tryd.func62, Tryd.ntmps62
  go_wp2_with (go_at_call 53; (refine (mast_find.calls _ _ l1 x.f0 (n : Int) _ (Kd.C_below HR.out HB0.out) HC.out HF.out).mono ?_); rintro e w1 ⟨rfl, hb⟩; have HB1 := Aside0.mk (below_step HB0.out hb); have BX1 := Aside0.mk ((hb.block w.heap.size (blk_lt BX.out)).trans BX.out); have k0 := blkc BX1.out 0 (.int .i64 x.f0) rfl; have k1 := blkc BX1.out 1 (.int .i64 x.f1) rfl; have kc := pw_cell_below HB1.out HCC.out; clear hb hc)
  go_quiet (fail)
  go_wp2
  go_ret
  exact ⟨rfl, pw_below_drewN HB1.out _⟩
 ·
  have q1 : ((n : Int) == (l1.length : Int)) = false := by simp; omega
  have q2 : (n : Int) ≠ (l1.length : Int) := by omega
  have hlt : n < l1.length := by omega
  rw [if_neg (by omega)] at hbad
  have hlz : (n : Int) < (l1.length : Int) := by omega
  have p0 : (0 : Int) ≤ (n : Int) := by omega
  obtain ⟨X, hX⟩ : ∃ X, X = rd_T46 l1 (n : Int) := ⟨_, rfl⟩
  have HX := Aside0.mk hX
  rw [← hX] at hbad
  clear hX hnl
  by_cases h1 : x.f0 < X.f0
  ·
   rw [if_pos h1] at hbad
   rw [hbad]
   have b1 : decide (x.f0 < X.f0) = true := decide_eq_true h1
   clear hbad h1
   go_enter Tryd.func62, Tryd.ntmps62
   go_wp2_with (go_at_call 53; (refine (mast_find.calls _ _ l1 x.f0 (n : Int) _ (Kd.C_below HR.out HB0.out) HC.out HF.out).mono ?_); rintro e w1 ⟨rfl, hb⟩; have HB1 := Aside0.mk (below_step HB0.out hb); have BX1 := Aside0.mk ((hb.block w.heap.size (blk_lt BX.out)).trans BX.out); have k0 := blkc BX1.out 0 (.int .i64 x.f0) rfl; have k1 := blkc BX1.out 1 (.int .i64 x.f1) rfl; have kc := pw_cell_below HB1.out HCC.out; obtain ⟨ad, e1, hx0, hx1⟩ := at_T46 (Kd.C_below HR.out HB1.out) (n : Int) p0 hlz; cases e1; rw [← HX.out] at hx0 hx1; (try simp only [Int.toNat_natCast] at hx0 hx1); clear hb hc)
   go_quiet (fail)
   go_wp2
   go_ret
   exact ⟨rfl, pw_below_drewN HB1.out _⟩
  ·
   rw [if_neg h1] at hbad
   have b1 : decide (x.f0 < X.f0) = false := decide_eq_false h1
   by_cases h2 : x.f1 > X.f1
   ·
    have b2 : decide (x.f1 > X.f1) = true := decide_eq_true h2
    rw [b2] at hbad
    rw [hbad]
    clear hbad h1 h2
    go_enter Tryd.func62, Tryd.ntmps62
    go_wp2_with (go_at_call 53; (refine (mast_find.calls _ _ l1 x.f0 (n : Int) _ (Kd.C_below HR.out HB0.out) HC.out HF.out).mono ?_); rintro e w1 ⟨rfl, hb⟩; have HB1 := Aside0.mk (below_step HB0.out hb); have BX1 := Aside0.mk ((hb.block w.heap.size (blk_lt BX.out)).trans BX.out); have k0 := blkc BX1.out 0 (.int .i64 x.f0) rfl; have k1 := blkc BX1.out 1 (.int .i64 x.f1) rfl; have kc := pw_cell_below HB1.out HCC.out; obtain ⟨ad, e1, hx0, hx1⟩ := at_T46 (Kd.C_below HR.out HB1.out) (n : Int) p0 hlz; cases e1; rw [← HX.out] at hx0 hx1; (try simp only [Int.toNat_natCast] at hx0 hx1); clear hb hc)
    go_quiet (fail)
    go_wp2
    go_ret
    exact ⟨rfl, pw_below_drewN HB1.out _⟩
   ·
    have b2 : decide (x.f1 > X.f1) = false := decide_eq_false h2
    rw [b2] at hbad
    rw [hbad]
    clear hbad h1 h2
    go_enter Tryd.func62, Tryd.ntmps62
    go_wp2_with (go_at_call 53; (refine (mast_find.calls _ _ l1 x.f0 (n : Int) _ (Kd.C_below HR.out HB0.out) HC.out HF.out).mono ?_); rintro e w1 ⟨rfl, hb⟩; have HB1 := Aside0.mk (below_step HB0.out hb); have BX1 := Aside0.mk ((hb.block w.heap.size (blk_lt BX.out)).trans BX.out); have k0 := blkc BX1.out 0 (.int .i64 x.f0) rfl; have k1 := blkc BX1.out 1 (.int .i64 x.f1) rfl; have kc := pw_cell_below HB1.out HCC.out; obtain ⟨ad, e1, hx0, hx1⟩ := at_T46 (Kd.C_below HR.out HB1.out) (n : Int) p0 hlz; cases e1; rw [← HX.out] at hx0 hx1; (try simp only [Int.toNat_natCast] at hx0 hx1); clear hb hc)
    go_quiet (fail)
    go_wp2
    go_ret
    exact ⟨rfl, pw_below_drewN HB1.out _⟩
theorem mast_Under.enter (vs : Array Value) (W : World) : (callFunc 62 vs).run Tryd.prog W = .ok (.enter 62 vs) W := enters_ Tryd.func62 (by kernel_rfl) (by kernel_rfl) vs W
def mast_Under.f (k : Nat) (l0 l1 : List S46) : Option (Bool × Int) := if l1.length ≤ 1000000 then (mast_Valid.f k l0).bind fun a => if a = true then ((mast_Valid.f k l1).bind fun b => if b = true then some (!(l0.any (mast_Under.bad l1)), 0) else some (false, 10)) else some (false, 10) else none
set_option maxHeartbeats 4000000 in
set_option maxRecDepth 100000 in
theorem mast_Under.calls (k : Nat) (A0 : Option Addr) (c0 : Nat) (l0 : List S46) (A1 : Option Addr) (c1 : Nat) (l1 : List S46) (r1 : Bool) (r2 : Int) (w : World) (hr0 : Kd.C k46 w A0 l0.length l0) (hc0 : l0.length ≤ c0) (hr1 : Kd.C k46 w A1 l1.length l1) (hc1 : l1.length ≤ c1) (h : mast_Under.f k l0 l1 = some (r1, r2)) :
  Calls Tryd.prog 35 #[.slice A0 l0.length c0, .slice A1 l1.length c1] w fun e w' => e = .returned (.tuple #[.bool r1, .int .i64 r2]) ∧ Below w.heap.size w w' := by
 have HR0 := Aside0.mk hr0
 have HR1 := Aside0.mk hr1
 have HC0 := Aside0.mk hc0
 have HC1 := Aside0.mk hc1
 clear hr0 hr1 hc0 hc1
 unfold mast_Under.f at h
 by_cases hl : ¬ l1.length ≤ 1000000
 ·
  rw [if_neg hl] at h; cases h
 replace hl := Decidable.not_not.1 hl
 rw [if_pos hl] at h
 have HL := Aside0.mk hl
 obtain ⟨a, ha, h1⟩ := Option.bind_eq_some_iff.1 h
 have HA := Aside0.mk ha
 have B0 : Below w.heap.size w (w.alloc (.cells #[.slice A1 l1.length c1] 22)) := below_alloc (Below.refl _ _) _
 have HB0 := Aside0.mk B0
 have BX := Aside0.mk (blk_new w (.cells #[.slice A1 l1.length c1] 22))
 clear h ha hl B0
 cases a with
 | false =>
  rw [if_neg (by decide)] at h1
  have h1' := Option.some.inj h1
  injection h1' with h3 h4
  subst h3 h4
  clear h1
  go_enter Tryd.func35, Tryd.ntmps35
  go_wp2_with (go_at_call 50; (with_reducible refine (mast_Valid.calls k _ _ l0 false _ (Kd.C_below HR0.out HB0.out) HC0.out HA.out).mono ?_); rintro e w1 ⟨rfl, hb⟩; have HB1 := Aside0.mk (below_step HB0.out hb); clear hb)
  go_ret2
  exact ⟨rfl, HB1.out⟩
 | true =>
  rw [if_pos rfl] at h1
  obtain ⟨b, hb, h2⟩ := Option.bind_eq_some_iff.1 h1
  have HBV := Aside0.mk hb
  clear h1 hb
  cases b with
  | false =>
   rw [if_neg (by decide)] at h2
   have h1' := Option.some.inj h2
   injection h1' with h3 h4
   subst h3 h4
   clear h2
   go_enter Tryd.func35, Tryd.ntmps35
   go_wp2_with (first | (go_at_call 50; (with_reducible refine (mast_Valid.calls k _ _ l0 true _ (Kd.C_below HR0.out HB0.out) HC0.out HA.out).mono ?_); rintro e w1 ⟨rfl, hb⟩; have HB1 := Aside0.mk (below_step HB0.out hb); have k0 := blkc ((hb.block w.heap.size (blk_lt BX.out)).trans BX.out) 0 (.slice A1 l1.length c1) rfl; clear hb) | (go_at_call 50; (with_reducible refine (mast_Valid.calls k _ _ l1 false _ (Kd.C_below HR1.out HB1.out) HC1.out HBV.out).mono ?_); rintro e w2 ⟨rfl, hb⟩; have HB2 := Aside0.mk (below_step HB1.out hb); clear hb))
   go_ret2
   exact ⟨rfl, HB2.out⟩
  | true =>
   rw [if_pos rfl] at h2
   have h1' := Option.some.inj h2
   injection h1' with h3 h4
   subst h3 h4
   clear h2
   go_enter Tryd.func35, Tryd.ntmps35
   go_wp2_with (first | (go_at_call 50; (with_reducible refine (mast_Valid.calls k _ _ l0 true _ (Kd.C_below HR0.out HB0.out) HC0.out HA.out).mono ?_); rintro e w1 ⟨rfl, hb⟩; have HB1 := Aside0.mk (below_step HB0.out hb); have BX1 := Aside0.mk ((hb.block w.heap.size (blk_lt BX.out)).trans BX.out); have k0 := blkc BX1.out 0 (.slice A1 l1.length c1) rfl; clear hb) | (go_at_call 50; (with_reducible refine (mast_Valid.calls k _ _ l1 true _ (Kd.C_below HR1.out HB1.out) HC1.out HBV.out).mono ?_); rintro e w2 ⟨rfl, hb⟩; have HB2 := Aside0.mk (below_step HB1.out hb); have BX2 := Aside0.mk ((hb.block w.heap.size (blk_lt BX1.out)).trans BX1.out); clear hb k0) | (go_at_call 61; (refine (slices_ContainsFunc_api_Stretch_api_Stretch.contains 62 #[.pointer (some ⟨w.heap.size, 0, none⟩)] (mast_Under.bad l1) _ _ l0 _ (Kd.C_below HR0.out HB2.out) HC0.out mast_Under.enter (fun x _ W hW => mast_Under.clos w.heap.size A1 c1 l1 x W HL.out ⟨_, _, (hW.block w.heap.size (blk_lt BX2.out)).trans BX2.out⟩ (blkc ((hW.block w.heap.size (blk_lt BX2.out)).trans BX2.out) 0 (.slice A1 l1.length c1) rfl) (Kd.C_below HR1.out (below_step HB2.out hW)) HC1.out)).mono ?_); rintro e w3 ⟨rfl, hb⟩; have HB3 := Aside0.mk (below_step HB2.out hb); clear hb))
   go_ret2
   exact ⟨rfl, HB3.out⟩

end Go.Proofs.YtcmdcgghpkcchaaDoor.XMast