-- Written by wip/pack.py of this repo: texts of this claim, put together.
import Derived.RangeFuncNested
import Derived.RangeFuncBound
import Derived.RangeFuncCalls
import Derived.RangeFuncLeaves
import Derived.Shelf.Abstract
import Derived.Shelf.RegionOpen
import Derived.WalkKit
import Derived.OwnWalkIn
import Derived.TacticsInMore
import Derived.LoopNIn
import Derived.LoopIn
import Derived.Test.YtcmdcgghpkcchaaGreatDoorKMastZc
namespace Go.Proofs.YtcmdcgghpkcchaaGreatDoor.XMast
open Go.RowKit Go.Proofs.YtcmdcgghpkcchaaGreatDoorW.PrintWords Go.Proofs.YtcmdcgghpkcchaaGreatDoorW.PrintLast Go.Proofs.YtcmdcgghpkcchaaGreatDoorW.PrintMore
attribute [local go_sem] max2_int min2_int max_two min_two max_three min_three max_four min_four   -- for this text's walks alone
set_option linter.unusedVariables false
set_option linter.unusedSimpArgs false
/-! ### mast_Near: function 20 -/
def mast_Near.j0 : Nat → List (S38) → Int → Bool → Option (Int × Int)
 | 0, _, _, _ => none
 | k + 1, x0, x1, x11 => if x11 = true then (some (0, 2)) else (if (x0.length : Int) = 0 then (some (0, 5)) else ((mast_has.f x0 x1).bind fun t126 => (if t126 = true then (some (x1, 0)) else ((mast_find.f x0 x1).bind fun t127 => (if t127 = 0 then (if 0 < (x0.length : Int) then (some ((rd_T38 x0 0).f0, 0)) else (none)) else (if t127 = (x0.length : Int) then (if 0 ≤ (wrap64 (t127 - 1)) then (if (wrap64 (t127 - 1)) < (x0.length : Int) then (some (wrap64 (((rd_T38 x0 (wrap64 (t127 - 1))).f1) - 1), 0)) else (none)) else (none)) else (if 0 ≤ (wrap64 (t127 - 1)) then (if (wrap64 (t127 - 1)) < (x0.length : Int) then (if 0 ≤ t127 then (if t127 < (x0.length : Int) then (if (wrap64 (x1 - (wrap64 (((rd_T38 x0 (wrap64 (t127 - 1))).f1) - 1)))) ≤ (wrap64 (((rd_T38 x0 t127).f0) - x1)) then (some (wrap64 (((rd_T38 x0 (wrap64 (t127 - 1))).f1) - 1), 0)) else (some ((rd_T38 x0 t127).f0, 0))) else (none)) else (none)) else (none)) else (none))))))))
def mast_Near.f (k : Nat) (l0 : List (S38)) (a1 : Int) : Option (Int × Int) := (mast_Valid.f k l0).bind fun t125 => (if t125 = true then (if a1 < 0 then (mast_Near.j0 k l0 a1 true) else (mast_Near.j0 k l0 a1 (decide (a1 ≥ 100000)))) else (some (0, 10)))
theorem mast_Near.mono_l : ∀ k, (∀ y0 y1 y2, LeO (mast_Near.j0 k y0 y1 y2) (mast_Near.j0 (k + 1) y0 y1 y2))
 | 0 => fun _ _ _ r h => by simp [mast_Near.j0] at h
 | k + 1 => by
  have ih0 := mast_Near.mono_l k
  ·
   intro y0 y1 y2
   unfold mast_Near.j0
   repeat' first
   | (with_reducible exact ih0 _ _ _)
   | (with_reducible exact mast_Valid.mono _ _)
   | (with_reducible exact LeO.refl _)
   | (with_reducible exact LeO.none _)
   | (with_reducible refine LeO.ite ?_ ?_)
   | (with_reducible refine LeO.bind ?_ (fun _ => ?_))
   | exact ih0 _ _ _
   | exact mast_Valid.mono _ _
   | exact LeO.none _
   | refine LeO.ite ?_ ?_
   | refine LeO.bind ?_ (fun _ => ?_)
theorem mast_Near.mono : ∀ a0 a1 k, LeO (mast_Near.f k a0 a1) (mast_Near.f (k + 1) a0 a1) := by
 intro a0 a1 k
 have ih0 := mast_Near.mono_l k
 unfold mast_Near.f
 repeat' first
   | (with_reducible exact ih0 _ _ _)
   | (with_reducible exact mast_Valid.mono _ _)
   | (with_reducible exact LeO.refl _)
   | (with_reducible exact LeO.none _)
   | (with_reducible refine LeO.ite ?_ ?_)
   | (with_reducible refine LeO.bind ?_ (fun _ => ?_))
   | exact ih0 _ _ _
   | exact mast_Valid.mono _ _
   | exact LeO.none _
   | refine LeO.ite ?_ ?_
   | refine LeO.bind ?_ (fun _ => ?_)
set_option maxHeartbeats 8000000 in
set_option maxRecDepth 100000 in
theorem mast_Near.calls (k : Nat) (A0 : Option Addr) (c0 : Nat) (l0 : List (S38)) (a1 : Int) (r1 : Int) (r2 : Int) (w : World) (hr0 : Kd.C k38 w A0 l0.length l0) (hc0 : l0.length ≤ c0) (h : mast_Near.f k l0 a1 = some (r1, r2)) :
  Calls Tryz.prog 20 #[.slice A0 l0.length c0, .int .i64 a1] w fun e w' => e = .returned (.tuple #[.int .i64 r1, .int .i64 r2]) ∧ Below w.heap.size w w' := by
 have HR0 := Aside0.mk hr0
 have HC0 := Aside0.mk hc0
 clear hr0 hc0
 have HB := Aside0.mk (Below.refl w.heap.size w)
 have H : ((mast_Valid.f k l0).bind fun t125 => (if t125 = true then (if a1 < 0 then (mast_Near.j0 k l0 a1 true) else (mast_Near.j0 k l0 a1 (decide (a1 ≥ 100000)))) else (some (0, 10)))) = some (r1, r2) := h
 clear h
 replace H := Option.bind_eq_some_iff.mp H
 obtain ⟨t125, A30, H⟩ := H
 try dsimp only at H
 have A3 := Aside0.mk A30
 clear A30
 by_cases c4 : t125 = true
 ·
  subst c4
  rw [if_pos rfl] at H
  have HC5 := Aside0.mk H
  clear H
  go_enter Tryz.func20, Tryz.ntmps20
  go_upto_region 3 with (first | (go_at_call 14; (with_reducible refine (mast_Valid.calls k _ _ l0 true _ ?side1 HC0.out A3.out).mono ?_); (case side1 => repeat (first | exact HR0.out | (with_reducible refine Kd.C_alloc ?_ _) | (with_reducible refine Kd.C_drewN ?_ _) | (with_reducible refine Kd.C_drew ?_))); rintro e w6 ⟨rfl, hb⟩; replace HB := Aside0.mk (below_step bel hb); clear hb))
  repeat (go_quiet (first | (go_at_call 14; (with_reducible refine (mast_Valid.calls k _ _ l0 true _ ?side1 HC0.out A3.out).mono ?_); (case side1 => repeat (first | exact HR0.out | (with_reducible refine Kd.C_alloc ?_ _) | (with_reducible refine Kd.C_drewN ?_ _) | (with_reducible refine Kd.C_drew ?_))); rintro e w6 ⟨rfl, hb⟩; replace HB := Aside0.mk (below_step bel hb); clear hb)); go_upto_region 3 with (first | (go_at_call 14; (with_reducible refine (mast_Valid.calls k _ _ l0 true _ ?side1 HC0.out A3.out).mono ?_); (case side1 => repeat (first | exact HR0.out | (with_reducible refine Kd.C_alloc ?_ _) | (with_reducible refine Kd.C_drewN ?_ _) | (with_reducible refine Kd.C_drew ?_))); rintro e w6 ⟨rfl, hb⟩; replace HB := Aside0.mk (below_step bel hb); clear hb)))
  (try simp only [Act.put, List.setIfInBounds_toArray, List.set_cons_zero, List.set_cons_succ])
  go_cut [11] (fun v11 wc => ∃ (kq : Nat) (x11_4 : Bool), v11 = .bool x11_4 ∧ Aside0 (mast_Near.j0 kq l0 a1 x11_4 = some (r1, r2)) ∧ Aside0 (kq ≤ k) ∧ Aside0 (Below w.heap.size w wc))
  case first =>
   have H := HC5.out
   clear HC5
   by_cases c7 : a1 < 0
   ·
    rw [if_pos c7] at H
    have c7b0 : decide (a1 < 0) = true := decide_eq_true c7
    clear c7
    (first | rw [c7b0] | (simp only [i64_w, i32_w]; rw [c7b0]) | skip)
    have H' := Aside0.mk H
    clear H
    go_wp2
    repeat (go_quiet (fail); try go_wp2)
    go_meet
    case rel => exact ⟨_, (true), rsz, H', ⟨by first | omega | exact Nat.le_refl _⟩, ⟨bel⟩⟩
   ·
    rw [if_neg c7] at H
    have c7b0 : decide (a1 < 0) = false := decide_eq_false c7
    clear c7
    (first | rw [c7b0] | (simp only [i64_w, i32_w]; rw [c7b0]) | skip)
    have H' := Aside0.mk H
    clear H
    go_wp2
    repeat (go_quiet (fail); try go_wp2)
    go_meet
    case rel => exact ⟨_, (decide (a1 ≥ 100000)), rsz, H', ⟨by first | omega | exact Nat.le_refl _⟩, ⟨bel⟩⟩
  case rest =>
   clear HC5
   (try clear c2); (try clear p2); (try clear c4); (try clear c7); (try clear c7b0)
   obtain ⟨kq, x11_4, rfl, HA, HJ4, HB⟩ := hcut
   cases kq with
   | zero => exact absurd HA.out (by simp [mast_Near.j0])
   | succ kj4 =>
    have H := HA.out
    clear HA
    simp only [mast_Near.j0] at H
    by_cases c8 : x11_4 = true
    ·
     subst c8
     rw [if_pos rfl] at H
     simp only [Option.some.injEq, Prod.mk.injEq] at H
     obtain ⟨rfl, rfl⟩ := H
     go_wp2
     repeat (go_quiet (fail); try go_wp2)
     go_ret2
     exact ⟨ezz, bel⟩
    ·
     replace c8 := Bool.eq_false_iff.mpr c8
     subst c8
     rw [if_neg (show ¬ (false = true) by decide)] at H
     by_cases c9 : (l0.length : Int) = 0
     ·
      rw [if_pos c9] at H
      have c9b0 : ((l0.length : Int) == 0) = true := beq_iff_eq.mpr c9
      have c9b1 : ((l0.length : Int) != 0) = false := bne_eq_false_iff_eq.mpr c9
      clear c9
      simp only [Option.some.injEq, Prod.mk.injEq] at H
      obtain ⟨rfl, rfl⟩ := H
      go_wp2
      repeat (go_quiet (fail); try go_wp2)
      go_ret2
      exact ⟨ezz, bel⟩
     ·
      rw [if_neg c9] at H
      have c9b0 : ((l0.length : Int) == 0) = false := beq_eq_false_iff_ne.mpr c9
      have c9b1 : ((l0.length : Int) != 0) = true := bne_iff_ne.mpr c9
      have c9b2 : ¬ (l0 = []) := fun h_ => c9 (by rw [h_]; rfl)
      replace H := Option.bind_eq_some_iff.mp H
      obtain ⟨t126, A100, H⟩ := H
      try dsimp only at H
      have A10 := Aside0.mk A100
      clear A100
      by_cases c11 : t126 = true
      ·
       subst c11
       rw [if_pos rfl] at H
       simp only [Option.some.injEq, Prod.mk.injEq] at H
       obtain ⟨rfl, rfl⟩ := H
       go_wp2_with (first | (go_at_call 33; (with_reducible refine (mast_has.calls _ _ l0 a1 true _ (cbz HR0) HC0.out A10.out).mono ?_); rintro e w12 ⟨rfl, hb⟩; replace HB := Aside0.mk (below_step bel hb); clear hb))
       repeat (go_quiet (first | (go_at_call 33; (with_reducible refine (mast_has.calls _ _ l0 a1 true _ (cbz HR0) HC0.out A10.out).mono ?_); rintro e w12 ⟨rfl, hb⟩; replace HB := Aside0.mk (below_step bel hb); clear hb)); try go_wp2_with (first | (go_at_call 33; (with_reducible refine (mast_has.calls _ _ l0 a1 true _ (cbz HR0) HC0.out A10.out).mono ?_); rintro e w12 ⟨rfl, hb⟩; replace HB := Aside0.mk (below_step bel hb); clear hb)))
       go_ret2
       exact ⟨ezz, bel⟩
      ·
       replace c11 := Bool.eq_false_iff.mpr c11
       subst c11
       rw [if_neg (show ¬ (false = true) by decide)] at H
       replace H := Option.bind_eq_some_iff.mp H
       obtain ⟨t127, A130, H⟩ := H
       try dsimp only at H
       have A13 := Aside0.mk A130
       clear A130
       by_cases c14 : t127 = 0
       ·
        rw [if_pos c14] at H
        have c14b0 : (t127 == 0) = true := beq_iff_eq.mpr c14
        have c14b1 : (t127 != 0) = false := bne_eq_false_iff_eq.mpr c14
        clear c14
        by_cases c15 : 0 < (l0.length : Int)
        ·
         rw [if_pos c15] at H
         have c15b0 : decide (0 < (l0.length : Int)) = true := decide_eq_true c15
         have c15b1 : decide (0 < l0.length) = true := decide_eq_true (by omega)
         clear c15
         simp only [Option.some.injEq, Prod.mk.injEq] at H
         obtain ⟨rfl, rfl⟩ := H
         go_wp2_with (first | (go_at_call 33; (with_reducible refine (mast_has.calls _ _ l0 a1 false _ (cbz HR0) HC0.out A10.out).mono ?_); rintro e w16 ⟨rfl, hb⟩; replace HB := Aside0.mk (below_step bel hb); clear hb) | (go_at_call 34; (with_reducible refine (mast_find.calls _ _ l0 a1 t127 _ (cbz HR0) HC0.out A13.out).mono ?_); rintro e w17 ⟨rfl, hb⟩; replace HB := Aside0.mk (below_step bel hb); clear hb; have p128 : 0 ≤ (0 : Int) := (by omega); have q128 : 0 < (l0.length : Int) := of_decide_eq_true asz; obtain ⟨ad128, e128, hx128_0, hx128_1⟩ := at_T38 HR0.out 0 p128 q128; cases e128; have qi128 : (0 < l0.length) = True := eq_true (by omega); (try rw [show ((0 : Int)).toNat = 0 from rfl] at hx128_0); (try rw [show 0 * 2 = 0 from rfl] at hx128_0); (try rw [Addr.add_zero'] at hx128_0); (try rw [show ((0 : Int)).toNat = 0 from rfl] at hx128_1); (try rw [show 0 * 2 = 0 from rfl] at hx128_1); (try rw [Addr.add_zero'] at hx128_1); replace hx128_0 := (HB.out.cell (World.block_lt_of_cell? w _ hx128_0)).trans hx128_0; replace hx128_1 := (HB.out.cell (World.block_lt_of_cell? w _ hx128_1)).trans hx128_1; replace p128 := eq_true p128; replace q128 := eq_true q128))
         repeat (go_quiet (first | (go_at_call 33; (with_reducible refine (mast_has.calls _ _ l0 a1 false _ (cbz HR0) HC0.out A10.out).mono ?_); rintro e w16 ⟨rfl, hb⟩; replace HB := Aside0.mk (below_step bel hb); clear hb) | (go_at_call 34; (with_reducible refine (mast_find.calls _ _ l0 a1 t127 _ (cbz HR0) HC0.out A13.out).mono ?_); rintro e w17 ⟨rfl, hb⟩; replace HB := Aside0.mk (below_step bel hb); clear hb; have p128 : 0 ≤ (0 : Int) := (by omega); have q128 : 0 < (l0.length : Int) := of_decide_eq_true asz; obtain ⟨ad128, e128, hx128_0, hx128_1⟩ := at_T38 HR0.out 0 p128 q128; cases e128; have qi128 : (0 < l0.length) = True := eq_true (by omega); (try rw [show ((0 : Int)).toNat = 0 from rfl] at hx128_0); (try rw [show 0 * 2 = 0 from rfl] at hx128_0); (try rw [Addr.add_zero'] at hx128_0); (try rw [show ((0 : Int)).toNat = 0 from rfl] at hx128_1); (try rw [show 0 * 2 = 0 from rfl] at hx128_1); (try rw [Addr.add_zero'] at hx128_1); replace hx128_0 := (HB.out.cell (World.block_lt_of_cell? w _ hx128_0)).trans hx128_0; replace hx128_1 := (HB.out.cell (World.block_lt_of_cell? w _ hx128_1)).trans hx128_1; replace p128 := eq_true p128; replace q128 := eq_true q128)); try go_wp2_with (first | (go_at_call 33; (with_reducible refine (mast_has.calls _ _ l0 a1 false _ (cbz HR0) HC0.out A10.out).mono ?_); rintro e w16 ⟨rfl, hb⟩; replace HB := Aside0.mk (below_step bel hb); clear hb) | (go_at_call 34; (with_reducible refine (mast_find.calls _ _ l0 a1 t127 _ (cbz HR0) HC0.out A13.out).mono ?_); rintro e w17 ⟨rfl, hb⟩; replace HB := Aside0.mk (below_step bel hb); clear hb; have p128 : 0 ≤ (0 : Int) := (by omega); have q128 : 0 < (l0.length : Int) := of_decide_eq_true asz; obtain ⟨ad128, e128, hx128_0, hx128_1⟩ := at_T38 HR0.out 0 p128 q128; cases e128; have qi128 : (0 < l0.length) = True := eq_true (by omega); (try rw [show ((0 : Int)).toNat = 0 from rfl] at hx128_0); (try rw [show 0 * 2 = 0 from rfl] at hx128_0); (try rw [Addr.add_zero'] at hx128_0); (try rw [show ((0 : Int)).toNat = 0 from rfl] at hx128_1); (try rw [show 0 * 2 = 0 from rfl] at hx128_1); (try rw [Addr.add_zero'] at hx128_1); replace hx128_0 := (HB.out.cell (World.block_lt_of_cell? w _ hx128_0)).trans hx128_0; replace hx128_1 := (HB.out.cell (World.block_lt_of_cell? w _ hx128_1)).trans hx128_1; replace p128 := eq_true p128; replace q128 := eq_true q128)))
         go_ret2
         exact ⟨ezz, bel⟩
        ·
         rw [if_neg c15] at H
         exact absurd H (by simp)
       ·
        rw [if_neg c14] at H
        have c14b0 : (t127 == 0) = false := beq_eq_false_iff_ne.mpr c14
        have c14b1 : (t127 != 0) = true := bne_iff_ne.mpr c14
        by_cases c18 : t127 = (l0.length : Int)
        ·
         rw [if_pos c18] at H
         have c18b0 : (t127 == (l0.length : Int)) = true := beq_iff_eq.mpr c18
         have c18b1 : (t127 != (l0.length : Int)) = false := bne_eq_false_iff_eq.mpr c18
         clear c18
         obtain ⟨ji19, hji19⟩ : ∃ j_ : Int, (wrap64 (t127 - 1)) = j_ := ⟨_, rfl⟩
         replace H : (if 0 ≤ (ji19) then (if (ji19) < (l0.length : Int) then (some (wrap64 (((rd_T38 l0 (ji19)).f1) - 1), 0)) else (none)) else (none)) = some (r1, r2) := by first | (rw [hji19] at H; exact H) | (simp only [hji19] at H ⊢; exact H)
         (try rw [hji19] at A10)
         (try rw [hji19] at A13)
         have hji19w : (IntKind.i64.wrap (t127 - 1)) = ji19 := (i64_w _).trans hji19
         by_cases c20 : 0 ≤ (ji19)
         ·
          rw [if_pos c20] at H
          have c20b0 : decide (0 ≤ (ji19)) = true := decide_eq_true c20
          clear c20
          by_cases c21 : (ji19) < (l0.length : Int)
          ·
           rw [if_pos c21] at H
           have c21b0 : decide ((ji19) < (l0.length : Int)) = true := decide_eq_true c21
           clear c21
           simp only [Option.some.injEq, Prod.mk.injEq] at H
           obtain ⟨rfl, rfl⟩ := H
           go_wp2_with (first | (go_at_call 33; (with_reducible refine (mast_has.calls _ _ l0 a1 false _ (cbz HR0) HC0.out A10.out).mono ?_); rintro e w22 ⟨rfl, hb⟩; replace HB := Aside0.mk (below_step bel hb); clear hb) | (go_at_call 34; (with_reducible refine (mast_find.calls _ _ l0 a1 t127 _ (cbz HR0) HC0.out A13.out).mono ?_); rintro e w23 ⟨rfl, hb⟩; replace HB := Aside0.mk (below_step bel hb); clear hb; have p129 : 0 ≤ ((ji19) : Int) := of_decide_eq_true asz; have q129 : (ji19) < (l0.length : Int) := of_decide_eq_true asz; obtain ⟨ad129, e129, hx129_0, hx129_1⟩ := at_T38 HR0.out (ji19) p129 q129; cases e129; replace hx129_0 := (HB.out.cell (World.block_lt_of_cell? w _ hx129_0)).trans hx129_0; replace hx129_1 := (HB.out.cell (World.block_lt_of_cell? w _ hx129_1)).trans hx129_1; replace p129 := eq_true p129; replace q129 := eq_true q129))
           repeat (go_quiet (first | (go_at_call 33; (with_reducible refine (mast_has.calls _ _ l0 a1 false _ (cbz HR0) HC0.out A10.out).mono ?_); rintro e w22 ⟨rfl, hb⟩; replace HB := Aside0.mk (below_step bel hb); clear hb) | (go_at_call 34; (with_reducible refine (mast_find.calls _ _ l0 a1 t127 _ (cbz HR0) HC0.out A13.out).mono ?_); rintro e w23 ⟨rfl, hb⟩; replace HB := Aside0.mk (below_step bel hb); clear hb; have p129 : 0 ≤ ((ji19) : Int) := of_decide_eq_true asz; have q129 : (ji19) < (l0.length : Int) := of_decide_eq_true asz; obtain ⟨ad129, e129, hx129_0, hx129_1⟩ := at_T38 HR0.out (ji19) p129 q129; cases e129; replace hx129_0 := (HB.out.cell (World.block_lt_of_cell? w _ hx129_0)).trans hx129_0; replace hx129_1 := (HB.out.cell (World.block_lt_of_cell? w _ hx129_1)).trans hx129_1; replace p129 := eq_true p129; replace q129 := eq_true q129)); try go_wp2_with (first | (go_at_call 33; (with_reducible refine (mast_has.calls _ _ l0 a1 false _ (cbz HR0) HC0.out A10.out).mono ?_); rintro e w22 ⟨rfl, hb⟩; replace HB := Aside0.mk (below_step bel hb); clear hb) | (go_at_call 34; (with_reducible refine (mast_find.calls _ _ l0 a1 t127 _ (cbz HR0) HC0.out A13.out).mono ?_); rintro e w23 ⟨rfl, hb⟩; replace HB := Aside0.mk (below_step bel hb); clear hb; have p129 : 0 ≤ ((ji19) : Int) := of_decide_eq_true asz; have q129 : (ji19) < (l0.length : Int) := of_decide_eq_true asz; obtain ⟨ad129, e129, hx129_0, hx129_1⟩ := at_T38 HR0.out (ji19) p129 q129; cases e129; replace hx129_0 := (HB.out.cell (World.block_lt_of_cell? w _ hx129_0)).trans hx129_0; replace hx129_1 := (HB.out.cell (World.block_lt_of_cell? w _ hx129_1)).trans hx129_1; replace p129 := eq_true p129; replace q129 := eq_true q129)))
           go_ret2
           exact ⟨by first | rfl | (simp [errW_none, errW_some] <;> rfl) | (simp only [← hji19]; first | rfl | (simp [errW_none, errW_some] <;> rfl)) | (simp [*, errW_none, errW_some] <;> rfl), bel⟩
          ·
           rw [if_neg c21] at H
           exact absurd H (by simp)
         ·
          rw [if_neg c20] at H
          exact absurd H (by simp)
        ·
         rw [if_neg c18] at H
         have c18b0 : (t127 == (l0.length : Int)) = false := beq_eq_false_iff_ne.mpr c18
         have c18b1 : (t127 != (l0.length : Int)) = true := bne_iff_ne.mpr c18
         obtain ⟨ji24, hji24⟩ : ∃ j_ : Int, (wrap64 (t127 - 1)) = j_ := ⟨_, rfl⟩
         replace H : (if 0 ≤ (ji24) then (if (ji24) < (l0.length : Int) then (if 0 ≤ t127 then (if t127 < (l0.length : Int) then (if (wrap64 (a1 - (wrap64 (((rd_T38 l0 (ji24)).f1) - 1)))) ≤ (wrap64 (((rd_T38 l0 t127).f0) - a1)) then (some (wrap64 (((rd_T38 l0 (ji24)).f1) - 1), 0)) else (some ((rd_T38 l0 t127).f0, 0))) else (none)) else (none)) else (none)) else (none)) = some (r1, r2) := by first | (rw [hji24] at H; exact H) | (simp only [hji24] at H ⊢; exact H)
         (try rw [hji24] at A10)
         (try rw [hji24] at A13)
         have hji24w : (IntKind.i64.wrap (t127 - 1)) = ji24 := (i64_w _).trans hji24
         by_cases c25 : 0 ≤ (ji24)
         ·
          rw [if_pos c25] at H
          have c25b0 : decide (0 ≤ (ji24)) = true := decide_eq_true c25
          clear c25
          by_cases c26 : (ji24) < (l0.length : Int)
          ·
           rw [if_pos c26] at H
           have c26b0 : decide ((ji24) < (l0.length : Int)) = true := decide_eq_true c26
           clear c26
           by_cases c27 : 0 ≤ t127
           ·
            rw [if_pos c27] at H
            have c27b0 : decide (0 ≤ t127) = true := decide_eq_true c27
            clear c27
            by_cases c28 : t127 < (l0.length : Int)
            ·
             rw [if_pos c28] at H
             have c28b0 : decide (t127 < (l0.length : Int)) = true := decide_eq_true c28
             clear c28
             by_cases c29 : (wrap64 (a1 - (wrap64 (((rd_T38 l0 (ji24)).f1) - 1)))) ≤ (wrap64 (((rd_T38 l0 t127).f0) - a1))
             ·
              rw [if_pos c29] at H
              have c29b0 : decide ((wrap64 (a1 - (wrap64 (((rd_T38 l0 (ji24)).f1) - 1)))) ≤ (wrap64 (((rd_T38 l0 t127).f0) - a1))) = true := decide_eq_true c29
              clear c29
              simp only [Option.some.injEq, Prod.mk.injEq] at H
              obtain ⟨rfl, rfl⟩ := H
              go_wp2_with (first | (go_at_call 33; (with_reducible refine (mast_has.calls _ _ l0 a1 false _ (cbz HR0) HC0.out A10.out).mono ?_); rintro e w30 ⟨rfl, hb⟩; replace HB := Aside0.mk (below_step bel hb); clear hb) | (go_at_call 34; (with_reducible refine (mast_find.calls _ _ l0 a1 t127 _ (cbz HR0) HC0.out A13.out).mono ?_); rintro e w31 ⟨rfl, hb⟩; replace HB := Aside0.mk (below_step bel hb); clear hb; have p130 : 0 ≤ ((ji24) : Int) := of_decide_eq_true asz; have q130 : (ji24) < (l0.length : Int) := of_decide_eq_true asz; obtain ⟨ad130, e130, hx130_0, hx130_1⟩ := at_T38 HR0.out (ji24) p130 q130; cases e130; replace hx130_0 := (HB.out.cell (World.block_lt_of_cell? w _ hx130_0)).trans hx130_0; replace hx130_1 := (HB.out.cell (World.block_lt_of_cell? w _ hx130_1)).trans hx130_1; replace p130 := eq_true p130; replace q130 := eq_true q130; have p131 : 0 ≤ (t127 : Int) := of_decide_eq_true asz; have q131 : t127 < (l0.length : Int) := of_decide_eq_true asz; obtain ⟨ad131, e131, hx131_0, hx131_1⟩ := at_T38 HR0.out t127 p131 q131; obtain rfl : ad130 = ad131 := (by injection e131); replace hx131_0 := (HB.out.cell (World.block_lt_of_cell? w _ hx131_0)).trans hx131_0; replace hx131_1 := (HB.out.cell (World.block_lt_of_cell? w _ hx131_1)).trans hx131_1; replace p131 := eq_true p131; replace q131 := eq_true q131; have p132 : 0 ≤ ((ji24) : Int) := of_decide_eq_true asz; have q132 : (ji24) < (l0.length : Int) := of_decide_eq_true asz; obtain ⟨ad132, e132, hx132_0, hx132_1⟩ := at_T38 HR0.out (ji24) p132 q132; obtain rfl : ad130 = ad132 := (by injection e132); replace hx132_0 := (HB.out.cell (World.block_lt_of_cell? w _ hx132_0)).trans hx132_0; replace hx132_1 := (HB.out.cell (World.block_lt_of_cell? w _ hx132_1)).trans hx132_1; replace p132 := eq_true p132; replace q132 := eq_true q132))
              repeat (go_quiet (first | (go_at_call 33; (with_reducible refine (mast_has.calls _ _ l0 a1 false _ (cbz HR0) HC0.out A10.out).mono ?_); rintro e w30 ⟨rfl, hb⟩; replace HB := Aside0.mk (below_step bel hb); clear hb) | (go_at_call 34; (with_reducible refine (mast_find.calls _ _ l0 a1 t127 _ (cbz HR0) HC0.out A13.out).mono ?_); rintro e w31 ⟨rfl, hb⟩; replace HB := Aside0.mk (below_step bel hb); clear hb; have p130 : 0 ≤ ((ji24) : Int) := of_decide_eq_true asz; have q130 : (ji24) < (l0.length : Int) := of_decide_eq_true asz; obtain ⟨ad130, e130, hx130_0, hx130_1⟩ := at_T38 HR0.out (ji24) p130 q130; cases e130; replace hx130_0 := (HB.out.cell (World.block_lt_of_cell? w _ hx130_0)).trans hx130_0; replace hx130_1 := (HB.out.cell (World.block_lt_of_cell? w _ hx130_1)).trans hx130_1; replace p130 := eq_true p130; replace q130 := eq_true q130; have p131 : 0 ≤ (t127 : Int) := of_decide_eq_true asz; have q131 : t127 < (l0.length : Int) := of_decide_eq_true asz; obtain ⟨ad131, e131, hx131_0, hx131_1⟩ := at_T38 HR0.out t127 p131 q131; obtain rfl : ad130 = ad131 := (by injection e131); replace hx131_0 := (HB.out.cell (World.block_lt_of_cell? w _ hx131_0)).trans hx131_0; replace hx131_1 := (HB.out.cell (World.block_lt_of_cell? w _ hx131_1)).trans hx131_1; replace p131 := eq_true p131; replace q131 := eq_true q131; have p132 : 0 ≤ ((ji24) : Int) := of_decide_eq_true asz; have q132 : (ji24) < (l0.length : Int) := of_decide_eq_true asz; obtain ⟨ad132, e132, hx132_0, hx132_1⟩ := at_T38 HR0.out (ji24) p132 q132; obtain rfl : ad130 = ad132 := (by injection e132); replace hx132_0 := (HB.out.cell (World.block_lt_of_cell? w _ hx132_0)).trans hx132_0; replace hx132_1 := (HB.out.cell (World.block_lt_of_cell? w _ hx132_1)).trans hx132_1; replace p132 := eq_true p132; replace q132 := eq_true q132)); try go_wp2_with (first | (go_at_call 33; (with_reducible refine (mast_has.calls _ _ l0 a1 false _ (cbz HR0) HC0.out A10.out).mono ?_); rintro e w30 ⟨rfl, hb⟩; replace HB := Aside0.mk (below_step bel hb); clear hb) | (go_at_call 34; (with_reducible refine (mast_find.calls _ _ l0 a1 t127 _ (cbz HR0) HC0.out A13.out).mono ?_); rintro e w31 ⟨rfl, hb⟩; replace HB := Aside0.mk (below_step bel hb); clear hb; have p130 : 0 ≤ ((ji24) : Int) := of_decide_eq_true asz; have q130 : (ji24) < (l0.length : Int) := of_decide_eq_true asz; obtain ⟨ad130, e130, hx130_0, hx130_1⟩ := at_T38 HR0.out (ji24) p130 q130; cases e130; replace hx130_0 := (HB.out.cell (World.block_lt_of_cell? w _ hx130_0)).trans hx130_0; replace hx130_1 := (HB.out.cell (World.block_lt_of_cell? w _ hx130_1)).trans hx130_1; replace p130 := eq_true p130; replace q130 := eq_true q130; have p131 : 0 ≤ (t127 : Int) := of_decide_eq_true asz; have q131 : t127 < (l0.length : Int) := of_decide_eq_true asz; obtain ⟨ad131, e131, hx131_0, hx131_1⟩ := at_T38 HR0.out t127 p131 q131; obtain rfl : ad130 = ad131 := (by injection e131); replace hx131_0 := (HB.out.cell (World.block_lt_of_cell? w _ hx131_0)).trans hx131_0; replace hx131_1 := (HB.out.cell (World.block_lt_of_cell? w _ hx131_1)).trans hx131_1; replace p131 := eq_true p131; replace q131 := eq_true q131; have p132 : 0 ≤ ((ji24) : Int) := of_decide_eq_true asz; have q132 : (ji24) < (l0.length : Int) := of_decide_eq_true asz; obtain ⟨ad132, e132, hx132_0, hx132_1⟩ := at_T38 HR0.out (ji24) p132 q132; obtain rfl : ad130 = ad132 := (by injection e132); replace hx132_0 := (HB.out.cell (World.block_lt_of_cell? w _ hx132_0)).trans hx132_0; replace hx132_1 := (HB.out.cell (World.block_lt_of_cell? w _ hx132_1)).trans hx132_1; replace p132 := eq_true p132; replace q132 := eq_true q132)))
              go_ret2
              exact ⟨by first | rfl | (simp [errW_none, errW_some] <;> rfl) | (simp only [← hji24]; first | rfl | (simp [errW_none, errW_some] <;> rfl)) | (simp [*, errW_none, errW_some] <;> rfl), bel⟩
             ·
              rw [if_neg c29] at H
              have c29b0 : decide ((wrap64 (a1 - (wrap64 (((rd_T38 l0 (ji24)).f1) - 1)))) ≤ (wrap64 (((rd_T38 l0 t127).f0) - a1))) = false := decide_eq_false c29
              clear c29
              simp only [Option.some.injEq, Prod.mk.injEq] at H
              obtain ⟨rfl, rfl⟩ := H
              go_wp2_with (first | (go_at_call 33; (with_reducible refine (mast_has.calls _ _ l0 a1 false _ (cbz HR0) HC0.out A10.out).mono ?_); rintro e w32 ⟨rfl, hb⟩; replace HB := Aside0.mk (below_step bel hb); clear hb) | (go_at_call 34; (with_reducible refine (mast_find.calls _ _ l0 a1 t127 _ (cbz HR0) HC0.out A13.out).mono ?_); rintro e w33 ⟨rfl, hb⟩; replace HB := Aside0.mk (below_step bel hb); clear hb; have p130 : 0 ≤ ((ji24) : Int) := of_decide_eq_true asz; have q130 : (ji24) < (l0.length : Int) := of_decide_eq_true asz; obtain ⟨ad130, e130, hx130_0, hx130_1⟩ := at_T38 HR0.out (ji24) p130 q130; cases e130; replace hx130_0 := (HB.out.cell (World.block_lt_of_cell? w _ hx130_0)).trans hx130_0; replace hx130_1 := (HB.out.cell (World.block_lt_of_cell? w _ hx130_1)).trans hx130_1; replace p130 := eq_true p130; replace q130 := eq_true q130; have p131 : 0 ≤ (t127 : Int) := of_decide_eq_true asz; have q131 : t127 < (l0.length : Int) := of_decide_eq_true asz; obtain ⟨ad131, e131, hx131_0, hx131_1⟩ := at_T38 HR0.out t127 p131 q131; obtain rfl : ad130 = ad131 := (by injection e131); replace hx131_0 := (HB.out.cell (World.block_lt_of_cell? w _ hx131_0)).trans hx131_0; replace hx131_1 := (HB.out.cell (World.block_lt_of_cell? w _ hx131_1)).trans hx131_1; replace p131 := eq_true p131; replace q131 := eq_true q131; have p133 : 0 ≤ (t127 : Int) := of_decide_eq_true asz; have q133 : t127 < (l0.length : Int) := of_decide_eq_true asz; obtain ⟨ad133, e133, hx133_0, hx133_1⟩ := at_T38 HR0.out t127 p133 q133; obtain rfl : ad130 = ad133 := (by injection e133); replace hx133_0 := (HB.out.cell (World.block_lt_of_cell? w _ hx133_0)).trans hx133_0; replace hx133_1 := (HB.out.cell (World.block_lt_of_cell? w _ hx133_1)).trans hx133_1; replace p133 := eq_true p133; replace q133 := eq_true q133))
              repeat (go_quiet (first | (go_at_call 33; (with_reducible refine (mast_has.calls _ _ l0 a1 false _ (cbz HR0) HC0.out A10.out).mono ?_); rintro e w32 ⟨rfl, hb⟩; replace HB := Aside0.mk (below_step bel hb); clear hb) | (go_at_call 34; (with_reducible refine (mast_find.calls _ _ l0 a1 t127 _ (cbz HR0) HC0.out A13.out).mono ?_); rintro e w33 ⟨rfl, hb⟩; replace HB := Aside0.mk (below_step bel hb); clear hb; have p130 : 0 ≤ ((ji24) : Int) := of_decide_eq_true asz; have q130 : (ji24) < (l0.length : Int) := of_decide_eq_true asz; obtain ⟨ad130, e130, hx130_0, hx130_1⟩ := at_T38 HR0.out (ji24) p130 q130; cases e130; replace hx130_0 := (HB.out.cell (World.block_lt_of_cell? w _ hx130_0)).trans hx130_0; replace hx130_1 := (HB.out.cell (World.block_lt_of_cell? w _ hx130_1)).trans hx130_1; replace p130 := eq_true p130; replace q130 := eq_true q130; have p131 : 0 ≤ (t127 : Int) := of_decide_eq_true asz; have q131 : t127 < (l0.length : Int) := of_decide_eq_true asz; obtain ⟨ad131, e131, hx131_0, hx131_1⟩ := at_T38 HR0.out t127 p131 q131; obtain rfl : ad130 = ad131 := (by injection e131); replace hx131_0 := (HB.out.cell (World.block_lt_of_cell? w _ hx131_0)).trans hx131_0; replace hx131_1 := (HB.out.cell (World.block_lt_of_cell? w _ hx131_1)).trans hx131_1; replace p131 := eq_true p131; replace q131 := eq_true q131; have p133 : 0 ≤ (t127 : Int) := of_decide_eq_true asz; have q133 : t127 < (l0.length : Int) := of_decide_eq_true asz; obtain ⟨ad133, e133, hx133_0, hx133_1⟩ := at_T38 HR0.out t127 p133 q133; obtain rfl : ad130 = ad133 := (by injection e133); replace hx133_0 := (HB.out.cell (World.block_lt_of_cell? w _ hx133_0)).trans hx133_0; replace hx133_1 := (HB.out.cell (World.block_lt_of_cell? w _ hx133_1)).trans hx133_1; replace p133 := eq_true p133; replace q133 := eq_true q133)); try go_wp2_with (first | (go_at_call 33; (with_reducible refine (mast_has.calls _ _ l0 a1 false _ (cbz HR0) HC0.out A10.out).mono ?_); rintro e w32 ⟨rfl, hb⟩; replace HB := Aside0.mk (below_step bel hb); clear hb) | (go_at_call 34; (with_reducible refine (mast_find.calls _ _ l0 a1 t127 _ (cbz HR0) HC0.out A13.out).mono ?_); rintro e w33 ⟨rfl, hb⟩; replace HB := Aside0.mk (below_step bel hb); clear hb; have p130 : 0 ≤ ((ji24) : Int) := of_decide_eq_true asz; have q130 : (ji24) < (l0.length : Int) := of_decide_eq_true asz; obtain ⟨ad130, e130, hx130_0, hx130_1⟩ := at_T38 HR0.out (ji24) p130 q130; cases e130; replace hx130_0 := (HB.out.cell (World.block_lt_of_cell? w _ hx130_0)).trans hx130_0; replace hx130_1 := (HB.out.cell (World.block_lt_of_cell? w _ hx130_1)).trans hx130_1; replace p130 := eq_true p130; replace q130 := eq_true q130; have p131 : 0 ≤ (t127 : Int) := of_decide_eq_true asz; have q131 : t127 < (l0.length : Int) := of_decide_eq_true asz; obtain ⟨ad131, e131, hx131_0, hx131_1⟩ := at_T38 HR0.out t127 p131 q131; obtain rfl : ad130 = ad131 := (by injection e131); replace hx131_0 := (HB.out.cell (World.block_lt_of_cell? w _ hx131_0)).trans hx131_0; replace hx131_1 := (HB.out.cell (World.block_lt_of_cell? w _ hx131_1)).trans hx131_1; replace p131 := eq_true p131; replace q131 := eq_true q131; have p133 : 0 ≤ (t127 : Int) := of_decide_eq_true asz; have q133 : t127 < (l0.length : Int) := of_decide_eq_true asz; obtain ⟨ad133, e133, hx133_0, hx133_1⟩ := at_T38 HR0.out t127 p133 q133; obtain rfl : ad130 = ad133 := (by injection e133); replace hx133_0 := (HB.out.cell (World.block_lt_of_cell? w _ hx133_0)).trans hx133_0; replace hx133_1 := (HB.out.cell (World.block_lt_of_cell? w _ hx133_1)).trans hx133_1; replace p133 := eq_true p133; replace q133 := eq_true q133)))
              go_ret2
              exact ⟨by first | rfl | (simp [errW_none, errW_some] <;> rfl) | (simp only [← hji24]; first | rfl | (simp [errW_none, errW_some] <;> rfl)) | (simp [*, errW_none, errW_some] <;> rfl), bel⟩
            ·
             rw [if_neg c28] at H
             exact absurd H (by simp)
           ·
            rw [if_neg c27] at H
            exact absurd H (by simp)
          ·
           rw [if_neg c26] at H
           exact absurd H (by simp)
         ·
          rw [if_neg c25] at H
          exact absurd H (by simp)
 ·
  replace c4 := Bool.eq_false_iff.mpr c4
  subst c4
  rw [if_neg (show ¬ (false = true) by decide)] at H
  simp only [Option.some.injEq, Prod.mk.injEq] at H
  obtain ⟨rfl, rfl⟩ := H
  go_enter Tryz.func20, Tryz.ntmps20
  go_wp2_with (first | (go_at_call 14; (with_reducible refine (mast_Valid.calls k _ _ l0 false _ ?side1 HC0.out A3.out).mono ?_); (case side1 => repeat (first | exact HR0.out | (with_reducible refine Kd.C_alloc ?_ _) | (with_reducible refine Kd.C_drewN ?_ _) | (with_reducible refine Kd.C_drew ?_))); rintro e w34 ⟨rfl, hb⟩; replace HB := Aside0.mk (below_step bel hb); clear hb))
  repeat (go_quiet (first | (go_at_call 14; (with_reducible refine (mast_Valid.calls k _ _ l0 false _ ?side1 HC0.out A3.out).mono ?_); (case side1 => repeat (first | exact HR0.out | (with_reducible refine Kd.C_alloc ?_ _) | (with_reducible refine Kd.C_drewN ?_ _) | (with_reducible refine Kd.C_drew ?_))); rintro e w34 ⟨rfl, hb⟩; replace HB := Aside0.mk (below_step bel hb); clear hb)); try go_wp2_with (first | (go_at_call 14; (with_reducible refine (mast_Valid.calls k _ _ l0 false _ ?side1 HC0.out A3.out).mono ?_); (case side1 => repeat (first | exact HR0.out | (with_reducible refine Kd.C_alloc ?_ _) | (with_reducible refine Kd.C_drewN ?_ _) | (with_reducible refine Kd.C_drew ?_))); rintro e w34 ⟨rfl, hb⟩; replace HB := Aside0.mk (below_step bel hb); clear hb)))
  go_ret2
  exact ⟨ezz, bel⟩

/-! ### dropperlaw01_First: function 6 -/
def dropperlaw01_First.f (k : Nat)  : Option (Bool) := (mast_FormatAt.f 12345).bind fun bt134 => ((mast_Clean.f (([(⟨5, 9⟩ : S38), (⟨0, 5⟩ : S38), (⟨20, 30⟩ : S38)] : List (S38)))).bind fun bt139 => ((mast_Format.f k bt139.1).bind fun bt143 => ((mast_Near.f k bt139.1 15).bind fun bt145 => (if bt134.2 = 0 then (if bt139.2 = 0 then (if bt143.2 = 0 then (if bt145.2 = 0 then (if bt134.1.toList = ([49, 50, 43, 51, 52, 53] : List UInt8) then (if bt143.1.toList = ([48, 43, 48, 48, 48, 45, 48, 43, 48, 48, 57, 32, 48, 43, 48, 50, 48, 45, 48, 43, 48, 51, 48] : List UInt8) then (some (bt145.1 == 20)) else (some false)) else (some false)) else (some false)) else (some false)) else (some false)) else (some false)))))
set_option maxHeartbeats 8000000 in
set_option maxRecDepth 100000 in
theorem dropperlaw01_First.calls (k : Nat)  (r : Bool) (w : World) (hT : Tab.Tabs w) (h : dropperlaw01_First.f k  = some r) :
  Calls Tryz.prog 6 #[] w fun e w' => e = .returned (.bool r) ∧ Below w.heap.size w w' := by
 have HT := Aside0.mk hT
 clear hT
 have hu38 := Tryz.underlying38
 have HB := Aside0.mk (Below.refl w.heap.size w)
 have H : ((mast_FormatAt.f 12345).bind fun bt134 => ((mast_Clean.f (([(⟨5, 9⟩ : S38), (⟨0, 5⟩ : S38), (⟨20, 30⟩ : S38)] : List (S38)))).bind fun bt139 => ((mast_Format.f k bt139.1).bind fun bt143 => ((mast_Near.f k bt139.1 15).bind fun bt145 => (if bt134.2 = 0 then (if bt139.2 = 0 then (if bt143.2 = 0 then (if bt145.2 = 0 then (if bt134.1.toList = ([49, 50, 43, 51, 52, 53] : List UInt8) then (if bt143.1.toList = ([48, 43, 48, 48, 48, 45, 48, 43, 48, 48, 57, 32, 48, 43, 48, 50, 48, 45, 48, 43, 48, 51, 48] : List UInt8) then (some (bt145.1 == 20)) else (some false)) else (some false)) else (some false)) else (some false)) else (some false)) else (some false)))))) = some r := h
 clear h
 replace H := Option.bind_eq_some_iff.mp H
 obtain ⟨⟨t134, t135⟩, A10, H⟩ := H
 try dsimp only at H
 have A1 := Aside0.mk A10
 clear A10
 obtain ⟨y136, hy136⟩ : ∃ y_ : List (S38), y_ = (([(⟨5, 9⟩ : S38), (⟨0, 5⟩ : S38), (⟨20, 30⟩ : S38)] : List (S38))) := ⟨_, rfl⟩
 replace H : ((mast_Clean.f y136).bind fun bt139 => ((mast_Format.f k bt139.1).bind fun bt143 => ((mast_Near.f k bt139.1 15).bind fun bt145 => (if t135 = 0 then (if bt139.2 = 0 then (if bt143.2 = 0 then (if bt145.2 = 0 then (if t134.toList = ([49, 50, 43, 51, 52, 53] : List UInt8) then (if bt143.1.toList = ([48, 43, 48, 48, 48, 45, 48, 43, 48, 48, 57, 32, 48, 43, 48, 50, 48, 45, 48, 43, 48, 51, 48] : List UInt8) then (some (bt145.1 == 20)) else (some false)) else (some false)) else (some false)) else (some false)) else (some false)) else (some false))))) = some r := by first | (rw [hy136]; with_reducible exact H) | (have H2_ := (Option.bind_some _ _).symm.trans H; rw [hy136]; with_reducible exact H2_) | (have H2_ := (Option.bind_some _ _).symm.trans H; with_reducible exact H2_) | with_reducible exact H | (rw [hy136]; exact H) | exact H
 have Ny136 := Aside0.mk hy136
 clear hy136
 replace H := Option.bind_eq_some_iff.mp H
 obtain ⟨⟨t139, t140⟩, A20, H⟩ := H
 try dsimp only at H
 have A2 := Aside0.mk A20
 clear A20
 replace H := Option.bind_eq_some_iff.mp H
 obtain ⟨⟨t143, t144⟩, A30, H⟩ := H
 try dsimp only at H
 have A3 := Aside0.mk A30
 clear A30
 replace H := Option.bind_eq_some_iff.mp H
 obtain ⟨⟨t145, t146⟩, A40, H⟩ := H
 try dsimp only at H
 have A4 := Aside0.mk A40
 clear A40
 by_cases c5 : t135 = 0
 ·
  rw [if_pos c5] at H
  have c5b0 : (t135 == 0) = true := beq_iff_eq.mpr c5
  have c5b1 : (t135 != 0) = false := bne_eq_false_iff_eq.mpr c5
  clear c5
  by_cases c6 : t140 = 0
  ·
   rw [if_pos c6] at H
   have c6b0 : (t140 == 0) = true := beq_iff_eq.mpr c6
   have c6b1 : (t140 != 0) = false := bne_eq_false_iff_eq.mpr c6
   clear c6
   by_cases c7 : t144 = 0
   ·
    rw [if_pos c7] at H
    have c7b0 : (t144 == 0) = true := beq_iff_eq.mpr c7
    have c7b1 : (t144 != 0) = false := bne_eq_false_iff_eq.mpr c7
    clear c7
    by_cases c8 : t146 = 0
    ·
     rw [if_pos c8] at H
     have c8b0 : (t146 == 0) = true := beq_iff_eq.mpr c8
     have c8b1 : (t146 != 0) = false := bne_eq_false_iff_eq.mpr c8
     clear c8
     by_cases c9 : t134.toList = ([49, 50, 43, 51, 52, 53] : List UInt8)
     ·
      rw [if_pos c9] at H
      have c9b0 : (t134.toList == ([49, 50, 43, 51, 52, 53] : List UInt8)) = true := beq_iff_eq.mpr c9
      have c9b1 : (t134.toList != ([49, 50, 43, 51, 52, 53] : List UInt8)) = false := bne_eq_false_iff_eq.mpr c9
      clear c9
      by_cases c10 : t143.toList = ([48, 43, 48, 48, 48, 45, 48, 43, 48, 48, 57, 32, 48, 43, 48, 50, 48, 45, 48, 43, 48, 51, 48] : List UInt8)
      ·
       rw [if_pos c10] at H
       have c10b0 : (t143.toList == ([48, 43, 48, 48, 48, 45, 48, 43, 48, 48, 57, 32, 48, 43, 48, 50, 48, 45, 48, 43, 48, 51, 48] : List UInt8)) = true := beq_iff_eq.mpr c10
       have c10b1 : (t143.toList != ([48, 43, 48, 48, 48, 45, 48, 43, 48, 48, 57, 32, 48, 43, 48, 50, 48, 45, 48, 43, 48, 51, 48] : List UInt8)) = false := bne_eq_false_iff_eq.mpr c10
       clear c10
       obtain rfl := Option.some.inj H
       go_enter Tryz.func6, Tryz.ntmps6
       go_wp2_with (first | ((with_reducible refine gate_callee (f := 7) rfl ?_); refine goesL_ (some 10) rfl rfl Tryz.func7 (by kernel_rfl) rfl #[.int .i64 12345] rfl mapz ?_; (with_reducible refine (mast_FormatAt.calls 12345 t134 t135 _ (tbz HT) A1.out).mono ?_); rintro e w11 ⟨rfl, hb⟩; refine ⟨_, rfl, ?_⟩; replace HB := Aside0.mk (below_step bel hb); clear hb) | ((with_reducible refine gate_dst (N := 17) rfl ?_); refine Kd.R_lit k38 _ 38 ?hg (N := 17) ?hd (xs := ([(⟨5, 9⟩ : S38), (⟨0, 5⟩ : S38), (⟨20, 30⟩ : S38)] : List (S38))) (inner := [.int .i64 5, .int .i64 9, .int .i64 0, .int .i64 5, .int .i64 20, .int .i64 30]) (ok := fun _ => True) (okp := fun _ => True) ?hr ?hp (fun _ hk => hk) trivial (Below.refl _ _) (Nat.le_refl _) (by simp) ?_; (case hd => rfl); (case hg => rfl); (case hr => first | (go_simp; done) | (go_simp; rfl)); (case hp => exact (Reps.c2 (show Kd.M k38 _ _ _ (⟨5, 9⟩ : S38) [.int .i64 5, .int .i64 9] from (k38_mkM _ _ _ (⟨5, 9⟩ : S38) )) (Reps.c2 (show Kd.M k38 _ _ _ (⟨0, 5⟩ : S38) [.int .i64 0, .int .i64 5] from (k38_mkM _ _ _ (⟨0, 5⟩ : S38) )) (Reps.c2 (show Kd.M k38 _ _ _ (⟨20, 30⟩ : S38) [.int .i64 20, .int .i64 30] from (k38_mkM _ _ _ (⟨20, 30⟩ : S38) )) (Reps.none _ _))))); intro v137 w12 ho13 hb hg_ hnew_; clear hg_ hnew_; (first | rw [← Ny136.out] at ho13 | (simp only [Int.reduceToNat] at ho13; rw [← Ny136.out] at ho13)); have HO138 := Aside0.mk (Kd.R_lower ho13 (below_size bel)); replace HB := Aside0.mk (below_step bel hb); clear hb ho13; obtain ⟨Ao14, co14, eo14⟩ := Kd.R_slice HO138.out; subst eo14) | ((with_reducible refine gate_callee (f := 19) rfl ?_); refine goesL_ (some 18) rfl rfl Tryz.func19 (by kernel_rfl) rfl #[.slice Ao14 y136.length co14] rfl mapz ?_; (with_reducible refine (mast_Clean.calls _ _ y136 t139 t140 _ ?side1 ?side2 A2.out).mono ?_); (case side1 => repeat (first | exact (Kd.R_reads' HO138.out).2.2 | (with_reducible refine Kd.C_alloc ?_ _) | (with_reducible refine Kd.C_drewN ?_ _) | (with_reducible refine Kd.C_drew ?_))); (case side2 => exact (Kd.R_reads' HO138.out).2.1); rintro e w15 ⟨v141, rfl, ho0, hb⟩; refine ⟨_, rfl, ?_⟩; have HO142 := Aside0.mk (Kd.R_lower (Kd.R_new' ho0 (Kd.R_lt (ownx HO138))) (below_size bel)); replace HO138 := Aside0.mk (Kd.R_elder' (ownx HO138) (Kd.R_base ho0) hb); replace HB := Aside0.mk (below_step bel hb); (try clear hb); (try clear hb2); (try clear hk); (try clear hi); (try clear ho0); obtain ⟨Ao16, co16, eo16⟩ := Kd.R_slice HO142.out; subst eo16) | ((with_reducible refine gate_callee (f := 12) rfl ?_); refine goesL_ (some 23) rfl rfl Tryz.func12 (by kernel_rfl) rfl #[.slice Ao16 t139.length co16] rfl mapz ?_; (with_reducible refine (mast_Format.calls k _ _ t139 t143 t144 _ ?side1 ?side2 (tbz HT) A3.out).mono ?_); (case side1 => repeat (first | exact (Kd.R_reads' HO142.out).2.2 | (with_reducible refine Kd.C_alloc ?_ _) | (with_reducible refine Kd.C_drewN ?_ _) | (with_reducible refine Kd.C_drew ?_))); (case side2 => exact (Kd.R_reads' HO142.out).2.1); rintro e w17 ⟨rfl, hb⟩; refine ⟨_, rfl, ?_⟩; replace HO138 := Aside0.mk (Kd.R_below (ownx HO138) hb); replace HO142 := Aside0.mk (Kd.R_below (ownx HO142) hb); replace HB := Aside0.mk (below_step bel hb); clear hb) | ((with_reducible refine gate_callee (f := 20) rfl ?_); refine goesL_ (some 28) rfl rfl Tryz.func20 (by kernel_rfl) rfl #[.slice Ao16 t139.length co16, .int .i64 15] rfl mapz ?_; (with_reducible refine (mast_Near.calls k _ _ t139 15 t145 t146 _ ?side1 ?side2 A4.out).mono ?_); (case side1 => repeat (first | exact (Kd.R_reads' HO142.out).2.2 | (with_reducible refine Kd.C_alloc ?_ _) | (with_reducible refine Kd.C_drewN ?_ _) | (with_reducible refine Kd.C_drew ?_))); (case side2 => exact (Kd.R_reads' HO142.out).2.1); rintro e w18 ⟨rfl, hb⟩; refine ⟨_, rfl, ?_⟩; replace HO138 := Aside0.mk (Kd.R_below (ownx HO138) hb); replace HO142 := Aside0.mk (Kd.R_below (ownx HO142) hb); replace HB := Aside0.mk (below_step bel hb); clear hb))
       go_ret
       exact ⟨ezz, bel⟩
      ·
       rw [if_neg c10] at H
       have c10b0 : (t143.toList == ([48, 43, 48, 48, 48, 45, 48, 43, 48, 48, 57, 32, 48, 43, 48, 50, 48, 45, 48, 43, 48, 51, 48] : List UInt8)) = false := beq_eq_false_iff_ne.mpr c10
       have c10b1 : (t143.toList != ([48, 43, 48, 48, 48, 45, 48, 43, 48, 48, 57, 32, 48, 43, 48, 50, 48, 45, 48, 43, 48, 51, 48] : List UInt8)) = true := bne_iff_ne.mpr c10
       obtain rfl := Option.some.inj H
       go_enter Tryz.func6, Tryz.ntmps6
       go_wp2_with (first | ((with_reducible refine gate_callee (f := 7) rfl ?_); refine goesL_ (some 10) rfl rfl Tryz.func7 (by kernel_rfl) rfl #[.int .i64 12345] rfl mapz ?_; (with_reducible refine (mast_FormatAt.calls 12345 t134 t135 _ (tbz HT) A1.out).mono ?_); rintro e w19 ⟨rfl, hb⟩; refine ⟨_, rfl, ?_⟩; replace HB := Aside0.mk (below_step bel hb); clear hb) | ((with_reducible refine gate_dst (N := 17) rfl ?_); refine Kd.R_lit k38 _ 38 ?hg (N := 17) ?hd (xs := ([(⟨5, 9⟩ : S38), (⟨0, 5⟩ : S38), (⟨20, 30⟩ : S38)] : List (S38))) (inner := [.int .i64 5, .int .i64 9, .int .i64 0, .int .i64 5, .int .i64 20, .int .i64 30]) (ok := fun _ => True) (okp := fun _ => True) ?hr ?hp (fun _ hk => hk) trivial (Below.refl _ _) (Nat.le_refl _) (by simp) ?_; (case hd => rfl); (case hg => rfl); (case hr => first | (go_simp; done) | (go_simp; rfl)); (case hp => exact (Reps.c2 (show Kd.M k38 _ _ _ (⟨5, 9⟩ : S38) [.int .i64 5, .int .i64 9] from (k38_mkM _ _ _ (⟨5, 9⟩ : S38) )) (Reps.c2 (show Kd.M k38 _ _ _ (⟨0, 5⟩ : S38) [.int .i64 0, .int .i64 5] from (k38_mkM _ _ _ (⟨0, 5⟩ : S38) )) (Reps.c2 (show Kd.M k38 _ _ _ (⟨20, 30⟩ : S38) [.int .i64 20, .int .i64 30] from (k38_mkM _ _ _ (⟨20, 30⟩ : S38) )) (Reps.none _ _))))); intro v137 w20 ho21 hb hg_ hnew_; clear hg_ hnew_; (first | rw [← Ny136.out] at ho21 | (simp only [Int.reduceToNat] at ho21; rw [← Ny136.out] at ho21)); have HO138 := Aside0.mk (Kd.R_lower ho21 (below_size bel)); replace HB := Aside0.mk (below_step bel hb); clear hb ho21; obtain ⟨Ao22, co22, eo22⟩ := Kd.R_slice HO138.out; subst eo22) | ((with_reducible refine gate_callee (f := 19) rfl ?_); refine goesL_ (some 18) rfl rfl Tryz.func19 (by kernel_rfl) rfl #[.slice Ao22 y136.length co22] rfl mapz ?_; (with_reducible refine (mast_Clean.calls _ _ y136 t139 t140 _ ?side1 ?side2 A2.out).mono ?_); (case side1 => repeat (first | exact (Kd.R_reads' HO138.out).2.2 | (with_reducible refine Kd.C_alloc ?_ _) | (with_reducible refine Kd.C_drewN ?_ _) | (with_reducible refine Kd.C_drew ?_))); (case side2 => exact (Kd.R_reads' HO138.out).2.1); rintro e w23 ⟨v141, rfl, ho0, hb⟩; refine ⟨_, rfl, ?_⟩; have HO142 := Aside0.mk (Kd.R_lower (Kd.R_new' ho0 (Kd.R_lt (ownx HO138))) (below_size bel)); replace HO138 := Aside0.mk (Kd.R_elder' (ownx HO138) (Kd.R_base ho0) hb); replace HB := Aside0.mk (below_step bel hb); (try clear hb); (try clear hb2); (try clear hk); (try clear hi); (try clear ho0); obtain ⟨Ao24, co24, eo24⟩ := Kd.R_slice HO142.out; subst eo24) | ((with_reducible refine gate_callee (f := 12) rfl ?_); refine goesL_ (some 23) rfl rfl Tryz.func12 (by kernel_rfl) rfl #[.slice Ao24 t139.length co24] rfl mapz ?_; (with_reducible refine (mast_Format.calls k _ _ t139 t143 t144 _ ?side1 ?side2 (tbz HT) A3.out).mono ?_); (case side1 => repeat (first | exact (Kd.R_reads' HO142.out).2.2 | (with_reducible refine Kd.C_alloc ?_ _) | (with_reducible refine Kd.C_drewN ?_ _) | (with_reducible refine Kd.C_drew ?_))); (case side2 => exact (Kd.R_reads' HO142.out).2.1); rintro e w25 ⟨rfl, hb⟩; refine ⟨_, rfl, ?_⟩; replace HO138 := Aside0.mk (Kd.R_below (ownx HO138) hb); replace HO142 := Aside0.mk (Kd.R_below (ownx HO142) hb); replace HB := Aside0.mk (below_step bel hb); clear hb) | ((with_reducible refine gate_callee (f := 20) rfl ?_); refine goesL_ (some 28) rfl rfl Tryz.func20 (by kernel_rfl) rfl #[.slice Ao24 t139.length co24, .int .i64 15] rfl mapz ?_; (with_reducible refine (mast_Near.calls k _ _ t139 15 t145 t146 _ ?side1 ?side2 A4.out).mono ?_); (case side1 => repeat (first | exact (Kd.R_reads' HO142.out).2.2 | (with_reducible refine Kd.C_alloc ?_ _) | (with_reducible refine Kd.C_drewN ?_ _) | (with_reducible refine Kd.C_drew ?_))); (case side2 => exact (Kd.R_reads' HO142.out).2.1); rintro e w26 ⟨rfl, hb⟩; refine ⟨_, rfl, ?_⟩; replace HO138 := Aside0.mk (Kd.R_below (ownx HO138) hb); replace HO142 := Aside0.mk (Kd.R_below (ownx HO142) hb); replace HB := Aside0.mk (below_step bel hb); clear hb))
       go_ret
       exact ⟨ezz, bel⟩
     ·
      rw [if_neg c9] at H
      have c9b0 : (t134.toList == ([49, 50, 43, 51, 52, 53] : List UInt8)) = false := beq_eq_false_iff_ne.mpr c9
      have c9b1 : (t134.toList != ([49, 50, 43, 51, 52, 53] : List UInt8)) = true := bne_iff_ne.mpr c9
      obtain rfl := Option.some.inj H
      go_enter Tryz.func6, Tryz.ntmps6
      go_wp2_with (first | ((with_reducible refine gate_callee (f := 7) rfl ?_); refine goesL_ (some 10) rfl rfl Tryz.func7 (by kernel_rfl) rfl #[.int .i64 12345] rfl mapz ?_; (with_reducible refine (mast_FormatAt.calls 12345 t134 t135 _ (tbz HT) A1.out).mono ?_); rintro e w27 ⟨rfl, hb⟩; refine ⟨_, rfl, ?_⟩; replace HB := Aside0.mk (below_step bel hb); clear hb) | ((with_reducible refine gate_dst (N := 17) rfl ?_); refine Kd.R_lit k38 _ 38 ?hg (N := 17) ?hd (xs := ([(⟨5, 9⟩ : S38), (⟨0, 5⟩ : S38), (⟨20, 30⟩ : S38)] : List (S38))) (inner := [.int .i64 5, .int .i64 9, .int .i64 0, .int .i64 5, .int .i64 20, .int .i64 30]) (ok := fun _ => True) (okp := fun _ => True) ?hr ?hp (fun _ hk => hk) trivial (Below.refl _ _) (Nat.le_refl _) (by simp) ?_; (case hd => rfl); (case hg => rfl); (case hr => first | (go_simp; done) | (go_simp; rfl)); (case hp => exact (Reps.c2 (show Kd.M k38 _ _ _ (⟨5, 9⟩ : S38) [.int .i64 5, .int .i64 9] from (k38_mkM _ _ _ (⟨5, 9⟩ : S38) )) (Reps.c2 (show Kd.M k38 _ _ _ (⟨0, 5⟩ : S38) [.int .i64 0, .int .i64 5] from (k38_mkM _ _ _ (⟨0, 5⟩ : S38) )) (Reps.c2 (show Kd.M k38 _ _ _ (⟨20, 30⟩ : S38) [.int .i64 20, .int .i64 30] from (k38_mkM _ _ _ (⟨20, 30⟩ : S38) )) (Reps.none _ _))))); intro v137 w28 ho29 hb hg_ hnew_; clear hg_ hnew_; (first | rw [← Ny136.out] at ho29 | (simp only [Int.reduceToNat] at ho29; rw [← Ny136.out] at ho29)); have HO138 := Aside0.mk (Kd.R_lower ho29 (below_size bel)); replace HB := Aside0.mk (below_step bel hb); clear hb ho29; obtain ⟨Ao30, co30, eo30⟩ := Kd.R_slice HO138.out; subst eo30) | ((with_reducible refine gate_callee (f := 19) rfl ?_); refine goesL_ (some 18) rfl rfl Tryz.func19 (by kernel_rfl) rfl #[.slice Ao30 y136.length co30] rfl mapz ?_; (with_reducible refine (mast_Clean.calls _ _ y136 t139 t140 _ ?side1 ?side2 A2.out).mono ?_); (case side1 => repeat (first | exact (Kd.R_reads' HO138.out).2.2 | (with_reducible refine Kd.C_alloc ?_ _) | (with_reducible refine Kd.C_drewN ?_ _) | (with_reducible refine Kd.C_drew ?_))); (case side2 => exact (Kd.R_reads' HO138.out).2.1); rintro e w31 ⟨v141, rfl, ho0, hb⟩; refine ⟨_, rfl, ?_⟩; have HO142 := Aside0.mk (Kd.R_lower (Kd.R_new' ho0 (Kd.R_lt (ownx HO138))) (below_size bel)); replace HO138 := Aside0.mk (Kd.R_elder' (ownx HO138) (Kd.R_base ho0) hb); replace HB := Aside0.mk (below_step bel hb); (try clear hb); (try clear hb2); (try clear hk); (try clear hi); (try clear ho0); obtain ⟨Ao32, co32, eo32⟩ := Kd.R_slice HO142.out; subst eo32) | ((with_reducible refine gate_callee (f := 12) rfl ?_); refine goesL_ (some 23) rfl rfl Tryz.func12 (by kernel_rfl) rfl #[.slice Ao32 t139.length co32] rfl mapz ?_; (with_reducible refine (mast_Format.calls k _ _ t139 t143 t144 _ ?side1 ?side2 (tbz HT) A3.out).mono ?_); (case side1 => repeat (first | exact (Kd.R_reads' HO142.out).2.2 | (with_reducible refine Kd.C_alloc ?_ _) | (with_reducible refine Kd.C_drewN ?_ _) | (with_reducible refine Kd.C_drew ?_))); (case side2 => exact (Kd.R_reads' HO142.out).2.1); rintro e w33 ⟨rfl, hb⟩; refine ⟨_, rfl, ?_⟩; replace HO138 := Aside0.mk (Kd.R_below (ownx HO138) hb); replace HO142 := Aside0.mk (Kd.R_below (ownx HO142) hb); replace HB := Aside0.mk (below_step bel hb); clear hb) | ((with_reducible refine gate_callee (f := 20) rfl ?_); refine goesL_ (some 28) rfl rfl Tryz.func20 (by kernel_rfl) rfl #[.slice Ao32 t139.length co32, .int .i64 15] rfl mapz ?_; (with_reducible refine (mast_Near.calls k _ _ t139 15 t145 t146 _ ?side1 ?side2 A4.out).mono ?_); (case side1 => repeat (first | exact (Kd.R_reads' HO142.out).2.2 | (with_reducible refine Kd.C_alloc ?_ _) | (with_reducible refine Kd.C_drewN ?_ _) | (with_reducible refine Kd.C_drew ?_))); (case side2 => exact (Kd.R_reads' HO142.out).2.1); rintro e w34 ⟨rfl, hb⟩; refine ⟨_, rfl, ?_⟩; replace HO138 := Aside0.mk (Kd.R_below (ownx HO138) hb); replace HO142 := Aside0.mk (Kd.R_below (ownx HO142) hb); replace HB := Aside0.mk (below_step bel hb); clear hb))
      go_ret
      exact ⟨ezz, bel⟩
    ·
     rw [if_neg c8] at H
     have c8b0 : (t146 == 0) = false := beq_eq_false_iff_ne.mpr c8
     have c8b1 : (t146 != 0) = true := bne_iff_ne.mpr c8
     obtain rfl := Option.some.inj H
     go_enter Tryz.func6, Tryz.ntmps6
     go_wp2_with (first | ((with_reducible refine gate_callee (f := 7) rfl ?_); refine goesL_ (some 10) rfl rfl Tryz.func7 (by kernel_rfl) rfl #[.int .i64 12345] rfl mapz ?_; (with_reducible refine (mast_FormatAt.calls 12345 t134 t135 _ (tbz HT) A1.out).mono ?_); rintro e w35 ⟨rfl, hb⟩; refine ⟨_, rfl, ?_⟩; replace HB := Aside0.mk (below_step bel hb); clear hb) | ((with_reducible refine gate_dst (N := 17) rfl ?_); refine Kd.R_lit k38 _ 38 ?hg (N := 17) ?hd (xs := ([(⟨5, 9⟩ : S38), (⟨0, 5⟩ : S38), (⟨20, 30⟩ : S38)] : List (S38))) (inner := [.int .i64 5, .int .i64 9, .int .i64 0, .int .i64 5, .int .i64 20, .int .i64 30]) (ok := fun _ => True) (okp := fun _ => True) ?hr ?hp (fun _ hk => hk) trivial (Below.refl _ _) (Nat.le_refl _) (by simp) ?_; (case hd => rfl); (case hg => rfl); (case hr => first | (go_simp; done) | (go_simp; rfl)); (case hp => exact (Reps.c2 (show Kd.M k38 _ _ _ (⟨5, 9⟩ : S38) [.int .i64 5, .int .i64 9] from (k38_mkM _ _ _ (⟨5, 9⟩ : S38) )) (Reps.c2 (show Kd.M k38 _ _ _ (⟨0, 5⟩ : S38) [.int .i64 0, .int .i64 5] from (k38_mkM _ _ _ (⟨0, 5⟩ : S38) )) (Reps.c2 (show Kd.M k38 _ _ _ (⟨20, 30⟩ : S38) [.int .i64 20, .int .i64 30] from (k38_mkM _ _ _ (⟨20, 30⟩ : S38) )) (Reps.none _ _))))); intro v137 w36 ho37 hb hg_ hnew_; clear hg_ hnew_; (first | rw [← Ny136.out] at ho37 | (simp only [Int.reduceToNat] at ho37; rw [← Ny136.out] at ho37)); have HO138 := Aside0.mk (Kd.R_lower ho37 (below_size bel)); replace HB := Aside0.mk (below_step bel hb); clear hb ho37; obtain ⟨Ao38, co38, eo38⟩ := Kd.R_slice HO138.out; subst eo38) | ((with_reducible refine gate_callee (f := 19) rfl ?_); refine goesL_ (some 18) rfl rfl Tryz.func19 (by kernel_rfl) rfl #[.slice Ao38 y136.length co38] rfl mapz ?_; (with_reducible refine (mast_Clean.calls _ _ y136 t139 t140 _ ?side1 ?side2 A2.out).mono ?_); (case side1 => repeat (first | exact (Kd.R_reads' HO138.out).2.2 | (with_reducible refine Kd.C_alloc ?_ _) | (with_reducible refine Kd.C_drewN ?_ _) | (with_reducible refine Kd.C_drew ?_))); (case side2 => exact (Kd.R_reads' HO138.out).2.1); rintro e w39 ⟨v141, rfl, ho0, hb⟩; refine ⟨_, rfl, ?_⟩; have HO142 := Aside0.mk (Kd.R_lower (Kd.R_new' ho0 (Kd.R_lt (ownx HO138))) (below_size bel)); replace HO138 := Aside0.mk (Kd.R_elder' (ownx HO138) (Kd.R_base ho0) hb); replace HB := Aside0.mk (below_step bel hb); (try clear hb); (try clear hb2); (try clear hk); (try clear hi); (try clear ho0); obtain ⟨Ao40, co40, eo40⟩ := Kd.R_slice HO142.out; subst eo40) | ((with_reducible refine gate_callee (f := 12) rfl ?_); refine goesL_ (some 23) rfl rfl Tryz.func12 (by kernel_rfl) rfl #[.slice Ao40 t139.length co40] rfl mapz ?_; (with_reducible refine (mast_Format.calls k _ _ t139 t143 t144 _ ?side1 ?side2 (tbz HT) A3.out).mono ?_); (case side1 => repeat (first | exact (Kd.R_reads' HO142.out).2.2 | (with_reducible refine Kd.C_alloc ?_ _) | (with_reducible refine Kd.C_drewN ?_ _) | (with_reducible refine Kd.C_drew ?_))); (case side2 => exact (Kd.R_reads' HO142.out).2.1); rintro e w41 ⟨rfl, hb⟩; refine ⟨_, rfl, ?_⟩; replace HO138 := Aside0.mk (Kd.R_below (ownx HO138) hb); replace HO142 := Aside0.mk (Kd.R_below (ownx HO142) hb); replace HB := Aside0.mk (below_step bel hb); clear hb) | ((with_reducible refine gate_callee (f := 20) rfl ?_); refine goesL_ (some 28) rfl rfl Tryz.func20 (by kernel_rfl) rfl #[.slice Ao40 t139.length co40, .int .i64 15] rfl mapz ?_; (with_reducible refine (mast_Near.calls k _ _ t139 15 t145 t146 _ ?side1 ?side2 A4.out).mono ?_); (case side1 => repeat (first | exact (Kd.R_reads' HO142.out).2.2 | (with_reducible refine Kd.C_alloc ?_ _) | (with_reducible refine Kd.C_drewN ?_ _) | (with_reducible refine Kd.C_drew ?_))); (case side2 => exact (Kd.R_reads' HO142.out).2.1); rintro e w42 ⟨rfl, hb⟩; refine ⟨_, rfl, ?_⟩; replace HO138 := Aside0.mk (Kd.R_below (ownx HO138) hb); replace HO142 := Aside0.mk (Kd.R_below (ownx HO142) hb); replace HB := Aside0.mk (below_step bel hb); clear hb))
     go_ret
     exact ⟨ezz, bel⟩
   ·
    rw [if_neg c7] at H
    have c7b0 : (t144 == 0) = false := beq_eq_false_iff_ne.mpr c7
    have c7b1 : (t144 != 0) = true := bne_iff_ne.mpr c7
    obtain rfl := Option.some.inj H
    go_enter Tryz.func6, Tryz.ntmps6
    go_wp2_with (first | ((with_reducible refine gate_callee (f := 7) rfl ?_); refine goesL_ (some 10) rfl rfl Tryz.func7 (by kernel_rfl) rfl #[.int .i64 12345] rfl mapz ?_; (with_reducible refine (mast_FormatAt.calls 12345 t134 t135 _ (tbz HT) A1.out).mono ?_); rintro e w43 ⟨rfl, hb⟩; refine ⟨_, rfl, ?_⟩; replace HB := Aside0.mk (below_step bel hb); clear hb) | ((with_reducible refine gate_dst (N := 17) rfl ?_); refine Kd.R_lit k38 _ 38 ?hg (N := 17) ?hd (xs := ([(⟨5, 9⟩ : S38), (⟨0, 5⟩ : S38), (⟨20, 30⟩ : S38)] : List (S38))) (inner := [.int .i64 5, .int .i64 9, .int .i64 0, .int .i64 5, .int .i64 20, .int .i64 30]) (ok := fun _ => True) (okp := fun _ => True) ?hr ?hp (fun _ hk => hk) trivial (Below.refl _ _) (Nat.le_refl _) (by simp) ?_; (case hd => rfl); (case hg => rfl); (case hr => first | (go_simp; done) | (go_simp; rfl)); (case hp => exact (Reps.c2 (show Kd.M k38 _ _ _ (⟨5, 9⟩ : S38) [.int .i64 5, .int .i64 9] from (k38_mkM _ _ _ (⟨5, 9⟩ : S38) )) (Reps.c2 (show Kd.M k38 _ _ _ (⟨0, 5⟩ : S38) [.int .i64 0, .int .i64 5] from (k38_mkM _ _ _ (⟨0, 5⟩ : S38) )) (Reps.c2 (show Kd.M k38 _ _ _ (⟨20, 30⟩ : S38) [.int .i64 20, .int .i64 30] from (k38_mkM _ _ _ (⟨20, 30⟩ : S38) )) (Reps.none _ _))))); intro v137 w44 ho45 hb hg_ hnew_; clear hg_ hnew_; (first | rw [← Ny136.out] at ho45 | (simp only [Int.reduceToNat] at ho45; rw [← Ny136.out] at ho45)); have HO138 := Aside0.mk (Kd.R_lower ho45 (below_size bel)); replace HB := Aside0.mk (below_step bel hb); clear hb ho45; obtain ⟨Ao46, co46, eo46⟩ := Kd.R_slice HO138.out; subst eo46) | ((with_reducible refine gate_callee (f := 19) rfl ?_); refine goesL_ (some 18) rfl rfl Tryz.func19 (by kernel_rfl) rfl #[.slice Ao46 y136.length co46] rfl mapz ?_; (with_reducible refine (mast_Clean.calls _ _ y136 t139 t140 _ ?side1 ?side2 A2.out).mono ?_); (case side1 => repeat (first | exact (Kd.R_reads' HO138.out).2.2 | (with_reducible refine Kd.C_alloc ?_ _) | (with_reducible refine Kd.C_drewN ?_ _) | (with_reducible refine Kd.C_drew ?_))); (case side2 => exact (Kd.R_reads' HO138.out).2.1); rintro e w47 ⟨v141, rfl, ho0, hb⟩; refine ⟨_, rfl, ?_⟩; have HO142 := Aside0.mk (Kd.R_lower (Kd.R_new' ho0 (Kd.R_lt (ownx HO138))) (below_size bel)); replace HO138 := Aside0.mk (Kd.R_elder' (ownx HO138) (Kd.R_base ho0) hb); replace HB := Aside0.mk (below_step bel hb); (try clear hb); (try clear hb2); (try clear hk); (try clear hi); (try clear ho0); obtain ⟨Ao48, co48, eo48⟩ := Kd.R_slice HO142.out; subst eo48) | ((with_reducible refine gate_callee (f := 12) rfl ?_); refine goesL_ (some 23) rfl rfl Tryz.func12 (by kernel_rfl) rfl #[.slice Ao48 t139.length co48] rfl mapz ?_; (with_reducible refine (mast_Format.calls k _ _ t139 t143 t144 _ ?side1 ?side2 (tbz HT) A3.out).mono ?_); (case side1 => repeat (first | exact (Kd.R_reads' HO142.out).2.2 | (with_reducible refine Kd.C_alloc ?_ _) | (with_reducible refine Kd.C_drewN ?_ _) | (with_reducible refine Kd.C_drew ?_))); (case side2 => exact (Kd.R_reads' HO142.out).2.1); rintro e w49 ⟨rfl, hb⟩; refine ⟨_, rfl, ?_⟩; replace HO138 := Aside0.mk (Kd.R_below (ownx HO138) hb); replace HO142 := Aside0.mk (Kd.R_below (ownx HO142) hb); replace HB := Aside0.mk (below_step bel hb); clear hb) | ((with_reducible refine gate_callee (f := 20) rfl ?_); refine goesL_ (some 28) rfl rfl Tryz.func20 (by kernel_rfl) rfl #[.slice Ao48 t139.length co48, .int .i64 15] rfl mapz ?_; (with_reducible refine (mast_Near.calls k _ _ t139 15 t145 t146 _ ?side1 ?side2 A4.out).mono ?_); (case side1 => repeat (first | exact (Kd.R_reads' HO142.out).2.2 | (with_reducible refine Kd.C_alloc ?_ _) | (with_reducible refine Kd.C_drewN ?_ _) | (with_reducible refine Kd.C_drew ?_))); (case side2 => exact (Kd.R_reads' HO142.out).2.1); rintro e w50 ⟨rfl, hb⟩; refine ⟨_, rfl, ?_⟩; replace HO138 := Aside0.mk (Kd.R_below (ownx HO138) hb); replace HO142 := Aside0.mk (Kd.R_below (ownx HO142) hb); replace HB := Aside0.mk (below_step bel hb); clear hb))
    go_ret
    exact ⟨ezz, bel⟩
  ·
   rw [if_neg c6] at H
   have c6b0 : (t140 == 0) = false := beq_eq_false_iff_ne.mpr c6
   have c6b1 : (t140 != 0) = true := bne_iff_ne.mpr c6
   obtain rfl := Option.some.inj H
   go_enter Tryz.func6, Tryz.ntmps6
   go_wp2_with (first | ((with_reducible refine gate_callee (f := 7) rfl ?_); refine goesL_ (some 10) rfl rfl Tryz.func7 (by kernel_rfl) rfl #[.int .i64 12345] rfl mapz ?_; (with_reducible refine (mast_FormatAt.calls 12345 t134 t135 _ (tbz HT) A1.out).mono ?_); rintro e w51 ⟨rfl, hb⟩; refine ⟨_, rfl, ?_⟩; replace HB := Aside0.mk (below_step bel hb); clear hb) | ((with_reducible refine gate_dst (N := 17) rfl ?_); refine Kd.R_lit k38 _ 38 ?hg (N := 17) ?hd (xs := ([(⟨5, 9⟩ : S38), (⟨0, 5⟩ : S38), (⟨20, 30⟩ : S38)] : List (S38))) (inner := [.int .i64 5, .int .i64 9, .int .i64 0, .int .i64 5, .int .i64 20, .int .i64 30]) (ok := fun _ => True) (okp := fun _ => True) ?hr ?hp (fun _ hk => hk) trivial (Below.refl _ _) (Nat.le_refl _) (by simp) ?_; (case hd => rfl); (case hg => rfl); (case hr => first | (go_simp; done) | (go_simp; rfl)); (case hp => exact (Reps.c2 (show Kd.M k38 _ _ _ (⟨5, 9⟩ : S38) [.int .i64 5, .int .i64 9] from (k38_mkM _ _ _ (⟨5, 9⟩ : S38) )) (Reps.c2 (show Kd.M k38 _ _ _ (⟨0, 5⟩ : S38) [.int .i64 0, .int .i64 5] from (k38_mkM _ _ _ (⟨0, 5⟩ : S38) )) (Reps.c2 (show Kd.M k38 _ _ _ (⟨20, 30⟩ : S38) [.int .i64 20, .int .i64 30] from (k38_mkM _ _ _ (⟨20, 30⟩ : S38) )) (Reps.none _ _))))); intro v137 w52 ho53 hb hg_ hnew_; clear hg_ hnew_; (first | rw [← Ny136.out] at ho53 | (simp only [Int.reduceToNat] at ho53; rw [← Ny136.out] at ho53)); have HO138 := Aside0.mk (Kd.R_lower ho53 (below_size bel)); replace HB := Aside0.mk (below_step bel hb); clear hb ho53; obtain ⟨Ao54, co54, eo54⟩ := Kd.R_slice HO138.out; subst eo54) | ((with_reducible refine gate_callee (f := 19) rfl ?_); refine goesL_ (some 18) rfl rfl Tryz.func19 (by kernel_rfl) rfl #[.slice Ao54 y136.length co54] rfl mapz ?_; (with_reducible refine (mast_Clean.calls _ _ y136 t139 t140 _ ?side1 ?side2 A2.out).mono ?_); (case side1 => repeat (first | exact (Kd.R_reads' HO138.out).2.2 | (with_reducible refine Kd.C_alloc ?_ _) | (with_reducible refine Kd.C_drewN ?_ _) | (with_reducible refine Kd.C_drew ?_))); (case side2 => exact (Kd.R_reads' HO138.out).2.1); rintro e w55 ⟨v141, rfl, ho0, hb⟩; refine ⟨_, rfl, ?_⟩; have HO142 := Aside0.mk (Kd.R_lower (Kd.R_new' ho0 (Kd.R_lt (ownx HO138))) (below_size bel)); replace HO138 := Aside0.mk (Kd.R_elder' (ownx HO138) (Kd.R_base ho0) hb); replace HB := Aside0.mk (below_step bel hb); (try clear hb); (try clear hb2); (try clear hk); (try clear hi); (try clear ho0); obtain ⟨Ao56, co56, eo56⟩ := Kd.R_slice HO142.out; subst eo56) | ((with_reducible refine gate_callee (f := 12) rfl ?_); refine goesL_ (some 23) rfl rfl Tryz.func12 (by kernel_rfl) rfl #[.slice Ao56 t139.length co56] rfl mapz ?_; (with_reducible refine (mast_Format.calls k _ _ t139 t143 t144 _ ?side1 ?side2 (tbz HT) A3.out).mono ?_); (case side1 => repeat (first | exact (Kd.R_reads' HO142.out).2.2 | (with_reducible refine Kd.C_alloc ?_ _) | (with_reducible refine Kd.C_drewN ?_ _) | (with_reducible refine Kd.C_drew ?_))); (case side2 => exact (Kd.R_reads' HO142.out).2.1); rintro e w57 ⟨rfl, hb⟩; refine ⟨_, rfl, ?_⟩; replace HO138 := Aside0.mk (Kd.R_below (ownx HO138) hb); replace HO142 := Aside0.mk (Kd.R_below (ownx HO142) hb); replace HB := Aside0.mk (below_step bel hb); clear hb) | ((with_reducible refine gate_callee (f := 20) rfl ?_); refine goesL_ (some 28) rfl rfl Tryz.func20 (by kernel_rfl) rfl #[.slice Ao56 t139.length co56, .int .i64 15] rfl mapz ?_; (with_reducible refine (mast_Near.calls k _ _ t139 15 t145 t146 _ ?side1 ?side2 A4.out).mono ?_); (case side1 => repeat (first | exact (Kd.R_reads' HO142.out).2.2 | (with_reducible refine Kd.C_alloc ?_ _) | (with_reducible refine Kd.C_drewN ?_ _) | (with_reducible refine Kd.C_drew ?_))); (case side2 => exact (Kd.R_reads' HO142.out).2.1); rintro e w58 ⟨rfl, hb⟩; refine ⟨_, rfl, ?_⟩; replace HO138 := Aside0.mk (Kd.R_below (ownx HO138) hb); replace HO142 := Aside0.mk (Kd.R_below (ownx HO142) hb); replace HB := Aside0.mk (below_step bel hb); clear hb))
   go_ret
   exact ⟨ezz, bel⟩
 ·
  rw [if_neg c5] at H
  have c5b0 : (t135 == 0) = false := beq_eq_false_iff_ne.mpr c5
  have c5b1 : (t135 != 0) = true := bne_iff_ne.mpr c5
  obtain rfl := Option.some.inj H
  go_enter Tryz.func6, Tryz.ntmps6
  go_wp2_with (first | ((with_reducible refine gate_callee (f := 7) rfl ?_); refine goesL_ (some 10) rfl rfl Tryz.func7 (by kernel_rfl) rfl #[.int .i64 12345] rfl mapz ?_; (with_reducible refine (mast_FormatAt.calls 12345 t134 t135 _ (tbz HT) A1.out).mono ?_); rintro e w59 ⟨rfl, hb⟩; refine ⟨_, rfl, ?_⟩; replace HB := Aside0.mk (below_step bel hb); clear hb) | ((with_reducible refine gate_dst (N := 17) rfl ?_); refine Kd.R_lit k38 _ 38 ?hg (N := 17) ?hd (xs := ([(⟨5, 9⟩ : S38), (⟨0, 5⟩ : S38), (⟨20, 30⟩ : S38)] : List (S38))) (inner := [.int .i64 5, .int .i64 9, .int .i64 0, .int .i64 5, .int .i64 20, .int .i64 30]) (ok := fun _ => True) (okp := fun _ => True) ?hr ?hp (fun _ hk => hk) trivial (Below.refl _ _) (Nat.le_refl _) (by simp) ?_; (case hd => rfl); (case hg => rfl); (case hr => first | (go_simp; done) | (go_simp; rfl)); (case hp => exact (Reps.c2 (show Kd.M k38 _ _ _ (⟨5, 9⟩ : S38) [.int .i64 5, .int .i64 9] from (k38_mkM _ _ _ (⟨5, 9⟩ : S38) )) (Reps.c2 (show Kd.M k38 _ _ _ (⟨0, 5⟩ : S38) [.int .i64 0, .int .i64 5] from (k38_mkM _ _ _ (⟨0, 5⟩ : S38) )) (Reps.c2 (show Kd.M k38 _ _ _ (⟨20, 30⟩ : S38) [.int .i64 20, .int .i64 30] from (k38_mkM _ _ _ (⟨20, 30⟩ : S38) )) (Reps.none _ _))))); intro v137 w60 ho61 hb hg_ hnew_; clear hg_ hnew_; (first | rw [← Ny136.out] at ho61 | (simp only [Int.reduceToNat] at ho61; rw [← Ny136.out] at ho61)); have HO138 := Aside0.mk (Kd.R_lower ho61 (below_size bel)); replace HB := Aside0.mk (below_step bel hb); clear hb ho61; obtain ⟨Ao62, co62, eo62⟩ := Kd.R_slice HO138.out; subst eo62) | ((with_reducible refine gate_callee (f := 19) rfl ?_); refine goesL_ (some 18) rfl rfl Tryz.func19 (by kernel_rfl) rfl #[.slice Ao62 y136.length co62] rfl mapz ?_; (with_reducible refine (mast_Clean.calls _ _ y136 t139 t140 _ ?side1 ?side2 A2.out).mono ?_); (case side1 => repeat (first | exact (Kd.R_reads' HO138.out).2.2 | (with_reducible refine Kd.C_alloc ?_ _) | (with_reducible refine Kd.C_drewN ?_ _) | (with_reducible refine Kd.C_drew ?_))); (case side2 => exact (Kd.R_reads' HO138.out).2.1); rintro e w63 ⟨v141, rfl, ho0, hb⟩; refine ⟨_, rfl, ?_⟩; have HO142 := Aside0.mk (Kd.R_lower (Kd.R_new' ho0 (Kd.R_lt (ownx HO138))) (below_size bel)); replace HO138 := Aside0.mk (Kd.R_elder' (ownx HO138) (Kd.R_base ho0) hb); replace HB := Aside0.mk (below_step bel hb); (try clear hb); (try clear hb2); (try clear hk); (try clear hi); (try clear ho0); obtain ⟨Ao64, co64, eo64⟩ := Kd.R_slice HO142.out; subst eo64) | ((with_reducible refine gate_callee (f := 12) rfl ?_); refine goesL_ (some 23) rfl rfl Tryz.func12 (by kernel_rfl) rfl #[.slice Ao64 t139.length co64] rfl mapz ?_; (with_reducible refine (mast_Format.calls k _ _ t139 t143 t144 _ ?side1 ?side2 (tbz HT) A3.out).mono ?_); (case side1 => repeat (first | exact (Kd.R_reads' HO142.out).2.2 | (with_reducible refine Kd.C_alloc ?_ _) | (with_reducible refine Kd.C_drewN ?_ _) | (with_reducible refine Kd.C_drew ?_))); (case side2 => exact (Kd.R_reads' HO142.out).2.1); rintro e w65 ⟨rfl, hb⟩; refine ⟨_, rfl, ?_⟩; replace HO138 := Aside0.mk (Kd.R_below (ownx HO138) hb); replace HO142 := Aside0.mk (Kd.R_below (ownx HO142) hb); replace HB := Aside0.mk (below_step bel hb); clear hb) | ((with_reducible refine gate_callee (f := 20) rfl ?_); refine goesL_ (some 28) rfl rfl Tryz.func20 (by kernel_rfl) rfl #[.slice Ao64 t139.length co64, .int .i64 15] rfl mapz ?_; (with_reducible refine (mast_Near.calls k _ _ t139 15 t145 t146 _ ?side1 ?side2 A4.out).mono ?_); (case side1 => repeat (first | exact (Kd.R_reads' HO142.out).2.2 | (with_reducible refine Kd.C_alloc ?_ _) | (with_reducible refine Kd.C_drewN ?_ _) | (with_reducible refine Kd.C_drew ?_))); (case side2 => exact (Kd.R_reads' HO142.out).2.1); rintro e w66 ⟨rfl, hb⟩; refine ⟨_, rfl, ?_⟩; replace HO138 := Aside0.mk (Kd.R_below (ownx HO138) hb); replace HO142 := Aside0.mk (Kd.R_below (ownx HO142) hb); replace HB := Aside0.mk (below_step bel hb); clear hb))
  go_ret
  exact ⟨ezz, bel⟩

/-! ### dropperref01_isAt: function 23 -/
def dropperref01_isAt.f (a0 : Int) : Option (Bool) := if a0 ≥ 0 then (some (decide (a0 ≤ 100000))) else (some false)
set_option maxHeartbeats 8000000 in
set_option maxRecDepth 100000 in
theorem dropperref01_isAt.calls (a0 : Int) (r : Bool) (w : World) (h : dropperref01_isAt.f a0 = some r) :
  Calls Tryz.prog 23 #[.int .i64 a0] w fun e w' => e = .returned (.bool r) ∧ Drawn0 w w' := by
 have H : (if a0 ≥ 0 then (some (decide (a0 ≤ 100000))) else (some false)) = some r := h
 clear h
 by_cases c2 : a0 ≥ 0
 ·
  rw [if_pos c2] at H
  have c2b0 : decide (0 ≤ a0) = true := decide_eq_true c2
  clear c2
  obtain rfl := Option.some.inj H
  go_enter Tryz.func23, Tryz.ntmps23
  go_wp2
  go_ret
  exact ⟨by first | rfl | (simp; done) | (simp [*]; done), drz⟩
 ·
  rw [if_neg c2] at H
  have c2b0 : decide (0 ≤ a0) = false := decide_eq_false c2
  clear c2
  obtain rfl := Option.some.inj H
  go_enter Tryz.func23, Tryz.ntmps23
  go_wp2
  go_ret
  exact ⟨by first | rfl | (simp; done) | (simp [*]; done), drz⟩

/-! ### dropperref01_isStretch: function 30 -/
def dropperref01_isStretch.f (a0_0 : Int) (a0_1 : Int) : Option (Bool) := (dropperref01_isAt.f a0_0).bind fun t162 => (if t162 = true then ((dropperref01_isAt.f a0_1).bind fun t163 => (if t163 = true then (some (decide (a0_0 < a0_1))) else (some false))) else (some false))
set_option maxHeartbeats 8000000 in
set_option maxRecDepth 100000 in
theorem dropperref01_isStretch.calls (a0_0 : Int) (a0_1 : Int) (r : Bool) (w : World) (h : dropperref01_isStretch.f a0_0 a0_1 = some r) :
  Calls Tryz.prog 30 #[.agg #[.int .i64 a0_0, .int .i64 a0_1]] w fun e w' => e = .returned (.bool r) ∧ Below w.heap.size w w' := by
 have hu38 := Tryz.underlying38
 have HB := Aside0.mk (Below.refl w.heap.size w)
 have H : ((dropperref01_isAt.f a0_0).bind fun t162 => (if t162 = true then ((dropperref01_isAt.f a0_1).bind fun t163 => (if t163 = true then (some (decide (a0_0 < a0_1))) else (some false))) else (some false))) = some r := h
 clear h
 replace H := Option.bind_eq_some_iff.mp H
 obtain ⟨t162, A20, H⟩ := H
 try dsimp only at H
 have A2 := Aside0.mk A20
 clear A20
 by_cases c3 : t162 = true
 ·
  subst c3
  rw [if_pos rfl] at H
  replace H := Option.bind_eq_some_iff.mp H
  obtain ⟨t163, A40, H⟩ := H
  try dsimp only at H
  have A4 := Aside0.mk A40
  clear A40
  by_cases c5 : t163 = true
  ·
   subst c5
   rw [if_pos rfl] at H
   obtain rfl := Option.some.inj H
   go_enter Tryz.func30, Tryz.ntmps30
   go_wp2_with (first | ((with_reducible refine gate_dst (N := 1) rfl ?_); refine box_event ?hg (N := 1) ?hd (cs := #[.int .i64 a0_0, .int .i64 a0_1]) (t := 38) ?hr ?_; (case hd => rfl); (case hg => rfl); (case hr => first | (go_simp; done) | (go_simp; rfl)); intro gb161 hg w6 hbox hb; have BK161 := Aside0.mk (hbox); have GW161 := bsz (w := w) hg; have GE161 := GW161; replace HB := Aside0.mk (below_step bel hb); clear hb hbox hg; obtain ⟨hcz7_0, hcz7_1⟩ := bc2 BK161.out) | ((with_reducible refine gate_callee (f := 23) rfl ?_); refine goesL_ (some 5) rfl rfl Tryz.func23 (by kernel_rfl) rfl #[.int .i64 a0_0] rfl mapz ?_; (with_reducible refine (dropperref01_isAt.calls a0_0 true _ A2.out).mono ?_); rintro e w' ⟨rfl, ⟨nd, rfl⟩⟩; refine ⟨_, rfl, ?_⟩) | (go_at_call 23; (with_reducible refine (dropperref01_isAt.calls a0_1 true _ A4.out).mono ?_); rintro e w' ⟨rfl, ⟨nd, rfl⟩⟩))
   go_ret
   exact ⟨ezz, bel⟩
  ·
   replace c5 := Bool.eq_false_iff.mpr c5
   subst c5
   rw [if_neg (show ¬ (false = true) by decide)] at H
   obtain rfl := Option.some.inj H
   go_enter Tryz.func30, Tryz.ntmps30
   go_wp2_with (first | ((with_reducible refine gate_dst (N := 1) rfl ?_); refine box_event ?hg (N := 1) ?hd (cs := #[.int .i64 a0_0, .int .i64 a0_1]) (t := 38) ?hr ?_; (case hd => rfl); (case hg => rfl); (case hr => first | (go_simp; done) | (go_simp; rfl)); intro gb161 hg w8 hbox hb; have BK161 := Aside0.mk (hbox); have GW161 := bsz (w := w) hg; have GE161 := GW161; replace HB := Aside0.mk (below_step bel hb); clear hb hbox hg; obtain ⟨hcz9_0, hcz9_1⟩ := bc2 BK161.out) | ((with_reducible refine gate_callee (f := 23) rfl ?_); refine goesL_ (some 5) rfl rfl Tryz.func23 (by kernel_rfl) rfl #[.int .i64 a0_0] rfl mapz ?_; (with_reducible refine (dropperref01_isAt.calls a0_0 true _ A2.out).mono ?_); rintro e w' ⟨rfl, ⟨nd, rfl⟩⟩; refine ⟨_, rfl, ?_⟩) | (go_at_call 23; (with_reducible refine (dropperref01_isAt.calls a0_1 false _ A4.out).mono ?_); rintro e w' ⟨rfl, ⟨nd, rfl⟩⟩))
   go_ret
   exact ⟨ezz, bel⟩
 ·
  replace c3 := Bool.eq_false_iff.mpr c3
  subst c3
  rw [if_neg (show ¬ (false = true) by decide)] at H
  obtain rfl := Option.some.inj H
  go_enter Tryz.func30, Tryz.ntmps30
  go_wp2_with (first | ((with_reducible refine gate_dst (N := 1) rfl ?_); refine box_event ?hg (N := 1) ?hd (cs := #[.int .i64 a0_0, .int .i64 a0_1]) (t := 38) ?hr ?_; (case hd => rfl); (case hg => rfl); (case hr => first | (go_simp; done) | (go_simp; rfl)); intro gb161 hg w10 hbox hb; have BK161 := Aside0.mk (hbox); have GW161 := bsz (w := w) hg; have GE161 := GW161; replace HB := Aside0.mk (below_step bel hb); clear hb hbox hg; obtain ⟨hcz11_0, hcz11_1⟩ := bc2 BK161.out) | ((with_reducible refine gate_callee (f := 23) rfl ?_); refine goesL_ (some 5) rfl rfl Tryz.func23 (by kernel_rfl) rfl #[.int .i64 a0_0] rfl mapz ?_; (with_reducible refine (dropperref01_isAt.calls a0_0 false _ A2.out).mono ?_); rintro e w' ⟨rfl, ⟨nd, rfl⟩⟩; refine ⟨_, rfl, ?_⟩))
  go_ret
  exact ⟨ezz, bel⟩

/-! ### dropperref01_Valid: function 15 -/
def dropperref01_Valid.l0 : Nat → List (S38) → Int → Option (Bool)
 | 0, _, _ => none
 | k + 1, x0, x3 => if x3 < (x0.length : Int) then (if 0 ≤ x3 then ((dropperref01_isStretch.f ((rd_T38 x0 x3).f0) ((rd_T38 x0 x3).f1)).bind fun t165 => (if t165 = true then (if x3 > 0 then (if 0 ≤ (wrap64 (x3 - 1)) then (if (wrap64 (x3 - 1)) < (x0.length : Int) then (if ((rd_T38 x0 x3).f0) ≤ ((rd_T38 x0 (wrap64 (x3 - 1))).f1) then (some false) else (dropperref01_Valid.l0 k x0 (wrap64 (x3 + 1)))) else (none)) else (none)) else (dropperref01_Valid.l0 k x0 (wrap64 (x3 + 1)))) else (some false))) else (none)) else (some (decide ((x0.length : Int) ≤ 60)))
def dropperref01_Valid.f (k : Nat) (l0 : List (S38)) : Option (Bool) := dropperref01_Valid.l0 k l0 0
def dropperref01_Valid.T4 : Bool × List (List Nat × List Nat) := (true, [([], []), ([], []), ([0, 1], [0, 1]), ([2], [2]), ([3], [3]), ([4], [4]), ([5, 4], [5]), ([6], [6]), ([7, 6], [6, 7]), ([8, 6, 6], [6, 8]), ([9], [9]), ([9], [9]), ([10, 11, 9], [9, 10, 11]), ([12, 9], [9, 12]), ([13, 9], [9, 13]), ([9], [9]), ([9], [9]), ([16, 9], [9, 16]), ([15, 17, 9], [9, 15, 17]), ([18, 9], [9, 18]), ([19, 9], [9, 19]), ([14, 20, 9], [9, 14, 20]), ([9, 21, 6], [6, 9, 21]), ([6, 22], [6, 22])])
def dropperref01_Valid.B4 : List Nat := [0, 0, 3, 7, 15, 31, 63, 127, 255, 511, 1023, 1023, 4095, 8191, 16383, 1023, 1023, 66559, 230399, 492543, 1016831, 2097151, 4194303, 8388607]
theorem dropperref01_Valid.tab4 : rtab .any (opsOf Tryz.f15 4) = dropperref01_Valid.T4 := by kernel_rfl
theorem dropperref01_Valid.bits4 : waitsOk dropperref01_Valid.T4.2 dropperref01_Valid.B4 = true := by kernel_rfl
set_option maxHeartbeats 8000000 in
set_option maxRecDepth 100000 in
theorem dropperref01_Valid.calls (k : Nat) (A0 : Option Addr) (c0 : Nat) (l0 : List (S38)) (r : Bool) (w : World) (hr0 : Kd.C k38 w A0 l0.length l0) (hc0 : l0.length ≤ c0) (h : dropperref01_Valid.f k l0 = some r) :
  Calls Tryz.prog 15 #[.slice A0 l0.length c0] w fun e w' => e = .returned (.bool r) ∧ Below w.heap.size w w' := by
 have hu38 := Tryz.underlying38
 have HR0 := Aside0.mk hr0
 have HC0 := Aside0.mk hc0
 clear hr0 hc0
 have HB := Aside0.mk (Below.refl w.heap.size w)
 have H : (dropperref01_Valid.l0 k l0 0) = some r := h
 clear h
 have H' := Aside0.mk H
 clear H
 go_enter Tryz.func15, Tryz.ntmps15
 go_wp2
 go_loopg [3] k (fun kq v3 w' => ∃ (x3_1 : Int), v3 = .int .i64 x3_1 ∧ Aside0 (dropperref01_Valid.l0 kq l0 x3_1 = some r) ∧ Aside0 (kq ≤ k) ∧ Aside0 (Below w.heap.size w w'))
 case atStart => exact ⟨(0), rsz, H', ⟨Nat.le_refl _⟩, ⟨bel⟩⟩
 case round =>
  clear H'
  try clear c1
  obtain ⟨x3_1, rfl, HA, HK1, HB⟩ := hrel
  cases gk with
  | zero => exact absurd HA.out (by simp [dropperref01_Valid.l0])
  | succ k1 =>
   have H := HA.out
   clear HA
   simp only [dropperref01_Valid.l0] at H
   by_cases c2 : x3_1 < (l0.length : Int)
   ·
    rw [if_pos c2] at H
    have c2b0 : decide (x3_1 < (l0.length : Int)) = true := decide_eq_true c2
    clear c2
    by_cases c3 : 0 ≤ x3_1
    ·
     rw [if_pos c3] at H
     have c3b0 : decide (0 ≤ x3_1) = true := decide_eq_true c3
     clear c3
     replace H := Option.bind_eq_some_iff.mp H
     obtain ⟨t165, A40, H⟩ := H
     try dsimp only at H
     have A4 := Aside0.mk A40
     clear A40
     by_cases c5 : t165 = true
     ·
      subst c5
      rw [if_pos rfl] at H
      by_cases c6 : x3_1 > 0
      ·
       rw [if_pos c6] at H
       have c6b0 : decide (0 < x3_1) = true := decide_eq_true c6
       clear c6
       obtain ⟨ji7, hji7⟩ : ∃ j_ : Int, (wrap64 (x3_1 - 1)) = j_ := ⟨_, rfl⟩
       replace H : (if 0 ≤ (ji7) then (if (ji7) < (l0.length : Int) then (if ((rd_T38 l0 x3_1).f0) ≤ ((rd_T38 l0 (ji7)).f1) then (some false) else (dropperref01_Valid.l0 k1 l0 (wrap64 (x3_1 + 1)))) else (none)) else (none)) = some r := by first | (rw [hji7] at H; exact H) | (simp only [hji7] at H ⊢; exact H)
       (try rw [hji7] at A4)
       have hji7w : (IntKind.i64.wrap (x3_1 - 1)) = ji7 := (i64_w _).trans hji7
       by_cases c8 : 0 ≤ (ji7)
       ·
        rw [if_pos c8] at H
        have c8b0 : decide (0 ≤ (ji7)) = true := decide_eq_true c8
        clear c8
        by_cases c9 : (ji7) < (l0.length : Int)
        ·
         rw [if_pos c9] at H
         have c9b0 : decide ((ji7) < (l0.length : Int)) = true := decide_eq_true c9
         clear c9
         by_cases c10 : ((rd_T38 l0 x3_1).f0) ≤ ((rd_T38 l0 (ji7)).f1)
         ·
          rw [if_pos c10] at H
          have c10b0 : decide (((rd_T38 l0 x3_1).f0) ≤ ((rd_T38 l0 (ji7)).f1)) = true := decide_eq_true c10
          clear c10
          obtain rfl := Option.some.inj H
          try go_wp2
          have n0_ := Aside0.mk (below_drew1 HB.out)
          clear HB
          have HB := n0_
          clear n0_
          have p164 : 0 ≤ (x3_1 : Int) := of_decide_eq_true asz
          have q164 : x3_1 < (l0.length : Int) := of_decide_eq_true asz
          obtain ⟨ad164, e164, hx164_0, hx164_1⟩ := at_T38 HR0.out x3_1 p164 q164
          have hw164_1 := hx164_1
          have hw164_0 := hx164_0
          cases e164
          replace hx164_0 := (HB.out.cell (World.block_lt_of_cell? w _ hx164_0)).trans hx164_0
          replace hx164_1 := (HB.out.cell (World.block_lt_of_cell? w _ hx164_1)).trans hx164_1
          replace p164 := eq_true p164
          replace q164 := eq_true q164
          have p166 : 0 ≤ (x3_1 : Int) := of_decide_eq_true asz
          have q166 : x3_1 < (l0.length : Int) := of_decide_eq_true asz
          obtain ⟨ad166, e166, hx166_0, hx166_1⟩ := at_T38 HR0.out x3_1 p166 q166
          have hw166_1 := hx166_1
          have hw166_0 := hx166_0
          obtain rfl : ad164 = ad166 := (by injection e166)
          replace hx166_0 := (HB.out.cell (World.block_lt_of_cell? w _ hx166_0)).trans hx166_0
          replace hx166_1 := (HB.out.cell (World.block_lt_of_cell? w _ hx166_1)).trans hx166_1
          replace p166 := eq_true p166
          replace q166 := eq_true q166
          have p167 : 0 ≤ ((ji7) : Int) := of_decide_eq_true asz
          have q167 : (ji7) < (l0.length : Int) := of_decide_eq_true asz
          obtain ⟨ad167, e167, hx167_0, hx167_1⟩ := at_T38 HR0.out (ji7) p167 q167
          have hw167_1 := hx167_1
          have hw167_0 := hx167_0
          obtain rfl : ad164 = ad167 := (by injection e167)
          replace hx167_0 := (HB.out.cell (World.block_lt_of_cell? w _ hx167_0)).trans hx167_0
          replace hx167_1 := (HB.out.cell (World.block_lt_of_cell? w _ hx167_1)).trans hx167_1
          replace p167 := eq_true p167
          replace q167 := eq_true q167
          refine start_ (n := 24) (S := fun w' => w'.cell? (ad164.add ((x3_1).toNat * 2)) = some (.int .i64 ((rd_T38 l0 x3_1).f0)) ∧ w'.cell? ⟨(ad164.add ((x3_1).toNat * 2)).block, (ad164.add ((x3_1).toNat * 2)).off + 1, none⟩ = some (.int .i64 ((rd_T38 l0 x3_1).f1)) ∧ w'.cell? (ad164.add ((x3_1).toNat * 2)) = some (.int .i64 ((rd_T38 l0 x3_1).f0)) ∧ w'.cell? ⟨(ad164.add ((x3_1).toNat * 2)).block, (ad164.add ((x3_1).toNat * 2)).off + 1, none⟩ = some (.int .i64 ((rd_T38 l0 x3_1).f1)) ∧ w'.cell? (ad164.add (((ji7)).toNat * 2)) = some (.int .i64 ((rd_T38 l0 (ji7)).f0)) ∧ w'.cell? ⟨(ad164.add (((ji7)).toNat * 2)).block, (ad164.add (((ji7)).toNat * 2)).off + 1, none⟩ = some (.int .i64 ((rd_T38 l0 (ji7)).f1))) (ds := []) #[false, false, false, false, false, false, false, false, false, false, false, false, false, false, false, false, false, false, false, false, false, false, false, false] (by kernel_rfl) rfl rfl ⟨((HB.out.cell (World.block_lt_of_cell? w _ hw164_0)).trans hw164_0), ((HB.out.cell (World.block_lt_of_cell? w _ hw164_1)).trans hw164_1), ((HB.out.cell (World.block_lt_of_cell? w _ hw166_0)).trans hw166_0), ((HB.out.cell (World.block_lt_of_cell? w _ hw166_1)).trans hw166_1), ((HB.out.cell (World.block_lt_of_cell? w _ hw167_0)).trans hw167_0), ((HB.out.cell (World.block_lt_of_cell? w _ hw167_1)).trans hw167_1)⟩ (fun hHeld => ?_); refine with_tabW dropperref01_Valid.tab4 dropperref01_Valid.bits4 (fun HT_ HW_ => ?_)
          generalize wr.drew = w11 at HB hx164_0 hx164_1 hx166_0 hx166_1 hx167_0 hx167_1 hHeld ⊢
          refine pst (i := 0) (N := some 10) (bz 24 1) (any_of HT_.out (by kernel_rfl)) ?_
          refine pst (i := 1) (N := some 11) (bz 24 3) (any_of HT_.out (by kernel_rfl)) ?_
          refine pst (i := 2) (N := some 12) (bz 24 7) (any_of HT_.out (by kernel_rfl)) ?_
          refine tst6 (i := 3) (N := some 13) (bz 24 15) (take_ofW HT_.out HW_.out (by kernel_rfl)) hHeld ?_
          refine one_ (i := 4) (N := some 14) #[true, true, true, true, true, false, false, false, false, false, false, false, false, false, false, false, false, false, false, false, false, false, false, false] rfl rfl (one_of HT_.out (by kernel_rfl)) (by decide) (fun K hK => ?_)
          refine goes_ Tryz.func30 (by kernel_rfl) rfl #[.agg #[.int .i64 ((rd_T38 l0 x3_1).f0), .int .i64 ((rd_T38 l0 x3_1).f1)]] (by rfl) rfl rfl mapz ?_
          with_reducible refine (dropperref01_isStretch.calls ((rd_T38 l0 x3_1).f0) ((rd_T38 l0 x3_1).f1) true _ A4.out).mono ?_
          rintro e w12 ⟨rfl, hb⟩
          refine ⟨_, rfl, ?_⟩
          have n0_ := Aside0.mk (below_step bel hb)
          clear HB
          have HB := n0_
          clear n0_
          (try clear hb)
          (try clear hb2)
          (try clear hk)
          (try clear hi)
          refine hK.out _ _ ⟨((HB.out.cell (World.block_lt_of_cell? w _ hw164_0)).trans hw164_0), ((HB.out.cell (World.block_lt_of_cell? w _ hw164_1)).trans hw164_1), ((HB.out.cell (World.block_lt_of_cell? w _ hw166_0)).trans hw166_0), ((HB.out.cell (World.block_lt_of_cell? w _ hw166_1)).trans hw166_1), ((HB.out.cell (World.block_lt_of_cell? w _ hw167_0)).trans hw167_0), ((HB.out.cell (World.block_lt_of_cell? w _ hw167_1)).trans hw167_1)⟩ (fun hHeld => ?_)
          clear hK K
          refine norm_ (a' := ?_) ?_ ?_
          rotate_left
          ·
           show Act.put _ (some 14) _ = _
           simp only [Act.put, List.setIfInBounds_toArray, List.set_cons_zero, List.set_cons_succ, i64_w, i32_w]
           rfl
          refine pst (i := 5) (N := some 15) (bz 24 63) (any_of HT_.out (by kernel_rfl)) ?_
          refine pst (i := 6) (N := some 16) (bz 24 127) (any_of HT_.out (by kernel_rfl)) ?_
          refine pst (i := 7) (N := some 17) (bz 24 255) (any_of HT_.out (by kernel_rfl)) ?_
          refine pst (i := 8) (N := some 18) (bz 24 511) (any_of HT_.out (by kernel_rfl)) ?_
          refine pst (i := 9) (N := some 19) (bz 24 1023) (any_of HT_.out (by kernel_rfl)) ?_
          refine pst (i := 10) (N := some 20) (bz 24 2047) (any_of HT_.out (by kernel_rfl)) ?_
          refine pst (i := 11) (N := some 21) (bz 24 4095) (any_of HT_.out (by kernel_rfl)) ?_
          refine pst (i := 12) (N := some 22) (bz 24 8191) (any_of HT_.out (by kernel_rfl)) ?_
          refine pst (i := 13) (N := some 23) (bz 24 16383) (any_of HT_.out (by kernel_rfl)) ?_
          refine pst (i := 15) (N := some 25) (bz 24 49151) (any_of HT_.out (by kernel_rfl)) ?_
          refine pst (i := 16) (N := some 26) (bz 24 114687) (any_of HT_.out (by kernel_rfl)) ?_
          refine pst (i := 17) (N := some 27) (bz 24 245759) (any_of HT_.out (by kernel_rfl)) ?_
          refine pst (i := 18) (N := some 28) (bz 24 507903) (any_of HT_.out (by kernel_rfl)) ?_
          refine pst (i := 19) (N := some 29) (bz 24 1032191) (any_of HT_.out (by kernel_rfl)) ?_
          refine tst6 (i := 14) (N := some 24) (bz 24 1048575) (take_ofW HT_.out HW_.out (by kernel_rfl)) hHeld ?_
          refine tst6 (i := 20) (N := some 30) (bz 24 2097151) (take_ofW HT_.out HW_.out (by kernel_rfl)) hHeld ?_
          refine pst (i := 21) (N := some 31) (bz 24 4194303) (any_of HT_.out (by kernel_rfl)) ?_
          refine pst (i := 22) (N := some 32) (bz 24 8388607) (any_of HT_.out (by kernel_rfl)) ?_
          refine pst (i := 23) (N := some 33) (bz 24 16777215) (any_of HT_.out (by kernel_rfl)) ?_
          refine done_ (done_of HT_.out (by kernel_rfl)) ?_
          try go_wp2
          go_ret
          exact ⟨by first | rfl | (simp [errW_none, errW_some] <;> rfl) | (simp only [← hji7]; first | rfl | (simp [errW_none, errW_some] <;> rfl)) | (simp [*, errW_none, errW_some] <;> rfl), bel⟩
         ·
          rw [if_neg c10] at H
          have c10b0 : decide (((rd_T38 l0 x3_1).f0) ≤ ((rd_T38 l0 (ji7)).f1)) = false := decide_eq_false c10
          clear c10
          have H' := Aside0.mk H
          clear H
          try go_wp2
          have n0_ := Aside0.mk (below_drew1 HB.out)
          clear HB
          have HB := n0_
          clear n0_
          have p164 : 0 ≤ (x3_1 : Int) := of_decide_eq_true asz
          have q164 : x3_1 < (l0.length : Int) := of_decide_eq_true asz
          obtain ⟨ad164, e164, hx164_0, hx164_1⟩ := at_T38 HR0.out x3_1 p164 q164
          have hw164_1 := hx164_1
          have hw164_0 := hx164_0
          cases e164
          replace hx164_0 := (HB.out.cell (World.block_lt_of_cell? w _ hx164_0)).trans hx164_0
          replace hx164_1 := (HB.out.cell (World.block_lt_of_cell? w _ hx164_1)).trans hx164_1
          replace p164 := eq_true p164
          replace q164 := eq_true q164
          have p166 : 0 ≤ (x3_1 : Int) := of_decide_eq_true asz
          have q166 : x3_1 < (l0.length : Int) := of_decide_eq_true asz
          obtain ⟨ad166, e166, hx166_0, hx166_1⟩ := at_T38 HR0.out x3_1 p166 q166
          have hw166_1 := hx166_1
          have hw166_0 := hx166_0
          obtain rfl : ad164 = ad166 := (by injection e166)
          replace hx166_0 := (HB.out.cell (World.block_lt_of_cell? w _ hx166_0)).trans hx166_0
          replace hx166_1 := (HB.out.cell (World.block_lt_of_cell? w _ hx166_1)).trans hx166_1
          replace p166 := eq_true p166
          replace q166 := eq_true q166
          have p167 : 0 ≤ ((ji7) : Int) := of_decide_eq_true asz
          have q167 : (ji7) < (l0.length : Int) := of_decide_eq_true asz
          obtain ⟨ad167, e167, hx167_0, hx167_1⟩ := at_T38 HR0.out (ji7) p167 q167
          have hw167_1 := hx167_1
          have hw167_0 := hx167_0
          obtain rfl : ad164 = ad167 := (by injection e167)
          replace hx167_0 := (HB.out.cell (World.block_lt_of_cell? w _ hx167_0)).trans hx167_0
          replace hx167_1 := (HB.out.cell (World.block_lt_of_cell? w _ hx167_1)).trans hx167_1
          replace p167 := eq_true p167
          replace q167 := eq_true q167
          refine start_ (n := 24) (S := fun w' => w'.cell? (ad164.add ((x3_1).toNat * 2)) = some (.int .i64 ((rd_T38 l0 x3_1).f0)) ∧ w'.cell? ⟨(ad164.add ((x3_1).toNat * 2)).block, (ad164.add ((x3_1).toNat * 2)).off + 1, none⟩ = some (.int .i64 ((rd_T38 l0 x3_1).f1)) ∧ w'.cell? (ad164.add ((x3_1).toNat * 2)) = some (.int .i64 ((rd_T38 l0 x3_1).f0)) ∧ w'.cell? ⟨(ad164.add ((x3_1).toNat * 2)).block, (ad164.add ((x3_1).toNat * 2)).off + 1, none⟩ = some (.int .i64 ((rd_T38 l0 x3_1).f1)) ∧ w'.cell? (ad164.add (((ji7)).toNat * 2)) = some (.int .i64 ((rd_T38 l0 (ji7)).f0)) ∧ w'.cell? ⟨(ad164.add (((ji7)).toNat * 2)).block, (ad164.add (((ji7)).toNat * 2)).off + 1, none⟩ = some (.int .i64 ((rd_T38 l0 (ji7)).f1))) (ds := []) #[false, false, false, false, false, false, false, false, false, false, false, false, false, false, false, false, false, false, false, false, false, false, false, false] (by kernel_rfl) rfl rfl ⟨((HB.out.cell (World.block_lt_of_cell? w _ hw164_0)).trans hw164_0), ((HB.out.cell (World.block_lt_of_cell? w _ hw164_1)).trans hw164_1), ((HB.out.cell (World.block_lt_of_cell? w _ hw166_0)).trans hw166_0), ((HB.out.cell (World.block_lt_of_cell? w _ hw166_1)).trans hw166_1), ((HB.out.cell (World.block_lt_of_cell? w _ hw167_0)).trans hw167_0), ((HB.out.cell (World.block_lt_of_cell? w _ hw167_1)).trans hw167_1)⟩ (fun hHeld => ?_); refine with_tabW dropperref01_Valid.tab4 dropperref01_Valid.bits4 (fun HT_ HW_ => ?_)
          generalize wr.drew = w13 at HB hx164_0 hx164_1 hx166_0 hx166_1 hx167_0 hx167_1 hHeld ⊢
          refine pst (i := 0) (N := some 10) (bz 24 1) (any_of HT_.out (by kernel_rfl)) ?_
          refine pst (i := 1) (N := some 11) (bz 24 3) (any_of HT_.out (by kernel_rfl)) ?_
          refine pst (i := 2) (N := some 12) (bz 24 7) (any_of HT_.out (by kernel_rfl)) ?_
          refine tst6 (i := 3) (N := some 13) (bz 24 15) (take_ofW HT_.out HW_.out (by kernel_rfl)) hHeld ?_
          refine one_ (i := 4) (N := some 14) #[true, true, true, true, true, false, false, false, false, false, false, false, false, false, false, false, false, false, false, false, false, false, false, false] rfl rfl (one_of HT_.out (by kernel_rfl)) (by decide) (fun K hK => ?_)
          refine goes_ Tryz.func30 (by kernel_rfl) rfl #[.agg #[.int .i64 ((rd_T38 l0 x3_1).f0), .int .i64 ((rd_T38 l0 x3_1).f1)]] (by rfl) rfl rfl mapz ?_
          with_reducible refine (dropperref01_isStretch.calls ((rd_T38 l0 x3_1).f0) ((rd_T38 l0 x3_1).f1) true _ A4.out).mono ?_
          rintro e w14 ⟨rfl, hb⟩
          refine ⟨_, rfl, ?_⟩
          have n0_ := Aside0.mk (below_step bel hb)
          clear HB
          have HB := n0_
          clear n0_
          (try clear hb)
          (try clear hb2)
          (try clear hk)
          (try clear hi)
          refine hK.out _ _ ⟨((HB.out.cell (World.block_lt_of_cell? w _ hw164_0)).trans hw164_0), ((HB.out.cell (World.block_lt_of_cell? w _ hw164_1)).trans hw164_1), ((HB.out.cell (World.block_lt_of_cell? w _ hw166_0)).trans hw166_0), ((HB.out.cell (World.block_lt_of_cell? w _ hw166_1)).trans hw166_1), ((HB.out.cell (World.block_lt_of_cell? w _ hw167_0)).trans hw167_0), ((HB.out.cell (World.block_lt_of_cell? w _ hw167_1)).trans hw167_1)⟩ (fun hHeld => ?_)
          clear hK K
          refine norm_ (a' := ?_) ?_ ?_
          rotate_left
          ·
           show Act.put _ (some 14) _ = _
           simp only [Act.put, List.setIfInBounds_toArray, List.set_cons_zero, List.set_cons_succ, i64_w, i32_w]
           rfl
          refine pst (i := 5) (N := some 15) (bz 24 63) (any_of HT_.out (by kernel_rfl)) ?_
          refine pst (i := 6) (N := some 16) (bz 24 127) (any_of HT_.out (by kernel_rfl)) ?_
          refine pst (i := 7) (N := some 17) (bz 24 255) (any_of HT_.out (by kernel_rfl)) ?_
          refine pst (i := 8) (N := some 18) (bz 24 511) (any_of HT_.out (by kernel_rfl)) ?_
          refine pst (i := 9) (N := some 19) (bz 24 1023) (any_of HT_.out (by kernel_rfl)) ?_
          refine pst (i := 10) (N := some 20) (bz 24 2047) (any_of HT_.out (by kernel_rfl)) ?_
          refine pst (i := 11) (N := some 21) (bz 24 4095) (any_of HT_.out (by kernel_rfl)) ?_
          refine pst (i := 12) (N := some 22) (bz 24 8191) (any_of HT_.out (by kernel_rfl)) ?_
          refine pst (i := 13) (N := some 23) (bz 24 16383) (any_of HT_.out (by kernel_rfl)) ?_
          refine pst (i := 15) (N := some 25) (bz 24 49151) (any_of HT_.out (by kernel_rfl)) ?_
          refine pst (i := 16) (N := some 26) (bz 24 114687) (any_of HT_.out (by kernel_rfl)) ?_
          refine pst (i := 17) (N := some 27) (bz 24 245759) (any_of HT_.out (by kernel_rfl)) ?_
          refine pst (i := 18) (N := some 28) (bz 24 507903) (any_of HT_.out (by kernel_rfl)) ?_
          refine pst (i := 19) (N := some 29) (bz 24 1032191) (any_of HT_.out (by kernel_rfl)) ?_
          refine tst6 (i := 14) (N := some 24) (bz 24 1048575) (take_ofW HT_.out HW_.out (by kernel_rfl)) hHeld ?_
          refine tst6 (i := 20) (N := some 30) (bz 24 2097151) (take_ofW HT_.out HW_.out (by kernel_rfl)) hHeld ?_
          refine pst (i := 21) (N := some 31) (bz 24 4194303) (any_of HT_.out (by kernel_rfl)) ?_
          refine pst (i := 22) (N := some 32) (bz 24 8388607) (any_of HT_.out (by kernel_rfl)) ?_
          refine pst (i := 23) (N := some 33) (bz 24 16777215) (any_of HT_.out (by kernel_rfl)) ?_
          refine done_ (done_of HT_.out (by kernel_rfl)) ?_
          try go_wp2
          go_roundg k1
          case measure => have := HK1.out; omega
          case rel => exact ⟨(wrap64 (x3_1 + 1)), rsz, H', ⟨by have := HK1.out; omega⟩, ⟨bel⟩⟩
        ·
         rw [if_neg c9] at H
         exact absurd H (by simp)
       ·
        rw [if_neg c8] at H
        exact absurd H (by simp)
      ·
       rw [if_neg c6] at H
       have c6b0 : decide (0 < x3_1) = false := decide_eq_false c6
       clear c6
       have H' := Aside0.mk H
       clear H
       try go_wp2
       have n0_ := Aside0.mk (below_drew1 HB.out)
       clear HB
       have HB := n0_
       clear n0_
       have p164 : 0 ≤ (x3_1 : Int) := of_decide_eq_true asz
       have q164 : x3_1 < (l0.length : Int) := of_decide_eq_true asz
       obtain ⟨ad164, e164, hx164_0, hx164_1⟩ := at_T38 HR0.out x3_1 p164 q164
       have hw164_1 := hx164_1
       have hw164_0 := hx164_0
       cases e164
       replace hx164_0 := (HB.out.cell (World.block_lt_of_cell? w _ hx164_0)).trans hx164_0
       replace hx164_1 := (HB.out.cell (World.block_lt_of_cell? w _ hx164_1)).trans hx164_1
       replace p164 := eq_true p164
       replace q164 := eq_true q164
       refine start_ (n := 24) (S := fun w' => w'.cell? (ad164.add ((x3_1).toNat * 2)) = some (.int .i64 ((rd_T38 l0 x3_1).f0)) ∧ w'.cell? ⟨(ad164.add ((x3_1).toNat * 2)).block, (ad164.add ((x3_1).toNat * 2)).off + 1, none⟩ = some (.int .i64 ((rd_T38 l0 x3_1).f1))) (ds := []) #[false, false, false, false, false, false, false, false, false, false, false, false, false, false, false, false, false, false, false, false, false, false, false, false] (by kernel_rfl) rfl rfl ⟨((HB.out.cell (World.block_lt_of_cell? w _ hw164_0)).trans hw164_0), ((HB.out.cell (World.block_lt_of_cell? w _ hw164_1)).trans hw164_1)⟩ (fun hHeld => ?_); refine with_tabW dropperref01_Valid.tab4 dropperref01_Valid.bits4 (fun HT_ HW_ => ?_)
       generalize wr.drew = w15 at HB hx164_0 hx164_1 hHeld ⊢
       refine pst (i := 0) (N := some 10) (bz 24 1) (any_of HT_.out (by kernel_rfl)) ?_
       refine pst (i := 1) (N := some 11) (bz 24 3) (any_of HT_.out (by kernel_rfl)) ?_
       refine pst (i := 2) (N := some 12) (bz 24 7) (any_of HT_.out (by kernel_rfl)) ?_
       refine tst2 (i := 3) (N := some 13) (bz 24 15) (take_ofW HT_.out HW_.out (by kernel_rfl)) hHeld ?_
       refine one_ (i := 4) (N := some 14) #[true, true, true, true, true, false, false, false, false, false, false, false, false, false, false, false, false, false, false, false, false, false, false, false] rfl rfl (one_of HT_.out (by kernel_rfl)) (by decide) (fun K hK => ?_)
       refine goes_ Tryz.func30 (by kernel_rfl) rfl #[.agg #[.int .i64 ((rd_T38 l0 x3_1).f0), .int .i64 ((rd_T38 l0 x3_1).f1)]] (by rfl) rfl rfl mapz ?_
       with_reducible refine (dropperref01_isStretch.calls ((rd_T38 l0 x3_1).f0) ((rd_T38 l0 x3_1).f1) true _ A4.out).mono ?_
       rintro e w16 ⟨rfl, hb⟩
       refine ⟨_, rfl, ?_⟩
       have n0_ := Aside0.mk (below_step bel hb)
       clear HB
       have HB := n0_
       clear n0_
       (try clear hb)
       (try clear hb2)
       (try clear hk)
       (try clear hi)
       refine hK.out _ _ ⟨((HB.out.cell (World.block_lt_of_cell? w _ hw164_0)).trans hw164_0), ((HB.out.cell (World.block_lt_of_cell? w _ hw164_1)).trans hw164_1)⟩ (fun hHeld => ?_)
       clear hK K
       refine norm_ (a' := ?_) ?_ ?_
       rotate_left
       ·
        show Act.put _ (some 14) _ = _
        simp only [Act.put, List.setIfInBounds_toArray, List.set_cons_zero, List.set_cons_succ, i64_w, i32_w]
        rfl
       refine pst (i := 5) (N := some 15) (bz 24 63) (any_of HT_.out (by kernel_rfl)) ?_
       refine pst (i := 6) (N := some 16) (bz 24 127) (any_of HT_.out (by kernel_rfl)) ?_
       refine pst (i := 7) (N := some 17) (bz 24 255) (any_of HT_.out (by kernel_rfl)) ?_
       refine pst (i := 8) (N := some 18) (bz 24 511) (any_of HT_.out (by kernel_rfl)) ?_
       refine pst (i := 9) (N := some 19) (bz 24 1023) (any_of HT_.out (by kernel_rfl)) ?_
       refine pso (i := 10) (N := some 20) (bz 24 2047) (any_of HT_.out (by kernel_rfl)) ?_
       refine pso (i := 11) (N := some 21) (bz 24 4095) (any_of HT_.out (by kernel_rfl)) ?_
       refine pso (i := 12) (N := some 22) (bz 24 8191) (any_of HT_.out (by kernel_rfl)) ?_
       refine pso (i := 13) (N := some 23) (bz 24 16383) (any_of HT_.out (by kernel_rfl)) ?_
       refine pso (i := 14) (N := some 24) (bz 24 32767) (any_of HT_.out (by kernel_rfl)) ?_
       refine pso (i := 15) (N := some 25) (bz 24 65535) (any_of HT_.out (by kernel_rfl)) ?_
       refine pso (i := 16) (N := some 26) (bz 24 131071) (any_of HT_.out (by kernel_rfl)) ?_
       refine pso (i := 17) (N := some 27) (bz 24 262143) (any_of HT_.out (by kernel_rfl)) ?_
       refine pso (i := 18) (N := some 28) (bz 24 524287) (any_of HT_.out (by kernel_rfl)) ?_
       refine pso (i := 19) (N := some 29) (bz 24 1048575) (any_of HT_.out (by kernel_rfl)) ?_
       refine pso (i := 20) (N := some 30) (bz 24 2097151) (any_of HT_.out (by kernel_rfl)) ?_
       refine pso (i := 21) (N := some 31) (bz 24 4194303) (any_of HT_.out (by kernel_rfl)) ?_
       refine pst (i := 22) (N := some 32) (bz 24 8388607) (any_of HT_.out (by kernel_rfl)) ?_
       refine pst (i := 23) (N := some 33) (bz 24 16777215) (any_of HT_.out (by kernel_rfl)) ?_
       refine done_ (done_of HT_.out (by kernel_rfl)) ?_
       try go_wp2
       go_roundg k1
       case measure => have := HK1.out; omega
       case rel => exact ⟨(wrap64 (x3_1 + 1)), rsz, H', ⟨by have := HK1.out; omega⟩, ⟨bel⟩⟩
     ·
      replace c5 := Bool.eq_false_iff.mpr c5
      subst c5
      rw [if_neg (show ¬ (false = true) by decide)] at H
      obtain rfl := Option.some.inj H
      try go_wp2
      have n0_ := Aside0.mk (below_drew1 HB.out)
      clear HB
      have HB := n0_
      clear n0_
      have p164 : 0 ≤ (x3_1 : Int) := of_decide_eq_true asz
      have q164 : x3_1 < (l0.length : Int) := of_decide_eq_true asz
      obtain ⟨ad164, e164, hx164_0, hx164_1⟩ := at_T38 HR0.out x3_1 p164 q164
      have hw164_1 := hx164_1
      have hw164_0 := hx164_0
      cases e164
      replace hx164_0 := (HB.out.cell (World.block_lt_of_cell? w _ hx164_0)).trans hx164_0
      replace hx164_1 := (HB.out.cell (World.block_lt_of_cell? w _ hx164_1)).trans hx164_1
      replace p164 := eq_true p164
      replace q164 := eq_true q164
      refine start_ (n := 24) (S := fun w' => w'.cell? (ad164.add ((x3_1).toNat * 2)) = some (.int .i64 ((rd_T38 l0 x3_1).f0)) ∧ w'.cell? ⟨(ad164.add ((x3_1).toNat * 2)).block, (ad164.add ((x3_1).toNat * 2)).off + 1, none⟩ = some (.int .i64 ((rd_T38 l0 x3_1).f1))) (ds := []) #[false, false, false, false, false, false, false, false, false, false, false, false, false, false, false, false, false, false, false, false, false, false, false, false] (by kernel_rfl) rfl rfl ⟨((HB.out.cell (World.block_lt_of_cell? w _ hw164_0)).trans hw164_0), ((HB.out.cell (World.block_lt_of_cell? w _ hw164_1)).trans hw164_1)⟩ (fun hHeld => ?_); refine with_tabW dropperref01_Valid.tab4 dropperref01_Valid.bits4 (fun HT_ HW_ => ?_)
      generalize wr.drew = w17 at HB hx164_0 hx164_1 hHeld ⊢
      refine pst (i := 0) (N := some 10) (bz 24 1) (any_of HT_.out (by kernel_rfl)) ?_
      refine pst (i := 1) (N := some 11) (bz 24 3) (any_of HT_.out (by kernel_rfl)) ?_
      refine pst (i := 2) (N := some 12) (bz 24 7) (any_of HT_.out (by kernel_rfl)) ?_
      refine tst2 (i := 3) (N := some 13) (bz 24 15) (take_ofW HT_.out HW_.out (by kernel_rfl)) hHeld ?_
      refine one_ (i := 4) (N := some 14) #[true, true, true, true, true, false, false, false, false, false, false, false, false, false, false, false, false, false, false, false, false, false, false, false] rfl rfl (one_of HT_.out (by kernel_rfl)) (by decide) (fun K hK => ?_)
      refine goes_ Tryz.func30 (by kernel_rfl) rfl #[.agg #[.int .i64 ((rd_T38 l0 x3_1).f0), .int .i64 ((rd_T38 l0 x3_1).f1)]] (by rfl) rfl rfl mapz ?_
      with_reducible refine (dropperref01_isStretch.calls ((rd_T38 l0 x3_1).f0) ((rd_T38 l0 x3_1).f1) false _ A4.out).mono ?_
      rintro e w18 ⟨rfl, hb⟩
      refine ⟨_, rfl, ?_⟩
      have n0_ := Aside0.mk (below_step bel hb)
      clear HB
      have HB := n0_
      clear n0_
      (try clear hb)
      (try clear hb2)
      (try clear hk)
      (try clear hi)
      refine hK.out _ _ ⟨((HB.out.cell (World.block_lt_of_cell? w _ hw164_0)).trans hw164_0), ((HB.out.cell (World.block_lt_of_cell? w _ hw164_1)).trans hw164_1)⟩ (fun hHeld => ?_)
      clear hK K
      refine norm_ (a' := ?_) ?_ ?_
      rotate_left
      ·
       show Act.put _ (some 14) _ = _
       simp only [Act.put, List.setIfInBounds_toArray, List.set_cons_zero, List.set_cons_succ, i64_w, i32_w]
       rfl
      refine pst (i := 5) (N := some 15) (bz 24 63) (any_of HT_.out (by kernel_rfl)) ?_
      refine pst (i := 6) (N := some 16) (bz 24 127) (any_of HT_.out (by kernel_rfl)) ?_
      refine pso (i := 7) (N := some 17) (bz 24 255) (any_of HT_.out (by kernel_rfl)) ?_
      refine pso (i := 8) (N := some 18) (bz 24 511) (any_of HT_.out (by kernel_rfl)) ?_
      refine pso (i := 9) (N := some 19) (bz 24 1023) (any_of HT_.out (by kernel_rfl)) ?_
      refine pso (i := 10) (N := some 20) (bz 24 2047) (any_of HT_.out (by kernel_rfl)) ?_
      refine pso (i := 11) (N := some 21) (bz 24 4095) (any_of HT_.out (by kernel_rfl)) ?_
      refine pso (i := 12) (N := some 22) (bz 24 8191) (any_of HT_.out (by kernel_rfl)) ?_
      refine pso (i := 13) (N := some 23) (bz 24 16383) (any_of HT_.out (by kernel_rfl)) ?_
      refine pso (i := 14) (N := some 24) (bz 24 32767) (any_of HT_.out (by kernel_rfl)) ?_
      refine pso (i := 15) (N := some 25) (bz 24 65535) (any_of HT_.out (by kernel_rfl)) ?_
      refine pso (i := 16) (N := some 26) (bz 24 131071) (any_of HT_.out (by kernel_rfl)) ?_
      refine pso (i := 17) (N := some 27) (bz 24 262143) (any_of HT_.out (by kernel_rfl)) ?_
      refine pso (i := 18) (N := some 28) (bz 24 524287) (any_of HT_.out (by kernel_rfl)) ?_
      refine pso (i := 19) (N := some 29) (bz 24 1048575) (any_of HT_.out (by kernel_rfl)) ?_
      refine pso (i := 20) (N := some 30) (bz 24 2097151) (any_of HT_.out (by kernel_rfl)) ?_
      refine pso (i := 21) (N := some 31) (bz 24 4194303) (any_of HT_.out (by kernel_rfl)) ?_
      refine pso (i := 22) (N := some 32) (bz 24 8388607) (any_of HT_.out (by kernel_rfl)) ?_
      refine pst (i := 23) (N := some 33) (bz 24 16777215) (any_of HT_.out (by kernel_rfl)) ?_
      refine done_ (done_of HT_.out (by kernel_rfl)) ?_
      try go_wp2
      go_ret
      exact ⟨ezz, bel⟩
    ·
     rw [if_neg c3] at H
     exact absurd H (by simp)
   ·
    rw [if_neg c2] at H
    have c2b0 : decide (x3_1 < (l0.length : Int)) = false := decide_eq_false c2
    clear c2
    obtain rfl := Option.some.inj H
    go_wp2
    go_ret
    exact ⟨ezz, bel⟩

/-! ### dropperref01_Dec: function 36 -/
def dropperref01_Dec.dg : Nat → Int → List UInt8
 | 0, _ => []
 | k + 1, n => if n < 10 then [UInt8.ofNat (48 + n.toNat)] else dropperref01_Dec.dg k (n / 10) ++ [UInt8.ofNat (48 + (n % 10).toNat)]
def dropperref01_Dec.txt (n : Int) : ByteArray := ⟨(dropperref01_Dec.dg 10 n).toArray⟩
def dropperref01_Dec.f (a0 : Int) : Option ByteArray := if 0 ≤ a0 ∧ a0 ≤ 1000000 then some (dropperref01_Dec.txt a0) else none
theorem dropperref01_Dec.enc (d : Int) (h0 : 0 ≤ d) (h1 : d ≤ 9) : Utf8.encode (48 + d) = ⟨#[UInt8.ofNat (48 + d.toNat)]⟩ := by
 have h : d = 0 ∨ d = 1 ∨ d = 2 ∨ d = 3 ∨ d = 4 ∨ d = 5 ∨ d = 6 ∨ d = 7 ∨ d = 8 ∨ d = 9 := by omega
 rcases h with rfl | rfl | rfl | rfl | rfl | rfl | rfl | rfl | rfl | rfl <;> rfl
theorem dropperref01_Dec.len : ∀ (k : Nat) (n : Int), (dropperref01_Dec.dg k n).length ≤ k
 | 0, _ => Nat.le_refl _
 | k + 1, n => by
  rw [dropperref01_Dec.dg]
  split
  ·
   simp
  ·
   have := dropperref01_Dec.len k (n / 10)
   rw [List.length_append, List.length_singleton]
   omega
set_option maxHeartbeats 2000000 in
set_option maxRecDepth 100000 in
theorem dropperref01_Dec.walk : ∀ (k : Nat) (n : Int) (w : World), 1 ≤ k → k ≤ 100 → 0 ≤ n → n ≤ 1000000 → n < 10 ^ k →
  Calls Tryz.prog 36 #[.int .i64 n] w fun e w' => e = .returned (.string ⟨(dropperref01_Dec.dg k n).toArray⟩) ∧ ∃ nd, w' = w.drewN nd
 | 0, n, w, hk1, _, _, _, _ => by omega
 | k + 1, n, w, _, hk0, h0, h1, h2 => by
  have hk : (10 : Int) ^ (k + 1) = 10 * (10 : Int) ^ k := by rw [Int.pow_succ, Int.mul_comm]
  rw [hk] at h2
  clear hk
  by_cases c : n < 10
  ·
   have d : decide (n < 10) = true := decide_eq_true c
   have e : wrap64 (48 + n) = 48 + n := by unfold wrap64; omega
   have D := Aside0.mk (show dropperref01_Dec.dg (k + 1) n = [UInt8.ofNat (48 + n.toNat)] by rw [dropperref01_Dec.dg, if_pos c])
   have E := Aside0.mk (dropperref01_Dec.enc n h0 (by omega))
   clear h1 h2
   go_enter Tryz.func36, Tryz.ntmps36
   go_wp2_with (fail)
   go_ret
   refine ⟨?_, 0, rfl⟩
   rw [D.out]
   exact congrArg (fun x => Ending.returned (.string x)) E.out
  ·
   have d : decide (n < 10) = false := decide_eq_false c
   have e1 : wrap64 (n.tdiv 10) = n / 10 := by rw [Int.tdiv_eq_ediv_of_nonneg h0]; unfold wrap64; omega
   have e2 : n.tmod 10 = n % 10 := Int.tmod_eq_emod_of_nonneg h0
   have e3 : wrap64 (48 + n % 10) = 48 + n % 10 := by unfold wrap64; omega
   have D := Aside0.mk (show dropperref01_Dec.dg (k + 1) n = dropperref01_Dec.dg k (n / 10) ++ [UInt8.ofNat (48 + (n % 10).toNat)] by rw [dropperref01_Dec.dg, if_neg c])
   have E := dropperref01_Dec.enc (n % 10) (by omega) (by omega)
   have hk1 : 1 ≤ k := by
    cases k with
    | zero => have e0 : (10 : Int) ^ 0 = 1 := rfl; rw [e0] at h2; omega
    | succ k => omega
   have IH0 := fun w => dropperref01_Dec.walk k (n / 10) w hk1 (by omega) (by omega) (by omega) (by omega)
   have hlen := dropperref01_Dec.len k (n / 10)
   obtain ⟨X, hX⟩ : ∃ X : ByteArray, X = ⟨(dropperref01_Dec.dg k (n / 10)).toArray⟩ := ⟨_, rfl⟩
   have hs : X.size ≤ 100 := by rw [hX]; show (dropperref01_Dec.dg k (n / 10)).toArray.size ≤ 100; rw [List.size_toArray]; omega
   rw [← hX] at IH0
   have IH := Aside0.mk IH0
   have HX := Aside0.mk hX
   have l1 : (9223372036854775807 < X.size + 1) = False := eq_false (by omega)
   have l2 : (9223372036854775807 < X.size + (Utf8.encode (48 + n % 10)).size) = False := by rw [E]; exact l1
   have EE := Aside0.mk E
   clear h1 h2 hX hlen IH0 hs E
   go_enter Tryz.func36, Tryz.ntmps36
   go_wp2_with (first | (go_at_call 36; (with_reducible refine (IH.out _).mono ?_); rintro e w1 ⟨rfl, ⟨nd, rfl⟩⟩))
   go_ret
   refine ⟨?_, nd, rfl⟩
   rw [D.out]
   refine congrArg (fun x => Ending.returned (.string x)) (a₁ := X ++ Utf8.encode (48 + n % 10)) ?_
   rw [EE.out, HX.out]
   apply ByteArray.ext
   simp
theorem dropperref01_Dec.calls (a0 : Int) (r : ByteArray) (w : World) (h : dropperref01_Dec.f a0 = some r) :
  Calls Tryz.prog 36 #[.int .i64 a0] w fun e w' => e = .returned (.string r) ∧ ∃ nd, w' = w.drewN nd := by
 unfold dropperref01_Dec.f at h
 by_cases hc : ¬ (0 ≤ a0 ∧ a0 ≤ 1000000)
 ·
  rw [if_neg hc] at h; cases h
 replace hc := Decidable.not_not.1 hc
 rw [if_pos hc] at h
 obtain rfl := Option.some.inj h
 exact dropperref01_Dec.walk 10 a0 w (by decide) (by decide) hc.1 hc.2 (by omega)

/-! ### dropperref01_at: function 24 -/
def dropperref01_at.f (a0 : Int) : Option (ByteArray) := (dropperref01_Dec.f (wrap64 (Int.tdiv a0 1000))).bind fun t147 => (if t147.size + 1 ≤ 9223372036854775807 then ((dropperref01_Dec.f (wrap64 (Int.tdiv (Int.tmod a0 1000) 100))).bind fun t148 => (if (t147 ++ (⟨#[43]⟩ : ByteArray)).size + t148.size ≤ 9223372036854775807 then ((dropperref01_Dec.f (Int.tmod (wrap64 (Int.tdiv (Int.tmod a0 1000) 10)) 10)).bind fun t149 => (if ((t147 ++ (⟨#[43]⟩ : ByteArray)) ++ t148).size + t149.size ≤ 9223372036854775807 then ((dropperref01_Dec.f (Int.tmod a0 10)).bind fun t150 => (if (((t147 ++ (⟨#[43]⟩ : ByteArray)) ++ t148) ++ t149).size + t150.size ≤ 9223372036854775807 then (some ((((t147 ++ (⟨#[43]⟩ : ByteArray)) ++ t148) ++ t149) ++ t150)) else (none))) else (none))) else (none))) else (none))
set_option maxHeartbeats 8000000 in
set_option maxRecDepth 100000 in
theorem dropperref01_at.calls (a0 : Int) (r : ByteArray) (w : World) (h : dropperref01_at.f a0 = some r) :
  Calls Tryz.prog 24 #[.int .i64 a0] w fun e w' => e = .returned (.string r) ∧ Drawn0 w w' := by
 have H : ((dropperref01_Dec.f (wrap64 (Int.tdiv a0 1000))).bind fun t147 => (if t147.size + 1 ≤ 9223372036854775807 then ((dropperref01_Dec.f (wrap64 (Int.tdiv (Int.tmod a0 1000) 100))).bind fun t148 => (if (t147 ++ (⟨#[43]⟩ : ByteArray)).size + t148.size ≤ 9223372036854775807 then ((dropperref01_Dec.f (Int.tmod (wrap64 (Int.tdiv (Int.tmod a0 1000) 10)) 10)).bind fun t149 => (if ((t147 ++ (⟨#[43]⟩ : ByteArray)) ++ t148).size + t149.size ≤ 9223372036854775807 then ((dropperref01_Dec.f (Int.tmod a0 10)).bind fun t150 => (if (((t147 ++ (⟨#[43]⟩ : ByteArray)) ++ t148) ++ t149).size + t150.size ≤ 9223372036854775807 then (some ((((t147 ++ (⟨#[43]⟩ : ByteArray)) ++ t148) ++ t149) ++ t150)) else (none))) else (none))) else (none))) else (none))) = some r := h
 clear h
 replace H := Option.bind_eq_some_iff.mp H
 obtain ⟨t147, A20, H⟩ := H
 try dsimp only at H
 have A2 := Aside0.mk A20
 clear A20
 by_cases c3 : t147.size + 1 ≤ 9223372036854775807
 ·
  rw [if_pos c3] at H
  have c3b0 := eq_true c3
  have c3b1 : decide (t147.size + 1 ≤ 9223372036854775807) = true := decide_eq_true c3
  try have c3b2 : (9223372036854775807 < t147.size + 1) = False := eq_false (Nat.not_lt.2 c3)
  replace H := Option.bind_eq_some_iff.mp H
  obtain ⟨t148, A40, H⟩ := H
  try dsimp only at H
  have A4 := Aside0.mk A40
  clear A40
  by_cases c5 : (t147 ++ (⟨#[43]⟩ : ByteArray)).size + t148.size ≤ 9223372036854775807
  ·
   rw [if_pos c5] at H
   have c5b0 := eq_true c5
   have c5b1 : decide ((t147 ++ (⟨#[43]⟩ : ByteArray)).size + t148.size ≤ 9223372036854775807) = true := decide_eq_true c5
   try have c5b2 : (9223372036854775807 < (t147 ++ (⟨#[43]⟩ : ByteArray)).size + t148.size) = False := eq_false (Nat.not_lt.2 c5)
   have c5b4 := c5b2
   try simp only [ByteArray.size_append, show (⟨#[43]⟩ : ByteArray).size = 1 from rfl] at c5b4
   have c5b4 := c5b2
   try simp only [ByteArray.size_append, show (⟨#[43]⟩ : ByteArray).size = 1 from rfl] at c5b4
   replace H := Option.bind_eq_some_iff.mp H
   obtain ⟨t149, A60, H⟩ := H
   try dsimp only at H
   have A6 := Aside0.mk A60
   clear A60
   by_cases c7 : ((t147 ++ (⟨#[43]⟩ : ByteArray)) ++ t148).size + t149.size ≤ 9223372036854775807
   ·
    rw [if_pos c7] at H
    have c7b0 := eq_true c7
    have c7b1 : decide (((t147 ++ (⟨#[43]⟩ : ByteArray)) ++ t148).size + t149.size ≤ 9223372036854775807) = true := decide_eq_true c7
    try have c7b2 : (9223372036854775807 < ((t147 ++ (⟨#[43]⟩ : ByteArray)) ++ t148).size + t149.size) = False := eq_false (Nat.not_lt.2 c7)
    have c7b4 := c7b2
    try simp only [ByteArray.size_append, show (⟨#[43]⟩ : ByteArray).size = 1 from rfl] at c7b4
    have c7b4 := c7b2
    try simp only [ByteArray.size_append, show (⟨#[43]⟩ : ByteArray).size = 1 from rfl] at c7b4
    replace H := Option.bind_eq_some_iff.mp H
    obtain ⟨t150, A80, H⟩ := H
    try dsimp only at H
    have A8 := Aside0.mk A80
    clear A80
    by_cases c9 : (((t147 ++ (⟨#[43]⟩ : ByteArray)) ++ t148) ++ t149).size + t150.size ≤ 9223372036854775807
    ·
     rw [if_pos c9] at H
     have c9b0 := eq_true c9
     have c9b1 : decide ((((t147 ++ (⟨#[43]⟩ : ByteArray)) ++ t148) ++ t149).size + t150.size ≤ 9223372036854775807) = true := decide_eq_true c9
     try have c9b2 : (9223372036854775807 < (((t147 ++ (⟨#[43]⟩ : ByteArray)) ++ t148) ++ t149).size + t150.size) = False := eq_false (Nat.not_lt.2 c9)
     have c9b4 := c9b2
     try simp only [ByteArray.size_append, show (⟨#[43]⟩ : ByteArray).size = 1 from rfl] at c9b4
     have c9b4 := c9b2
     try simp only [ByteArray.size_append, show (⟨#[43]⟩ : ByteArray).size = 1 from rfl] at c9b4
     obtain rfl := Option.some.inj H
     go_enter Tryz.func24, Tryz.ntmps24
     go_wp2_with (first | ((with_reducible refine gate_callee (f := 36) rfl ?_); refine goesL_ (some 8) rfl rfl Tryz.func36 (by kernel_rfl) rfl #[.int .i64 (wrap64 (Int.tdiv a0 1000))] rfl mapz ?_; (with_reducible refine (dropperref01_Dec.calls (wrap64 (Int.tdiv a0 1000)) t147 _ A2.out).mono ?_); rintro e w' ⟨rfl, ⟨nd, rfl⟩⟩; refine ⟨_, rfl, ?_⟩) | ((with_reducible refine gate_callee (f := 36) rfl ?_); refine goesL_ (some 12) rfl rfl Tryz.func36 (by kernel_rfl) rfl #[.int .i64 (wrap64 (Int.tdiv (Int.tmod a0 1000) 100))] rfl mapz ?_; (with_reducible refine (dropperref01_Dec.calls (wrap64 (Int.tdiv (Int.tmod a0 1000) 100)) t148 _ A4.out).mono ?_); rintro e w' ⟨rfl, ⟨nd, rfl⟩⟩; refine ⟨_, rfl, ?_⟩) | ((with_reducible refine gate_callee (f := 36) rfl ?_); refine goesL_ (some 17) rfl rfl Tryz.func36 (by kernel_rfl) rfl #[.int .i64 (Int.tmod (wrap64 (Int.tdiv (Int.tmod a0 1000) 10)) 10)] rfl mapz ?_; (with_reducible refine (dropperref01_Dec.calls (Int.tmod (wrap64 (Int.tdiv (Int.tmod a0 1000) 10)) 10) t149 _ A6.out).mono ?_); rintro e w' ⟨rfl, ⟨nd, rfl⟩⟩; refine ⟨_, rfl, ?_⟩) | ((with_reducible refine gate_callee (f := 36) rfl ?_); refine goesL_ (some 21) rfl rfl Tryz.func36 (by kernel_rfl) rfl #[.int .i64 (Int.tmod a0 10)] rfl mapz ?_; (with_reducible refine (dropperref01_Dec.calls (Int.tmod a0 10) t150 _ A8.out).mono ?_); rintro e w' ⟨rfl, ⟨nd, rfl⟩⟩; refine ⟨_, rfl, ?_⟩))
     go_ret
     exact ⟨by first | rfl | (simp; done) | (simp [*]; done), drz⟩
    ·
     rw [if_neg c9] at H
     exact absurd H (by simp)
   ·
    rw [if_neg c7] at H
    exact absurd H (by simp)
  ·
   rw [if_neg c5] at H
   exact absurd H (by simp)
 ·
  rw [if_neg c3] at H
  exact absurd H (by simp)

/-! ### dropperref01_text: function 28 -/
def dropperref01_text.l0 : Nat → List (S38) → ByteArray → Int → Option (ByteArray)
 | 0, _, _, _ => none
 | k + 1, x0, x3, x4 => if x4 < (x0.length : Int) then (if x4 > 0 then (if x3.size + 1 ≤ 9223372036854775807 then (if 0 ≤ x4 then ((dropperref01_at.f ((rd_T38 x0 x4).f0)).bind fun t169 => (if t169.size + 1 ≤ 9223372036854775807 then ((dropperref01_at.f ((rd_T38 x0 x4).f1)).bind fun t171 => (if (t169 ++ (⟨#[45]⟩ : ByteArray)).size + t171.size ≤ 9223372036854775807 then (if (x3 ++ (⟨#[32]⟩ : ByteArray)).size + ((t169 ++ (⟨#[45]⟩ : ByteArray)) ++ t171).size ≤ 9223372036854775807 then (dropperref01_text.l0 k x0 ((x3 ++ (⟨#[32]⟩ : ByteArray)) ++ ((t169 ++ (⟨#[45]⟩ : ByteArray)) ++ t171)) (wrap64 (x4 + 1))) else (none)) else (none))) else (none))) else (none)) else (none)) else (if 0 ≤ x4 then ((dropperref01_at.f ((rd_T38 x0 x4).f0)).bind fun t173 => (if t173.size + 1 ≤ 9223372036854775807 then ((dropperref01_at.f ((rd_T38 x0 x4).f1)).bind fun t175 => (if (t173 ++ (⟨#[45]⟩ : ByteArray)).size + t175.size ≤ 9223372036854775807 then (if x3.size + ((t173 ++ (⟨#[45]⟩ : ByteArray)) ++ t175).size ≤ 9223372036854775807 then (dropperref01_text.l0 k x0 (x3 ++ ((t173 ++ (⟨#[45]⟩ : ByteArray)) ++ t175)) (wrap64 (x4 + 1))) else (none)) else (none))) else (none))) else (none))) else (some x3)
def dropperref01_text.f (k : Nat) (l0 : List (S38)) : Option (ByteArray) := dropperref01_text.l0 k l0 (⟨#[]⟩ : ByteArray) 0
set_option maxHeartbeats 8000000 in
set_option maxRecDepth 100000 in
theorem dropperref01_text.calls (k : Nat) (A0 : Option Addr) (c0 : Nat) (l0 : List (S38)) (r : ByteArray) (w : World) (hr0 : Kd.C k38 w A0 l0.length l0) (hc0 : l0.length ≤ c0) (h : dropperref01_text.f k l0 = some r) :
  Calls Tryz.prog 28 #[.slice A0 l0.length c0] w fun e w' => e = .returned (.string r) ∧ Drawn0 w w' := by
 have HR0 := Aside0.mk hr0
 have HC0 := Aside0.mk hc0
 clear hr0 hc0
 have H : (dropperref01_text.l0 k l0 (⟨#[]⟩ : ByteArray) 0) = some r := h
 clear h
 have H' := Aside0.mk H
 clear H
 go_enter Tryz.func28, Tryz.ntmps28
 go_wp2
 repeat (go_quiet (fail); try go_wp2)
 go_loopg [3, 4] k (fun kq v3 v4 w' => ∃ (x3_1 : ByteArray) (x4_1 : Int), v3 = .string x3_1 ∧ v4 = .int .i64 x4_1 ∧ Aside0 (dropperref01_text.l0 kq l0 x3_1 x4_1 = some r) ∧ Aside0 (kq ≤ k) ∧ Drawn0 w w')
 case atStart => exact ⟨((⟨#[]⟩ : ByteArray)), (0), rsz, rsz, H', ⟨Nat.le_refl _⟩, drz⟩
 case round =>
  clear H'
  obtain ⟨x3_1, x4_1, rfl, rfl, HA, HK1, ⟨m1, rfl⟩⟩ := hrel
  cases gk with
  | zero => exact absurd HA.out (by simp [dropperref01_text.l0])
  | succ k1 =>
   have H := HA.out
   clear HA
   simp only [dropperref01_text.l0] at H
   by_cases c2 : x4_1 < (l0.length : Int)
   ·
    rw [if_pos c2] at H
    have c2b0 : decide (x4_1 < (l0.length : Int)) = true := decide_eq_true c2
    clear c2
    by_cases c3 : x4_1 > 0
    ·
     rw [if_pos c3] at H
     have c3b0 : decide (0 < x4_1) = true := decide_eq_true c3
     clear c3
     by_cases c4 : x3_1.size + 1 ≤ 9223372036854775807
     ·
      rw [if_pos c4] at H
      have c4b0 := eq_true c4
      have c4b1 : decide (x3_1.size + 1 ≤ 9223372036854775807) = true := decide_eq_true c4
      try have c4b2 : (9223372036854775807 < x3_1.size + 1) = False := eq_false (Nat.not_lt.2 c4)
      by_cases c5 : 0 ≤ x4_1
      ·
       rw [if_pos c5] at H
       have c5b0 : decide (0 ≤ x4_1) = true := decide_eq_true c5
       clear c5
       replace H := Option.bind_eq_some_iff.mp H
       obtain ⟨t169, A60, H⟩ := H
       try dsimp only at H
       have A6 := Aside0.mk A60
       clear A60
       by_cases c7 : t169.size + 1 ≤ 9223372036854775807
       ·
        rw [if_pos c7] at H
        have c7b0 := eq_true c7
        have c7b1 : decide (t169.size + 1 ≤ 9223372036854775807) = true := decide_eq_true c7
        try have c7b2 : (9223372036854775807 < t169.size + 1) = False := eq_false (Nat.not_lt.2 c7)
        replace H := Option.bind_eq_some_iff.mp H
        obtain ⟨t171, A80, H⟩ := H
        try dsimp only at H
        have A8 := Aside0.mk A80
        clear A80
        by_cases c9 : (t169 ++ (⟨#[45]⟩ : ByteArray)).size + t171.size ≤ 9223372036854775807
        ·
         rw [if_pos c9] at H
         have c9b0 := eq_true c9
         have c9b1 : decide ((t169 ++ (⟨#[45]⟩ : ByteArray)).size + t171.size ≤ 9223372036854775807) = true := decide_eq_true c9
         try have c9b2 : (9223372036854775807 < (t169 ++ (⟨#[45]⟩ : ByteArray)).size + t171.size) = False := eq_false (Nat.not_lt.2 c9)
         have c9b4 := c9b2
         try simp only [ByteArray.size_append, show (⟨#[45]⟩ : ByteArray).size = 1 from rfl] at c9b4
         by_cases c10 : (x3_1 ++ (⟨#[32]⟩ : ByteArray)).size + ((t169 ++ (⟨#[45]⟩ : ByteArray)) ++ t171).size ≤ 9223372036854775807
         ·
          rw [if_pos c10] at H
          have c10b0 := eq_true c10
          have c10b1 : decide ((x3_1 ++ (⟨#[32]⟩ : ByteArray)).size + ((t169 ++ (⟨#[45]⟩ : ByteArray)) ++ t171).size ≤ 9223372036854775807) = true := decide_eq_true c10
          try have c10b2 : (9223372036854775807 < (x3_1 ++ (⟨#[32]⟩ : ByteArray)).size + ((t169 ++ (⟨#[45]⟩ : ByteArray)) ++ t171).size) = False := eq_false (Nat.not_lt.2 c10)
          have c10b4 := c10b2
          try simp only [ByteArray.size_append, show (⟨#[32]⟩ : ByteArray).size = 1 from rfl, show (⟨#[45]⟩ : ByteArray).size = 1 from rfl] at c10b4
          have H' := Aside0.mk H
          clear H
          have p168 : 0 ≤ (x4_1 : Int) := of_decide_eq_true asz
          have q168 : x4_1 < (l0.length : Int) := of_decide_eq_true asz
          obtain ⟨ad168, e168, hx168_0, hx168_1⟩ := at_T38 HR0.out x4_1 p168 q168
          cases e168
          replace p168 := eq_true p168
          replace q168 := eq_true q168
          go_wp2_with (first | (go_at_call 24; (with_reducible refine (dropperref01_at.calls ((rd_T38 l0 x4_1).f0) t169 _ A6.out).mono ?_); rintro e w' ⟨rfl, ⟨nd, rfl⟩⟩; (try first | exact ⟨rfl, _, World.drewN_drewN _ _ _⟩ | exact ⟨rfl, _, Eq.trans (World.drewN_drewN _ _ _) (congrArg (World.drewN _) (Nat.add_assoc _ _ _))⟩); have p170 : 0 ≤ (x4_1 : Int) := of_decide_eq_true asz; have q170 : x4_1 < (l0.length : Int) := of_decide_eq_true asz; obtain ⟨ad170, e170, hx170_0, hx170_1⟩ := at_T38 HR0.out x4_1 p170 q170; obtain rfl : ad168 = ad170 := (by injection e170); replace p170 := eq_true p170; replace q170 := eq_true q170) | (go_at_call 24; (with_reducible refine (dropperref01_at.calls ((rd_T38 l0 x4_1).f1) t171 _ A8.out).mono ?_); rintro e w' ⟨rfl, ⟨nd, rfl⟩⟩; (try first | exact ⟨rfl, _, World.drewN_drewN _ _ _⟩ | exact ⟨rfl, _, Eq.trans (World.drewN_drewN _ _ _) (congrArg (World.drewN _) (Nat.add_assoc _ _ _))⟩)))
          repeat (go_quiet (first | (go_at_call 24; (with_reducible refine (dropperref01_at.calls ((rd_T38 l0 x4_1).f0) t169 _ A6.out).mono ?_); rintro e w' ⟨rfl, ⟨nd, rfl⟩⟩; (try first | exact ⟨rfl, _, World.drewN_drewN _ _ _⟩ | exact ⟨rfl, _, Eq.trans (World.drewN_drewN _ _ _) (congrArg (World.drewN _) (Nat.add_assoc _ _ _))⟩); have p170 : 0 ≤ (x4_1 : Int) := of_decide_eq_true asz; have q170 : x4_1 < (l0.length : Int) := of_decide_eq_true asz; obtain ⟨ad170, e170, hx170_0, hx170_1⟩ := at_T38 HR0.out x4_1 p170 q170; obtain rfl : ad168 = ad170 := (by injection e170); replace p170 := eq_true p170; replace q170 := eq_true q170) | (go_at_call 24; (with_reducible refine (dropperref01_at.calls ((rd_T38 l0 x4_1).f1) t171 _ A8.out).mono ?_); rintro e w' ⟨rfl, ⟨nd, rfl⟩⟩; (try first | exact ⟨rfl, _, World.drewN_drewN _ _ _⟩ | exact ⟨rfl, _, Eq.trans (World.drewN_drewN _ _ _) (congrArg (World.drewN _) (Nat.add_assoc _ _ _))⟩))); try go_wp2_with (first | (go_at_call 24; (with_reducible refine (dropperref01_at.calls ((rd_T38 l0 x4_1).f0) t169 _ A6.out).mono ?_); rintro e w' ⟨rfl, ⟨nd, rfl⟩⟩; (try first | exact ⟨rfl, _, World.drewN_drewN _ _ _⟩ | exact ⟨rfl, _, Eq.trans (World.drewN_drewN _ _ _) (congrArg (World.drewN _) (Nat.add_assoc _ _ _))⟩); have p170 : 0 ≤ (x4_1 : Int) := of_decide_eq_true asz; have q170 : x4_1 < (l0.length : Int) := of_decide_eq_true asz; obtain ⟨ad170, e170, hx170_0, hx170_1⟩ := at_T38 HR0.out x4_1 p170 q170; obtain rfl : ad168 = ad170 := (by injection e170); replace p170 := eq_true p170; replace q170 := eq_true q170) | (go_at_call 24; (with_reducible refine (dropperref01_at.calls ((rd_T38 l0 x4_1).f1) t171 _ A8.out).mono ?_); rintro e w' ⟨rfl, ⟨nd, rfl⟩⟩; (try first | exact ⟨rfl, _, World.drewN_drewN _ _ _⟩ | exact ⟨rfl, _, Eq.trans (World.drewN_drewN _ _ _) (congrArg (World.drewN _) (Nat.add_assoc _ _ _))⟩))))
          go_roundg k1
          case measure => have := HK1.out; omega
          case rel => exact ⟨((x3_1 ++ (⟨#[32]⟩ : ByteArray)) ++ ((t169 ++ (⟨#[45]⟩ : ByteArray)) ++ t171)), (wrap64 (x4_1 + 1)), rsz, rsz, H', ⟨by have := HK1.out; omega⟩, drz⟩
         ·
          rw [if_neg c10] at H
          exact absurd H (by simp)
        ·
         rw [if_neg c9] at H
         exact absurd H (by simp)
       ·
        rw [if_neg c7] at H
        exact absurd H (by simp)
      ·
       rw [if_neg c5] at H
       exact absurd H (by simp)
     ·
      rw [if_neg c4] at H
      exact absurd H (by simp)
    ·
     rw [if_neg c3] at H
     have c3b0 : decide (0 < x4_1) = false := decide_eq_false c3
     clear c3
     by_cases c11 : 0 ≤ x4_1
     ·
      rw [if_pos c11] at H
      have c11b0 : decide (0 ≤ x4_1) = true := decide_eq_true c11
      clear c11
      replace H := Option.bind_eq_some_iff.mp H
      obtain ⟨t173, A120, H⟩ := H
      try dsimp only at H
      have A12 := Aside0.mk A120
      clear A120
      by_cases c13 : t173.size + 1 ≤ 9223372036854775807
      ·
       rw [if_pos c13] at H
       have c13b0 := eq_true c13
       have c13b1 : decide (t173.size + 1 ≤ 9223372036854775807) = true := decide_eq_true c13
       try have c13b2 : (9223372036854775807 < t173.size + 1) = False := eq_false (Nat.not_lt.2 c13)
       replace H := Option.bind_eq_some_iff.mp H
       obtain ⟨t175, A140, H⟩ := H
       try dsimp only at H
       have A14 := Aside0.mk A140
       clear A140
       by_cases c15 : (t173 ++ (⟨#[45]⟩ : ByteArray)).size + t175.size ≤ 9223372036854775807
       ·
        rw [if_pos c15] at H
        have c15b0 := eq_true c15
        have c15b1 : decide ((t173 ++ (⟨#[45]⟩ : ByteArray)).size + t175.size ≤ 9223372036854775807) = true := decide_eq_true c15
        try have c15b2 : (9223372036854775807 < (t173 ++ (⟨#[45]⟩ : ByteArray)).size + t175.size) = False := eq_false (Nat.not_lt.2 c15)
        have c15b4 := c15b2
        try simp only [ByteArray.size_append, show (⟨#[45]⟩ : ByteArray).size = 1 from rfl] at c15b4
        by_cases c16 : x3_1.size + ((t173 ++ (⟨#[45]⟩ : ByteArray)) ++ t175).size ≤ 9223372036854775807
        ·
         rw [if_pos c16] at H
         have c16b0 := eq_true c16
         have c16b1 : decide (x3_1.size + ((t173 ++ (⟨#[45]⟩ : ByteArray)) ++ t175).size ≤ 9223372036854775807) = true := decide_eq_true c16
         try have c16b2 : (9223372036854775807 < x3_1.size + ((t173 ++ (⟨#[45]⟩ : ByteArray)) ++ t175).size) = False := eq_false (Nat.not_lt.2 c16)
         have c16b4 := c16b2
         try simp only [ByteArray.size_append, show (⟨#[45]⟩ : ByteArray).size = 1 from rfl] at c16b4
         have H' := Aside0.mk H
         clear H
         have p172 : 0 ≤ (x4_1 : Int) := of_decide_eq_true asz
         have q172 : x4_1 < (l0.length : Int) := of_decide_eq_true asz
         obtain ⟨ad172, e172, hx172_0, hx172_1⟩ := at_T38 HR0.out x4_1 p172 q172
         cases e172
         replace p172 := eq_true p172
         replace q172 := eq_true q172
         go_wp2_with (first | (go_at_call 24; (with_reducible refine (dropperref01_at.calls ((rd_T38 l0 x4_1).f0) t173 _ A12.out).mono ?_); rintro e w' ⟨rfl, ⟨nd, rfl⟩⟩; (try first | exact ⟨rfl, _, World.drewN_drewN _ _ _⟩ | exact ⟨rfl, _, Eq.trans (World.drewN_drewN _ _ _) (congrArg (World.drewN _) (Nat.add_assoc _ _ _))⟩); have p174 : 0 ≤ (x4_1 : Int) := of_decide_eq_true asz; have q174 : x4_1 < (l0.length : Int) := of_decide_eq_true asz; obtain ⟨ad174, e174, hx174_0, hx174_1⟩ := at_T38 HR0.out x4_1 p174 q174; obtain rfl : ad172 = ad174 := (by injection e174); replace p174 := eq_true p174; replace q174 := eq_true q174) | (go_at_call 24; (with_reducible refine (dropperref01_at.calls ((rd_T38 l0 x4_1).f1) t175 _ A14.out).mono ?_); rintro e w' ⟨rfl, ⟨nd, rfl⟩⟩; (try first | exact ⟨rfl, _, World.drewN_drewN _ _ _⟩ | exact ⟨rfl, _, Eq.trans (World.drewN_drewN _ _ _) (congrArg (World.drewN _) (Nat.add_assoc _ _ _))⟩)))
         repeat (go_quiet (first | (go_at_call 24; (with_reducible refine (dropperref01_at.calls ((rd_T38 l0 x4_1).f0) t173 _ A12.out).mono ?_); rintro e w' ⟨rfl, ⟨nd, rfl⟩⟩; (try first | exact ⟨rfl, _, World.drewN_drewN _ _ _⟩ | exact ⟨rfl, _, Eq.trans (World.drewN_drewN _ _ _) (congrArg (World.drewN _) (Nat.add_assoc _ _ _))⟩); have p174 : 0 ≤ (x4_1 : Int) := of_decide_eq_true asz; have q174 : x4_1 < (l0.length : Int) := of_decide_eq_true asz; obtain ⟨ad174, e174, hx174_0, hx174_1⟩ := at_T38 HR0.out x4_1 p174 q174; obtain rfl : ad172 = ad174 := (by injection e174); replace p174 := eq_true p174; replace q174 := eq_true q174) | (go_at_call 24; (with_reducible refine (dropperref01_at.calls ((rd_T38 l0 x4_1).f1) t175 _ A14.out).mono ?_); rintro e w' ⟨rfl, ⟨nd, rfl⟩⟩; (try first | exact ⟨rfl, _, World.drewN_drewN _ _ _⟩ | exact ⟨rfl, _, Eq.trans (World.drewN_drewN _ _ _) (congrArg (World.drewN _) (Nat.add_assoc _ _ _))⟩))); try go_wp2_with (first | (go_at_call 24; (with_reducible refine (dropperref01_at.calls ((rd_T38 l0 x4_1).f0) t173 _ A12.out).mono ?_); rintro e w' ⟨rfl, ⟨nd, rfl⟩⟩; (try first | exact ⟨rfl, _, World.drewN_drewN _ _ _⟩ | exact ⟨rfl, _, Eq.trans (World.drewN_drewN _ _ _) (congrArg (World.drewN _) (Nat.add_assoc _ _ _))⟩); have p174 : 0 ≤ (x4_1 : Int) := of_decide_eq_true asz; have q174 : x4_1 < (l0.length : Int) := of_decide_eq_true asz; obtain ⟨ad174, e174, hx174_0, hx174_1⟩ := at_T38 HR0.out x4_1 p174 q174; obtain rfl : ad172 = ad174 := (by injection e174); replace p174 := eq_true p174; replace q174 := eq_true q174) | (go_at_call 24; (with_reducible refine (dropperref01_at.calls ((rd_T38 l0 x4_1).f1) t175 _ A14.out).mono ?_); rintro e w' ⟨rfl, ⟨nd, rfl⟩⟩; (try first | exact ⟨rfl, _, World.drewN_drewN _ _ _⟩ | exact ⟨rfl, _, Eq.trans (World.drewN_drewN _ _ _) (congrArg (World.drewN _) (Nat.add_assoc _ _ _))⟩))))
         go_roundg k1
         case measure => have := HK1.out; omega
         case rel => exact ⟨(x3_1 ++ ((t173 ++ (⟨#[45]⟩ : ByteArray)) ++ t175)), (wrap64 (x4_1 + 1)), rsz, rsz, H', ⟨by have := HK1.out; omega⟩, drz⟩
        ·
         rw [if_neg c16] at H
         exact absurd H (by simp)
       ·
        rw [if_neg c15] at H
        exact absurd H (by simp)
      ·
       rw [if_neg c13] at H
       exact absurd H (by simp)
     ·
      rw [if_neg c11] at H
      exact absurd H (by simp)
   ·
    rw [if_neg c2] at H
    have c2b0 : decide (x4_1 < (l0.length : Int)) = false := decide_eq_false c2
    clear c2
    obtain rfl := Option.some.inj H
    go_wp2
    repeat (go_quiet (fail); try go_wp2)
    go_ret
    exact ⟨by first | rfl | (simp; done) | (simp [*]; done), drz⟩

/-! ### dropperref01_Format: function 13 -/
def dropperref01_Format.f (k : Nat) (l0 : List (S38)) : Option (ByteArray × Int) := (dropperref01_Valid.f k l0).bind fun t176 => (if t176 = true then ((dropperref01_text.f k l0).bind fun t177 => (some (t177, 0))) else (some ((⟨#[]⟩ : ByteArray), 10)))
set_option maxHeartbeats 8000000 in
set_option maxRecDepth 100000 in
theorem dropperref01_Format.calls (k : Nat) (A0 : Option Addr) (c0 : Nat) (l0 : List (S38)) (r1 : ByteArray) (r2 : Int) (w : World) (hr0 : Kd.C k38 w A0 l0.length l0) (hc0 : l0.length ≤ c0) (h : dropperref01_Format.f k l0 = some (r1, r2)) :
  Calls Tryz.prog 13 #[.slice A0 l0.length c0] w fun e w' => e = .returned (.tuple #[.string r1, .int .i64 r2]) ∧ Below w.heap.size w w' := by
 have HR0 := Aside0.mk hr0
 have HC0 := Aside0.mk hc0
 clear hr0 hc0
 have HB := Aside0.mk (Below.refl w.heap.size w)
 have H : ((dropperref01_Valid.f k l0).bind fun t176 => (if t176 = true then ((dropperref01_text.f k l0).bind fun t177 => (some (t177, 0))) else (some ((⟨#[]⟩ : ByteArray), 10)))) = some (r1, r2) := h
 clear h
 replace H := Option.bind_eq_some_iff.mp H
 obtain ⟨t176, A20, H⟩ := H
 try dsimp only at H
 have A2 := Aside0.mk A20
 clear A20
 by_cases c3 : t176 = true
 ·
  subst c3
  rw [if_pos rfl] at H
  replace H := Option.bind_eq_some_iff.mp H
  obtain ⟨t177, A40, H⟩ := H
  try dsimp only at H
  have A4 := Aside0.mk A40
  clear A40
  simp only [Option.some.injEq, Prod.mk.injEq] at H
  obtain ⟨rfl, rfl⟩ := H
  go_enter Tryz.func13, Tryz.ntmps13
  go_wp2_with (first | ((with_reducible refine gate_callee (f := 15) rfl ?_); refine goesL_ (some 5) rfl rfl Tryz.func15 (by kernel_rfl) rfl #[.slice A0 l0.length c0] rfl mapz ?_; (with_reducible refine (dropperref01_Valid.calls k _ _ l0 true _ ?side1 HC0.out A2.out).mono ?_); (case side1 => repeat (first | exact HR0.out | (with_reducible refine Kd.C_alloc ?_ _) | (with_reducible refine Kd.C_drewN ?_ _) | (with_reducible refine Kd.C_drew ?_))); rintro e w5 ⟨rfl, hb⟩; refine ⟨_, rfl, ?_⟩; replace HB := Aside0.mk (below_step bel hb); clear hb) | ((with_reducible refine gate_callee (f := 28) rfl ?_); refine goesL_ (some 8) rfl rfl Tryz.func28 (by kernel_rfl) rfl #[.slice A0 l0.length c0] rfl mapz ?_; (with_reducible refine (dropperref01_text.calls k _ _ l0 t177 _ (cbz HR0) HC0.out A4.out).mono ?_); rintro e w' ⟨rfl, ⟨nd, rfl⟩⟩; refine ⟨_, rfl, ?_⟩))
  go_ret2
  exact ⟨ezz, bel⟩
 ·
  replace c3 := Bool.eq_false_iff.mpr c3
  subst c3
  rw [if_neg (show ¬ (false = true) by decide)] at H
  simp only [Option.some.injEq, Prod.mk.injEq] at H
  obtain ⟨rfl, rfl⟩ := H
  go_enter Tryz.func13, Tryz.ntmps13
  go_wp2_with (first | ((with_reducible refine gate_callee (f := 15) rfl ?_); refine goesL_ (some 5) rfl rfl Tryz.func15 (by kernel_rfl) rfl #[.slice A0 l0.length c0] rfl mapz ?_; (with_reducible refine (dropperref01_Valid.calls k _ _ l0 false _ ?side1 HC0.out A2.out).mono ?_); (case side1 => repeat (first | exact HR0.out | (with_reducible refine Kd.C_alloc ?_ _) | (with_reducible refine Kd.C_drewN ?_ _) | (with_reducible refine Kd.C_drew ?_))); rintro e w6 ⟨rfl, hb⟩; refine ⟨_, rfl, ?_⟩; replace HB := Aside0.mk (below_step bel hb); clear hb))
  go_ret2
  exact ⟨ezz, bel⟩

end Go.Proofs.YtcmdcgghpkcchaaGreatDoor.XMast

/- strings.SplitSeq by one byte: its iterator keeps what is left in a cell of its own; a round's contract out of the walk of a body. -/
namespace Go.Proofs.YtcmdcgghpkcchaaGreatDoor.SeqW
open Go.RowKit Go.Shelf Go.Proofs.YtcmdcgghpkcchaaGreatDoorW.PrintWords Go.Proofs.YtcmdcgghpkcchaaGreatDoorW.PrintLast Go.Proofs.YtcmdcgghpkcchaaGreatDoorW.PrintMore
set_option linter.unusedVariables false
attribute [local go_sem] Oper.semAt_some

def split : List UInt8 → List (List UInt8)
 | [] => [[]]
 | b :: t => if b = 32 then [] :: split t else match split t with
  | [] => [[b]]
  | p :: r => (b :: p) :: r
theorem split_ne : ∀ s, split s ≠ []
 | [] => by simp [split]
 | b :: t => by
  rw [split]
  split
  ·
   simp
  ·
   split <;> simp
def roundEnd (l : Nat) (rec : LoopState → Option Code → Loop) (R : Ending → World → Prop) : Exit → Act → World → Prop
 | .normal, _, W => W.heap[l]? = some (.loop (rec .busy none)) ∧ R (.returned (.bool true)) (W.putObj l (.loop (rec .ready none)))
 | .ret, _, W => W.heap[l]? = some (.loop (rec .busy none)) ∧ R (.returned (.bool false)) (W.putObj l (.loop (rec .done (some .ret))))
 | .exit id, _, W => W.heap[l]? = some (.loop (rec .busy none)) ∧ R (.returned (.bool false)) (W.putObj l (.loop (rec .done (some (.exit id)))))
 | _, _, _ => False
def record (fn : FuncId) (tmps : Array Value) (ps : Array Tmp) (assign body : Code) (D : Nat) (st : LoopState) (pe : Option Code) : Loop := { state := st, pending := pe, fn, tmps, params := ps, assign, body, defers := D }
theorem round_of {n : Nat} {P : Program} {l D fn : Nat} {tmps : Array Value} {ps : Array Tmp} {assign body : Code} {args : Array Value} {W : World} {R : Ending → World → Prop}
  (hl : W.heap[l]? = some (.loop (record fn tmps ps assign body D .ready none))) (hps : args.size = ps.size) (a₁ : Act)
  (hassign : ∀ K : Act → World → Prop, K a₁ W → assign.wpIn (Fence.wide.inRound l) n P (Exit.then K (fun _ _ _ => False)) { tmps := (ps.zip args).foldl (fun t (p, v) => t.setIfInBounds p v) tmps, defers := [] } W)
  (hbody : body.wpIn (Fence.wide.inRound l) n P (roundEnd l (record fn tmps ps assign body D) R) a₁ (W.putObj l (.loop (record fn tmps ps assign body D .busy none)))) :
  YieldAt Fence.wide n P l args W R := by
 refine ⟨fn, _, assign, body, run_yield hl hps, roundIn_of_wpIn trivial (hassign _ ⟨_, run_beginRound hl rfl, wpIn_mono hbody ?_⟩)⟩
 intro e a W3 h
 cases e with
 | normal => exact ⟨_, _, run_endRound none h.1, h.2⟩
 | ret => exact ⟨_, _, run_endRound (some .ret) h.1, h.2⟩
 | exit id => exact ⟨_, _, run_endRound (some (.exit id)) h.1, h.2⟩
 | goto t => exact h.elim
 | panic c => exact h.elim
 | outgrown => exact h.elim
theorem split_none : ∀ s : List UInt8, Lib.indexByte s 32 < 0 → split s = [s]
 | [], _ => rfl
 | b :: t, h => by
  rw [Lib.indexByte] at h
  by_cases hb : b = 32
  ·
   rw [hb] at h; simp at h
  ·
   have hbb : (b == 32) = false := beq_eq_false_iff_ne.2 hb
   have h2 : Lib.indexByte t 32 < 0 := by
    have := Lib.indexByte_ge t 32
    simp only [hbb, Bool.false_eq_true, if_false] at h
    split at h
    ·
     rename_i hh
     have := beq_iff_eq.1 hh
     omega
    ·
     omega
   rw [split, if_neg hb, split_none t h2]
theorem split_some : ∀ (s : List UInt8) (i : Nat), Lib.indexByte s 32 = (i : Int) → i < s.length ∧ split s = s.take i :: split (s.drop (i + 1))
 | [], i, h => by simp [Lib.indexByte] at h
 | b :: t, i, h => by
  rw [Lib.indexByte] at h
  by_cases hb : b = 32
  ·
   have hi : i = 0 := by rw [hb] at h; simp at h; omega
   subst hi
   rw [split, if_pos hb]
   simp
  ·
   have hbb : (b == 32) = false := beq_eq_false_iff_ne.2 hb
   obtain ⟨j, rfl, hj⟩ : ∃ j, i = j + 1 ∧ Lib.indexByte t 32 = (j : Int) := by
    have := Lib.indexByte_ge t 32
    simp only [hbb, Bool.false_eq_true, if_false] at h
    split at h
    ·
     omega
    ·
     rename_i hh
     have h10 : Lib.indexByte t 32 ≠ -1 := fun e => hh (beq_iff_eq.2 e)
     generalize Lib.indexByte t 32 = q at *
     cases i with
     | zero => exfalso; clear hh; omega
     | succ j => exact ⟨j, rfl, by clear hh; omega⟩
   obtain ⟨h1, h2⟩ := split_some t j hj
   refine ⟨by simp; omega, ?_⟩
   rw [split, if_neg hb, h2]
   rfl
structure SC (B : Nat) (s : List UInt8) (W : World) : Prop where
 rest : W.cell? ⟨B, 0, none⟩ = some (.string ⟨s.toArray⟩)
 open_ : W.frozen? ⟨B, 0, none⟩ = false
 sep : W.cell? ⟨B + 1, 0, none⟩ = some (.string ⟨#[32]⟩)
 save : W.cell? ⟨B + 2, 0, none⟩ = some (.int .i64 0)
def left (B : Nat) (W : World) : Nat := match W.cell? ⟨B, 0, none⟩ with | some (.string s) => s.size | _ => 0
set_option maxHeartbeats 4000000 in
set_option maxRecDepth 100000 in
theorem closure_in (l B : Nat) (s0 : List UInt8) (h0 : s0.length ≤ 1000000) (J : List (List UInt8) → World → Prop) (Jx : World → Prop)
  (hS : ∀ pre W v, J pre W → J pre (W.setCell ⟨B, 0, none⟩ v))
  (hY : ∀ pre x rest s W, split s0 = pre ++ x :: rest → J pre W → SC B s W → YieldAt Fence.wide 1 Tryz.prog l #[.string ⟨x.toArray⟩] W fun e W' =>
   (e = .returned (.bool true) ∧ J (pre ++ [x]) W' ∧ SC B s W') ∨ (e = .returned (.bool false) ∧ Jx W'))
  (W : World) (hJ : J [] W) (hC : SC B s0 W) :
  CallsIn Fence.wide 2 Tryz.prog 59 #[.func (.yield l) #[] #[], .pointer (some ⟨B + 1, 0, none⟩), .pointer (some ⟨B, 0, none⟩), .pointer (some ⟨B + 2, 0, none⟩)] W fun e W' => (∃ v, e = .returned v) ∧
   (J (split s0) W' ∨ Jx W') := by
 have c1 := hC.sep
 refine callsIn_of_wp Tryz.func59 rfl trivial ?_ rfl
 simp only [Tryz.ntmps59, List.size_toArray, List.length_cons, List.length_nil, Nat.reduceAdd, Nat.reduceSub, Array.replicate_succ, Array.replicate_zero, List.push_toArray, List.append_toArray, List.nil_append, List.cons_append]
 gi_wp2
 gi_loopw [7] (fun p wr => ∃ (pre : List (List UInt8)) (s : List UInt8), split s0 = pre ++ split s ∧ s.length ≤ s0.length ∧ J pre wr ∧ SC B s wr)
  (fun p wr => left B wr)
 case atStart => exact ⟨[], s0, rfl, Nat.le_refl _, hJ, hC⟩
 case round =>
  obtain ⟨pre, s, hsp, hlen, hJs, hCs⟩ := hrel
  rcases Lib.indexByte_ge s 32 |> (fun h => show Lib.indexByte s 32 < 0 ∨ ∃ i : Nat, Lib.indexByte s 32 = (i : Int) from if h2 : Lib.indexByte s 32 < 0 then .inl h2 else .inr ⟨(Lib.indexByte s 32).toNat, by omega⟩) with hi | ⟨i, hi⟩
  ·
   have e1 := split_none s hi
   rw [e1] at hsp
   obtain ⟨fn, tmps, assign, body, hy, hR⟩ := hY pre s [] s wr hsp hJs hCs
   have d1 : decide (Lib.indexByte s 32 < 0) = true := decide_eq_true hi
   have HIX := Aside0.mk (Tryz.strings_Index_one ⟨s.toArray⟩ 32)
   simp only [show (⟨s.toArray⟩ : ByteArray).data.toList = s from by simp] at HIX
   have hs1 := hCs.rest
   have hs2 := hCs.sep
   have hs3 := hCs.save
   gi_wp2_with (refine ⟨trivial, ?_⟩; gi_at_call 61; refine (callsIn_wide.2 (HIX.out _)).mono ?_; rintro e w' ⟨rfl, rfl⟩)
   refine hR.mono ?_
   rintro e W3 (⟨rfl, hJ3, hC3⟩ | ⟨rfl, hx3⟩)
   ·
    gi_wp2
    go_end0
    exact ⟨⟨_, rfl⟩, .inl (by rw [hsp]; exact hJ3)⟩
   ·
    gi_wp2
    go_end0
    exact ⟨⟨_, rfl⟩, .inr hx3⟩
  ·
   obtain ⟨hil, e1⟩ := split_some s i hi
   rw [e1] at hsp
   obtain ⟨fn, tmps, assign, body, hy, hR⟩ := hY pre (s.take i) (split (s.drop (i + 1))) s wr hsp hJs hCs
   have d1 : decide (Lib.indexByte s 32 < 0) = false := decide_eq_false (by omega)
   have ex : (⟨s.toArray⟩ : ByteArray).extract 0 i = ⟨(s.take i).toArray⟩ := by
    apply ByteArray.ext
    simp [ByteArray.data_extract]
   have HIX := Aside0.mk (Tryz.strings_Index_one ⟨s.toArray⟩ 32)
   simp only [show (⟨s.toArray⟩ : ByteArray).data.toList = s from by simp, hi] at HIX
   have hs1 := hCs.rest
   have hs2 := hCs.sep
   have hs3 := hCs.save
   have hsz : (⟨s.toArray⟩ : ByteArray).size = s.length := by simp [ByteArray.size]
   gi_wp2_with (refine ⟨trivial, ?_⟩; gi_at_call 61; refine (callsIn_wide.2 (HIX.out _)).mono ?_; rintro e w' ⟨rfl, rfl⟩)
   refine hR.mono ?_
   rintro e W3 (⟨rfl, hJ3, hC3⟩ | ⟨rfl, hx3⟩)
   ·
    have k1 := hC3.rest
    have k2 := hC3.sep
    have k3 := hC3.open_
    gi_wp2
    have ex2 : (⟨s.toArray⟩ : ByteArray).extract (i + 1) s.length = ⟨(s.drop (i + 1)).toArray⟩ := by
     apply ByteArray.ext
     simp only [ByteArray.data_extract, List.extract_toArray, List.extract_eq_take_drop]
     rw [List.take_of_length_le (by simp)]
    rw [ex2]
    have n1 : (W3.setCell ⟨B, 0, none⟩ (.string ⟨(s.drop (i + 1)).toArray⟩)).cell? ⟨B, 0, none⟩ = some (.string ⟨(s.drop (i + 1)).toArray⟩) := World.cell?_setCell_same' _ _ _ (by rw [k1]; rfl)
    refine ⟨⟨pre ++ [s.take i], s.drop (i + 1), by rw [hsp]; simp, by simp; omega, hS _ _ _ hJ3, ⟨n1, by rw [World.frozen?_setCell]; exact k3, (World.cell?_setCell_other _ _ _ _ (by simp)).trans k2, (World.cell?_setCell_other _ _ _ _ (by simp)).trans hC3.save⟩⟩, ?_⟩
    unfold left
    rw [n1, hCs.rest]
    simp [ByteArray.size]
    omega
   ·
    gi_wp2
    refine bodyPost_ret (results_none rfl _ _ _) rfl ?_
    exact ⟨⟨_, rfl⟩, .inr hx3⟩
end Go.Proofs.YtcmdcgghpkcchaaGreatDoor.SeqW
namespace Go.Proofs.YtcmdcgghpkcchaaGreatDoor.SeqW
open Go.RowKit Go.Shelf Go.Proofs.YtcmdcgghpkcchaaGreatDoorW.PrintWords Go.Proofs.YtcmdcgghpkcchaaGreatDoorW.PrintLast Go.Proofs.YtcmdcgghpkcchaaGreatDoorW.PrintMore
set_option linter.unusedVariables false
def laid3 (s : ByteArray) (w : World) : World := ((w.alloc (.cells #[.string s] 9)).alloc (.cells #[.string ⟨#[32]⟩] 9)).alloc (.cells #[.int .i64 0] 3)
def seqF (B : Nat) : Value := .func (.func 59) #[] #[.pointer (some ⟨B + 1, 0, none⟩), .pointer (some ⟨B, 0, none⟩), .pointer (some ⟨B + 2, 0, none⟩)]
set_option maxHeartbeats 4000000 in
set_option maxRecDepth 100000 in
theorem seq1 (s : ByteArray) (w : World) : Calls Tryz.prog 43 #[.string s, .string ⟨#[32]⟩, .int .i64 0] w fun e w' => e = .returned (seqF w.heap.size) ∧ w' = laid3 s w := by
 unfold seqF laid3
 go_enter Tryz.func43, Tryz.ntmps43
 go_wp2
 go_ret
 exact ⟨by simp, rfl⟩
set_option maxHeartbeats 4000000 in
set_option maxRecDepth 100000 in
theorem seq0 (s : ByteArray) (w : World) : Calls Tryz.prog 31 #[.string s, .string ⟨#[32]⟩] w fun e w' => e = .returned (seqF w.heap.size) ∧ w' = laid3 s w := by
 have H := Aside0.mk (seq1 s)
 go_enter Tryz.func31, Tryz.ntmps31
 go_wp2_with (go_at_call 43; refine (H.out _).mono ?_; rintro e W' ⟨rfl, hw⟩; rw [hw]; clear hw W')
 go_ret
 exact ⟨rfl, rfl⟩
theorem laid3_sc (s : ByteArray) (w : World) : SC w.heap.size s.data.toList (laid3 s w) := by
 have e : (⟨s.data.toList.toArray⟩ : ByteArray) = s := by simp
 unfold laid3
 refine ⟨?_, ?_, ?_, ?_⟩
 ·
  rw [e]; simp [go_sem]
 ·
  simp [go_sem]
 ·
  simp [go_sem]
 ·
  simp [go_sem]
theorem laid3_below (s : ByteArray) (w : World) : Below w.heap.size w (laid3 s w) := below_alloc (below_alloc (below_alloc (Below.refl _ w) _) _) _
end Go.Proofs.YtcmdcgghpkcchaaGreatDoor.SeqW
namespace Go.Proofs.YtcmdcgghpkcchaaGreatDoor.SeqW
open Go.RowKit Go.Shelf Go.Proofs.YtcmdcgghpkcchaaGreatDoorW.PrintWords Go.Proofs.YtcmdcgghpkcchaaGreatDoorW.PrintLast Go.Proofs.YtcmdcgghpkcchaaGreatDoorW.PrintMore
set_option linter.unusedVariables false
theorem cell_put {W : World} {l k : Nat} {o : Obj} (h : k ≠ l) : (W.putObj l o).cell? ⟨k, 0, none⟩ = W.cell? ⟨k, 0, none⟩ := by
 unfold World.cell?
 simp only [World.putObj_heap_other h]
theorem frozen_put {W : World} {l k : Nat} {o : Obj} (h : k ≠ l) : (W.putObj l o).frozen? ⟨k, 0, none⟩ = W.frozen? ⟨k, 0, none⟩ := by
 unfold World.frozen?
 simp only [World.putObj_heap_other h]
theorem SC.put {B : Nat} {s : List UInt8} {W : World} (h : SC B s W) (l : Nat) (hl : B + 3 ≤ l) (o : Obj) : SC B s (W.putObj l o) :=
 ⟨(cell_put (by omega)).trans h.rest, (frozen_put (by omega)).trans h.open_, (cell_put (by omega)).trans h.sep, (cell_put (by omega)).trans h.save⟩
theorem SC.grow {B : Nat} {s : List UInt8} {W V : World} (h : SC B s W) (hb : Below W.heap.size W V) : SC B s V := by
 have l0 := World.block_lt_of_cell? _ _ h.rest
 have l1 := World.block_lt_of_cell? _ _ h.sep
 have l2 := World.block_lt_of_cell? _ _ h.save
 exact ⟨(hb.cell l0).trans h.rest, (hb.frozen l0).trans h.open_, (hb.cell l1).trans h.sep, (hb.cell l2).trans h.save⟩
theorem SC.alloc {B : Nat} {s : List UInt8} {W : World} (h : SC B s W) (o : Obj) : SC B s (W.alloc o) := h.grow (below_alloc (Below.refl _ W) o)
def bodyEnd (J S : World → Prop) (Jx : Code → World → Prop) : Exit → Act → World → Prop
 | .normal, _, W => J W ∧ S W
 | .ret, _, W => Jx .ret W
 | .exit id, _, W => Jx (.exit id) W
 | _, _, _ => False
theorem wp_seq {g : Operand} {p : Tmp} {assign body : Code} {Q : Exit → Act → World → Prop} {a : Act} {W0 : World} {B : Nat} {s0 : List UInt8}
  (hg : a.eval g = seqF B) (hB : B + 3 ≤ W0.heap.size) (h0 : s0.length ≤ 1000000) (hsc : SC B s0 W0)
  (I : Loop → List (List UInt8) → World → Prop) (Ix : Loop → Code → World → Prop)
  (hI0 : ∀ rec, I rec [] ((W0.alloc (.deferred (some []))).alloc (.loop rec)))
  (hset : ∀ rec pre W v, I rec pre W → I rec pre (W.setCell ⟨B, 0, none⟩ v))
  (hl : ∀ rec pre W, I rec pre W → W.heap[W0.heap.size + 1]? = some (.loop rec)) (hlx : ∀ rec c W, Ix rec c W → W.heap[W0.heap.size + 1]? = some (.loop rec))
  (hput : ∀ rec rec' pre W, I rec pre W → I rec' pre (W.putObj (W0.heap.size + 1) (.loop rec')))
  (hputx : ∀ rec rec' c W, Ix rec c W → Ix rec' c (W.putObj (W0.heap.size + 1) (.loop rec')))
  (a₁ : List UInt8 → Act)
  (hassign : ∀ (l : Nat) (x : List UInt8) (W : World) (K : Act → World → Prop), K (a₁ x) W → assign.wpIn (Fence.wide.inRound l) 1 Tryz.prog (Exit.then K (fun _ _ _ => False)) { tmps := a.tmps.setIfInBounds p (.string ⟨x.toArray⟩), defers := [] } W)
  (hround : ∀ (rec : Loop) (l : Nat) (pre : List (List UInt8)) (x : List UInt8) (rest : List (List UInt8)) (s : List UInt8) (W : World), split s0 = pre ++ x :: rest → I rec pre W → SC B s W → body.wpIn (Fence.wide.inRound l) 1 Tryz.prog (bodyEnd (I rec (pre ++ [x])) (SC B s) (Ix rec)) (a₁ x) W)
  (hdone : ∀ rec W, I rec (split s0) W → Q .normal { a with defers := { target := .collected W0.heap.size, args := #[] } :: a.defers } W)
  (hstop : ∀ rec c W, Ix rec c W → c.wpIn Fence.wide 3 Tryz.prog Q { a with defers := { target := .collected W0.heap.size, args := #[] } :: a.defers } W) :
  (Code.rangeFunc g #[p] assign body).wpIn Fence.wide 3 Tryz.prog Q a W0 := by
 refine wpIn_rangeFunc ?_
 intro fn _
 obtain ⟨rec, hrec⟩ : ∃ rec, rec = record fn a.tmps #[p] assign body W0.heap.size := ⟨_, rfl⟩
 have eg : ∀ args w, (callFunc 59 args).run Tryz.prog w = .ok (.enter 59 args) w := enters_of Tryz.func59 (by kernel_rfl) rfl
 obtain ⟨W1, hW1⟩ : ∃ W1, W1 = (W0.alloc (.deferred (some []))).alloc (.loop (rec .ready none)) := ⟨_, rfl⟩
 have hsc1 : SC B s0 W1 := by rw [hW1]; exact (hsc.alloc _).alloc _
 have hI1 : I (rec .ready none) [] W1 := by rw [hW1]; exact hI0 _
 refine ⟨W0.heap.size + 1, [{ target := .collected W0.heap.size, args := #[] }], W1,
  { target := .fn (.func 59) #[.pointer (some ⟨B + 1, 0, none⟩), .pointer (some ⟨B, 0, none⟩), .pointer (some ⟨B + 2, 0, none⟩)], args := #[.func (.yield (W0.heap.size + 1)) #[] #[]] }, W1, 59,
  #[.func (.yield (W0.heap.size + 1)) #[] #[], .pointer (some ⟨B + 1, 0, none⟩), .pointer (some ⟨B, 0, none⟩), .pointer (some ⟨B + 2, 0, none⟩)], W1, ?_, ?_, fun _ _ => trivial, ?_, fun _ => by decide, ?_⟩
 ·
  rw [hW1, hrec]; exact run_enterLoop_outer _ _ _ _ _
 ·
  unfold seqF at hg
  simp only [resolve, hg]
  simp [go_sem]
 ·
  simp [invoke, go_sem, eg]
 ·
  refine (closure_in (W0.heap.size + 1) B s0 h0 (fun pre W => I (rec .ready none) pre W) (fun W => ∃ c, Ix (rec .done (some c)) c W) (fun pre W v => hset _ pre W v) ?_ _ hI1 hsc1).mono ?_
  ·
   intro pre x rest s W hsp hi hs
   have hlW := hl _ _ _ hi
   rw [hrec] at hlW
   refine round_of hlW rfl (a₁ x) (fun K hK => by simpa using hassign (W0.heap.size + 1) x W K hK) (wpIn_mono (hround (rec .busy none) _ pre x rest s _ hsp (by rw [← hrec]; exact hput _ _ _ _ hi) (hs.put _ (by omega) _)) ?_)
   intro e a' W' he
   cases e with
   | normal => exact ⟨by rw [← hrec]; exact hl _ _ _ he.1, .inl ⟨rfl, by rw [← hrec]; exact hput _ _ _ _ he.1, he.2.put _ (by omega) _⟩⟩
   | ret => exact ⟨by rw [← hrec]; exact hlx _ _ _ he, .inr ⟨rfl, .ret, by rw [← hrec]; exact hputx _ _ _ _ he⟩⟩
   | exit id => exact ⟨by rw [← hrec]; exact hlx _ _ _ he, .inr ⟨rfl, .exit id, by rw [← hrec]; exact hputx _ _ _ _ he⟩⟩
   | goto t => exact he.elim
   | panic c => exact he.elim
   | outgrown => exact he.elim
  ·
   rintro e W2 ⟨⟨v, rfl⟩, hi | ⟨c, hi⟩⟩
   ·
    have hl2 := hl _ _ _ hi
    have hr := run_endLoop (P := Tryz.prog) hl2 (by rw [hrec]; simp [record])
    refine ⟨none, _, ?_, hdone (rec .exhausted none) _ (hput _ _ _ _ hi)⟩
    rw [hrec] at hr ⊢
    exact hr
   ·
    have hl2 := hlx _ _ _ hi
    have hr := run_endLoop (P := Tryz.prog) hl2 (by rw [hrec]; simp [record])
    refine ⟨some c, _, ?_, hstop (rec .exhausted (some c)) c _ (hputx _ _ _ _ hi)⟩
    rw [hrec] at hr ⊢
    exact hr
end Go.Proofs.YtcmdcgghpkcchaaGreatDoor.SeqW

namespace Go.Proofs.YtcmdcgghpkcchaaGreatDoor.XMast
open Go.RowKit Go.Proofs.YtcmdcgghpkcchaaGreatDoorW.PrintWords Go.Proofs.YtcmdcgghpkcchaaGreatDoorW.PrintLast Go.Proofs.YtcmdcgghpkcchaaGreatDoorW.PrintMore
attribute [local go_sem] max2_int min2_int max_two min_two max_three min_three max_four min_four   -- for this text's walks alone
set_option linter.unusedVariables false
set_option linter.unusedSimpArgs false
/-! ### strings_Cut: function 25 -/
def strings_Cut.f (l0 l1 : ByteArray) : Option (ByteArray × ByteArray × Bool) := if l0.size ≤ 1000000 then some (⟨(Lib.cut l0.data.toList l1.data.toList).1.toArray⟩, ⟨(Lib.cut l0.data.toList l1.data.toList).2.1.toArray⟩, (Lib.cut l0.data.toList l1.data.toList).2.2) else none
theorem strings_Cut.calls (l0 l1 : ByteArray) (r1 r2 : ByteArray) (r3 : Bool) (w : World) (hT : Tab.Tabs w) (h : strings_Cut.f l0 l1 = some (r1, r2, r3)) :
  Calls Tryz.prog 25 #[.string l0, .string l1] w fun e w' => e = .returned (.tuple #[.string r1, .string r2, .bool r3]) ∧ ∃ n, w' = w.drewN n := by
 unfold strings_Cut.f at h
 by_cases hl : ¬ l0.size ≤ 1000000
 ·
  rw [if_neg hl] at h; cases h
 replace hl := Decidable.not_not.1 hl
 rw [if_pos hl] at h
 obtain ⟨m, hm⟩ := hT.2.1
 refine (Tryz.strings_Cut l0 l1 m w (by omega) hm).mono ?_
 rintro e w' ⟨rfl, hn⟩
 have e := Option.some.inj h
 refine ⟨?_, hn⟩
 have e1 : (⟨(Lib.cut l0.data.toList l1.data.toList).1.toArray⟩ : ByteArray) = r1 := congrArg Prod.fst e
 have e2 : (⟨(Lib.cut l0.data.toList l1.data.toList).2.1.toArray⟩ : ByteArray) = r2 := congrArg (fun x => x.2.1) e
 have e3 : (Lib.cut l0.data.toList l1.data.toList).2.2 = r3 := congrArg (fun x => x.2.2) e
 rw [← e1, ← e2, ← e3]

/-! ### mast_ParseAt: function 9 -/
def mast_ParseAt.A (s : ByteArray) : Option Int := match Lib.atoiAll s.data.toList with | .ok v => some v | _ => none
def mast_ParseAt.km (s : ByteArray) : ByteArray := ⟨(Lib.cut s.data.toList [43]).1.toArray⟩
def mast_ParseAt.rest (s : ByteArray) : ByteArray := ⟨(Lib.cut s.data.toList [43]).2.1.toArray⟩
def mast_ParseAt.two (s : ByteArray) (n m : Int) : Option (Int × Int) :=
 if n < 0 then some (0, 3) else if n > 100000 then some (0, 3) else if m < 0 then some (0, 3) else if m > 999 then some (0, 3) else
 (mast_isAt.f (wrap64 (wrap64 (n * 1000) + m))).bind fun b => if b = true then ((mast_at.f (wrap64 (wrap64 (n * 1000) + m))).bind fun t => if t.toList = s.toList then some (wrap64 (wrap64 (n * 1000) + m), 0) else some (0, 3)) else some (0, 3)
def mast_ParseAt.f (a0 : ByteArray) : Option (Int × Int) :=
 if a0.size ≤ 1000000 ∧ (mast_ParseAt.km a0).size ≤ 1000000 ∧ (mast_ParseAt.rest a0).size ≤ 1000000 then
  match mast_ParseAt.A (mast_ParseAt.km a0), mast_ParseAt.A (mast_ParseAt.rest a0) with
  | some n, some m => mast_ParseAt.two a0 n m
  | _, _ => some (0, 3)
 else none
theorem mast_ParseAt.atoi_some (s : ByteArray) (n : Int) (h : mast_ParseAt.A s = some n) (hs : s.size ≤ 1000000) (w : World) :
  Calls Tryz.prog 26 #[.string s] w fun e w' => e = .returned (.tuple #[.int .i64 n, .nilIface]) ∧ Below w.heap.size w w' := by
 unfold mast_ParseAt.A at h
 split at h
 ·
  next v hv =>
  obtain rfl := Option.some.inj h
  refine (Tryz.strconv_Atoi_ok s (by omega) v hv w).mono ?_
  rintro e w' ⟨rfl, rfl | ⟨t, rfl⟩⟩
  ·
   exact ⟨rfl, Below.refl _ _⟩
  ·
   exact ⟨rfl, Lib.bytesWorld_below _ _ _⟩
 ·
  cases h
theorem mast_ParseAt.atoi_none (s : ByteArray) (h : mast_ParseAt.A s = none) (hs : s.size ≤ 1000000) (w : World) (hT : Tab.Tabs w) :
  Calls Tryz.prog 26 #[.string s] w fun e w' => ∃ n t p, e = .returned (.tuple #[.int .i64 n, .iface t p]) ∧ Below w.heap.size w w' := by
 obtain ⟨_, _, ⟨t1, p1, h1⟩, t2, p2, h2⟩ := hT
 unfold mast_ParseAt.A at h
 rcases hv : Lib.atoiAll s.data.toList with v | _ | _
 ·
  rw [hv] at h; cases h
 ·
  refine (Any.strconv_Atoi_syntax Tryz.laysC172 s (by omega) hv _ w h1 (.inr ⟨_, _, rfl⟩)).mono ?_
  rintro e w' ⟨N, rfl, _, _, hb⟩
  exact ⟨_, _, _, rfl, hb⟩
 ·
  refine (Tryz.strconv_Atoi_range s (by omega) hv _ w h2 (.inr ⟨_, _, rfl⟩)).mono ?_
  rintro e w' ⟨N, rfl, _, _, hb⟩
  exact ⟨_, _, _, rfl, hb⟩
set_option maxHeartbeats 4000000 in
set_option maxRecDepth 100000 in
theorem mast_ParseAt.calls (a0 : ByteArray) (r1 r2 : Int) (w : World) (hT : Tab.Tabs w) (h : mast_ParseAt.f a0 = some (r1, r2)) :
  Calls Tryz.prog 9 #[.string a0] w fun e w' => e = .returned (.tuple #[.int .i64 r1, .int .i64 r2]) ∧ Below w.heap.size w w' := by
 have HT := Aside0.mk hT
 clear hT
 unfold mast_ParseAt.f at h
 by_cases hc : ¬ (a0.size ≤ 1000000 ∧ (mast_ParseAt.km a0).size ≤ 1000000 ∧ (mast_ParseAt.rest a0).size ≤ 1000000)
 ·
  rw [if_neg hc] at h; cases h
 replace hc := Decidable.not_not.1 hc
 rw [if_pos hc] at h
 have HC := Aside0.mk hc
 have hcut : strings_Cut.f a0 ⟨#[43]⟩ = some (mast_ParseAt.km a0, mast_ParseAt.rest a0, (Lib.cut a0.data.toList [43]).2.2) := by unfold strings_Cut.f; rw [if_pos hc.1]; rfl
 have HCut := Aside0.mk hcut
 clear hcut hc
 generalize mast_ParseAt.km a0 = km at *
 generalize mast_ParseAt.rest a0 = rest at *
 generalize (Lib.cut a0.data.toList [43]).2.2 = ok at *
 cases hA : mast_ParseAt.A km with
 | none =>
  have h' : (0, 3) = (r1, r2) := by rw [hA] at h; exact Option.some.inj h
  have H1 := Aside0.mk (congrArg Prod.fst h')
  have H2 := Aside0.mk (congrArg Prod.snd h')
  have HA := Aside0.mk hA
  clear h h' hA
  cases hB : mast_ParseAt.A rest with
  | none =>
   have HB := Aside0.mk hB
   clear hB
   go_enter Tryz.func9, Tryz.ntmps9
   go_wp2_with (first | (go_at_call 25; (with_reducible refine (strings_Cut.calls a0 ⟨#[43]⟩ km rest ok _ HT.out HCut.out).mono ?_); rintro e w1 ⟨rfl, hn1⟩; have hb1 := Aside0.mk (show Below w.heap.size w w1 by obtain ⟨nd, rfl⟩ := hn1; exact pw_below_drewN (Below.refl _ _) nd); clear hn1) | (go_at_call 26; (with_reducible refine (mast_ParseAt.atoi_none km HA.out HC.out.2.1 _ (Tab.Tabs.below HT.out hb1.out)).mono ?_); rintro e w2 ⟨n1, t1, p1, rfl, hb⟩; have hb2 := Aside0.mk (below_step hb1.out hb); clear hb) | (go_at_call 26; (with_reducible refine (mast_ParseAt.atoi_none rest HB.out HC.out.2.2 _ (Tab.Tabs.below HT.out hb2.out)).mono ?_); rintro e w3 ⟨n2, t2, p2, rfl, hb⟩; have hb3 := Aside0.mk (below_step hb2.out hb); clear hb))
   go_ret2
   exact ⟨by rw [← H1.out, ← H2.out]; rfl, hb3.out⟩
  | some m =>
   have HB := Aside0.mk hB
   clear hB
   go_enter Tryz.func9, Tryz.ntmps9
   go_wp2_with (first | (go_at_call 25; (with_reducible refine (strings_Cut.calls a0 ⟨#[43]⟩ km rest ok _ HT.out HCut.out).mono ?_); rintro e w1 ⟨rfl, hn1⟩; have hb1 := Aside0.mk (show Below w.heap.size w w1 by obtain ⟨nd, rfl⟩ := hn1; exact pw_below_drewN (Below.refl _ _) nd); clear hn1) | (go_at_call 26; (with_reducible refine (mast_ParseAt.atoi_none km HA.out HC.out.2.1 _ (Tab.Tabs.below HT.out hb1.out)).mono ?_); rintro e w2 ⟨n1, t1, p1, rfl, hb⟩; have hb2 := Aside0.mk (below_step hb1.out hb); clear hb) | (go_at_call 26; (with_reducible refine (mast_ParseAt.atoi_some rest m HB.out HC.out.2.2 _).mono ?_); rintro e w3 ⟨rfl, hb⟩; have hb3 := Aside0.mk (below_step hb2.out hb); clear hb))
   go_ret2
   exact ⟨by rw [← H1.out, ← H2.out]; rfl, hb3.out⟩
 | some n =>
  have HA := Aside0.mk hA
  cases hB : mast_ParseAt.A rest with
  | none =>
   have h' : (0, 3) = (r1, r2) := by rw [hA, hB] at h; exact Option.some.inj h
   have H1 := Aside0.mk (congrArg Prod.fst h')
   have H2 := Aside0.mk (congrArg Prod.snd h')
   have HB := Aside0.mk hB
   clear h h' hA hB
   go_enter Tryz.func9, Tryz.ntmps9
   go_wp2_with (first | (go_at_call 25; (with_reducible refine (strings_Cut.calls a0 ⟨#[43]⟩ km rest ok _ HT.out HCut.out).mono ?_); rintro e w1 ⟨rfl, hn1⟩; have hb1 := Aside0.mk (show Below w.heap.size w w1 by obtain ⟨nd, rfl⟩ := hn1; exact pw_below_drewN (Below.refl _ _) nd); clear hn1) | (go_at_call 26; (with_reducible refine (mast_ParseAt.atoi_some km n HA.out HC.out.2.1 _).mono ?_); rintro e w2 ⟨rfl, hb⟩; have hb2 := Aside0.mk (below_step hb1.out hb); clear hb) | (go_at_call 26; (with_reducible refine (mast_ParseAt.atoi_none rest HB.out HC.out.2.2 _ (Tab.Tabs.below HT.out hb2.out)).mono ?_); rintro e w3 ⟨n2, t2, p2, rfl, hb⟩; have hb3 := Aside0.mk (below_step hb2.out hb); clear hb))
   go_ret2
   exact ⟨by rw [← H1.out, ← H2.out]; rfl, hb3.out⟩
  | some m =>
   have h' : mast_ParseAt.two a0 n m = some (r1, r2) := by rw [hA, hB] at h; exact h
   have HB := Aside0.mk hB
   clear h hA hB
   unfold mast_ParseAt.two at h'
   by_cases c0 : n < 0
   ·
    rw [if_pos c0] at h'
    have d0 : decide (n < 0) = true := decide_eq_true c0
    clear c0
    have H1 := Aside0.mk (congrArg Prod.fst (Option.some.inj h'))
    have H2 := Aside0.mk (congrArg Prod.snd (Option.some.inj h'))
    clear h'
    go_enter Tryz.func9, Tryz.ntmps9
    go_wp2_with (first | (go_at_call 25; (with_reducible refine (strings_Cut.calls a0 ⟨#[43]⟩ km rest ok _ HT.out HCut.out).mono ?_); rintro e w1 ⟨rfl, hn1⟩; have hb1 := Aside0.mk (show Below w.heap.size w w1 by obtain ⟨nd, rfl⟩ := hn1; exact pw_below_drewN (Below.refl _ _) nd); clear hn1) | (go_at_call 26; (with_reducible refine (mast_ParseAt.atoi_some km n HA.out HC.out.2.1 _).mono ?_); rintro e w2 ⟨rfl, hb⟩; have hb2 := Aside0.mk (below_step hb1.out hb); clear hb) | (go_at_call 26; (with_reducible refine (mast_ParseAt.atoi_some rest m HB.out HC.out.2.2 _).mono ?_); rintro e w3 ⟨rfl, hb⟩; have hb3 := Aside0.mk (below_step hb2.out hb); clear hb))
    go_ret2
    exact ⟨by rw [← H1.out, ← H2.out]; rfl, hb3.out⟩
   rw [if_neg c0] at h'
   have d0 : decide (n < 0) = false := decide_eq_false c0
   clear c0
   by_cases c1 : n > 100000
   ·
    rw [if_pos c1] at h'
    have d1 : decide (n > 100000) = true := decide_eq_true c1
    clear c1
    have H1 := Aside0.mk (congrArg Prod.fst (Option.some.inj h'))
    have H2 := Aside0.mk (congrArg Prod.snd (Option.some.inj h'))
    clear h'
    go_enter Tryz.func9, Tryz.ntmps9
    go_wp2_with (first | (go_at_call 25; (with_reducible refine (strings_Cut.calls a0 ⟨#[43]⟩ km rest ok _ HT.out HCut.out).mono ?_); rintro e w1 ⟨rfl, hn1⟩; have hb1 := Aside0.mk (show Below w.heap.size w w1 by obtain ⟨nd, rfl⟩ := hn1; exact pw_below_drewN (Below.refl _ _) nd); clear hn1) | (go_at_call 26; (with_reducible refine (mast_ParseAt.atoi_some km n HA.out HC.out.2.1 _).mono ?_); rintro e w2 ⟨rfl, hb⟩; have hb2 := Aside0.mk (below_step hb1.out hb); clear hb) | (go_at_call 26; (with_reducible refine (mast_ParseAt.atoi_some rest m HB.out HC.out.2.2 _).mono ?_); rintro e w3 ⟨rfl, hb⟩; have hb3 := Aside0.mk (below_step hb2.out hb); clear hb))
    go_ret2
    exact ⟨by rw [← H1.out, ← H2.out]; rfl, hb3.out⟩
   rw [if_neg c1] at h'
   have d1 : decide (n > 100000) = false := decide_eq_false c1
   clear c1
   by_cases c2 : m < 0
   ·
    rw [if_pos c2] at h'
    have d2 : decide (m < 0) = true := decide_eq_true c2
    clear c2
    have H1 := Aside0.mk (congrArg Prod.fst (Option.some.inj h'))
    have H2 := Aside0.mk (congrArg Prod.snd (Option.some.inj h'))
    clear h'
    go_enter Tryz.func9, Tryz.ntmps9
    go_wp2_with (first | (go_at_call 25; (with_reducible refine (strings_Cut.calls a0 ⟨#[43]⟩ km rest ok _ HT.out HCut.out).mono ?_); rintro e w1 ⟨rfl, hn1⟩; have hb1 := Aside0.mk (show Below w.heap.size w w1 by obtain ⟨nd, rfl⟩ := hn1; exact pw_below_drewN (Below.refl _ _) nd); clear hn1) | (go_at_call 26; (with_reducible refine (mast_ParseAt.atoi_some km n HA.out HC.out.2.1 _).mono ?_); rintro e w2 ⟨rfl, hb⟩; have hb2 := Aside0.mk (below_step hb1.out hb); clear hb) | (go_at_call 26; (with_reducible refine (mast_ParseAt.atoi_some rest m HB.out HC.out.2.2 _).mono ?_); rintro e w3 ⟨rfl, hb⟩; have hb3 := Aside0.mk (below_step hb2.out hb); clear hb))
    go_ret2
    exact ⟨by rw [← H1.out, ← H2.out]; rfl, hb3.out⟩
   rw [if_neg c2] at h'
   have d2 : decide (m < 0) = false := decide_eq_false c2
   clear c2
   by_cases c3 : m > 999
   ·
    rw [if_pos c3] at h'
    have d3 : decide (m > 999) = true := decide_eq_true c3
    clear c3
    have H1 := Aside0.mk (congrArg Prod.fst (Option.some.inj h'))
    have H2 := Aside0.mk (congrArg Prod.snd (Option.some.inj h'))
    clear h'
    go_enter Tryz.func9, Tryz.ntmps9
    go_wp2_with (first | (go_at_call 25; (with_reducible refine (strings_Cut.calls a0 ⟨#[43]⟩ km rest ok _ HT.out HCut.out).mono ?_); rintro e w1 ⟨rfl, hn1⟩; have hb1 := Aside0.mk (show Below w.heap.size w w1 by obtain ⟨nd, rfl⟩ := hn1; exact pw_below_drewN (Below.refl _ _) nd); clear hn1) | (go_at_call 26; (with_reducible refine (mast_ParseAt.atoi_some km n HA.out HC.out.2.1 _).mono ?_); rintro e w2 ⟨rfl, hb⟩; have hb2 := Aside0.mk (below_step hb1.out hb); clear hb) | (go_at_call 26; (with_reducible refine (mast_ParseAt.atoi_some rest m HB.out HC.out.2.2 _).mono ?_); rintro e w3 ⟨rfl, hb⟩; have hb3 := Aside0.mk (below_step hb2.out hb); clear hb))
    go_ret2
    exact ⟨by rw [← H1.out, ← H2.out]; rfl, hb3.out⟩
   rw [if_neg c3] at h'
   have d3 : decide (m > 999) = false := decide_eq_false c3
   clear c3
   replace h' := Option.bind_eq_some_iff.mp h'
   obtain ⟨b, Ab0, h'⟩ := h'
   try dsimp only at h'
   have Ab := Aside0.mk Ab0
   clear Ab0
   by_cases cb : b = true
   ·
    subst cb
    rw [if_pos rfl] at h'
    replace h' := Option.bind_eq_some_iff.mp h'
    obtain ⟨t, At0, h'⟩ := h'
    try dsimp only at h'
    have At := Aside0.mk At0
    clear At0
    by_cases ct : t.toList = a0.toList
    ·
     rw [if_pos ct] at h'
     have dt : (t.toList == a0.toList) = true := beq_iff_eq.2 ct
     have dt2 : (t.toList != a0.toList) = false := bne_eq_false_iff_eq.2 ct
     have dt3 : decide (t.toList = a0.toList) = true := decide_eq_true ct
     clear ct
     have H1 := Aside0.mk (congrArg Prod.fst (Option.some.inj h'))
     have H2 := Aside0.mk (congrArg Prod.snd (Option.some.inj h'))
     clear h'
     go_enter Tryz.func9, Tryz.ntmps9
     go_wp2_with (first | (go_at_call 25; (with_reducible refine (strings_Cut.calls a0 ⟨#[43]⟩ km rest ok _ HT.out HCut.out).mono ?_); rintro e w1 ⟨rfl, hn1⟩; have hb1 := Aside0.mk (show Below w.heap.size w w1 by obtain ⟨nd, rfl⟩ := hn1; exact pw_below_drewN (Below.refl _ _) nd); clear hn1) | (go_at_call 26; (with_reducible refine (mast_ParseAt.atoi_some km n HA.out HC.out.2.1 _).mono ?_); rintro e w2 ⟨rfl, hb⟩; have hb2 := Aside0.mk (below_step hb1.out hb); clear hb) | (go_at_call 26; (with_reducible refine (mast_ParseAt.atoi_some rest m HB.out HC.out.2.2 _).mono ?_); rintro e w3 ⟨rfl, hb⟩; have hb3 := Aside0.mk (below_step hb2.out hb); clear hb) | (go_at_call 21; (with_reducible refine (mast_isAt.calls _ true _ Ab.out).mono ?_); rintro e w4 ⟨rfl, hn4⟩; have hb4 := Aside0.mk (show Below w.heap.size w w4 by first | (obtain ⟨nd, rfl⟩ := hn4; exact pw_below_drewN hb3.out nd) | (subst hn4; exact hb3.out)); clear hn4) | (go_at_call 22; (with_reducible refine (mast_at.calls _ t _ (Tab.Tabs.below HT.out hb4.out) At.out).mono ?_); rintro e w5 ⟨rfl, hb⟩; have hb5 := Aside0.mk (below_step hb4.out hb); clear hb))
     go_ret2
     exact ⟨by rw [← H1.out, ← H2.out]; rfl, hb5.out⟩
    ·
     rw [if_neg ct] at h'
     have dt : (t.toList == a0.toList) = false := beq_eq_false_iff_ne.2 ct
     have dt2 : (t.toList != a0.toList) = true := bne_iff_ne.2 ct
     have dt3 : decide (t.toList = a0.toList) = false := decide_eq_false ct
     clear ct
     have H1 := Aside0.mk (congrArg Prod.fst (Option.some.inj h'))
     have H2 := Aside0.mk (congrArg Prod.snd (Option.some.inj h'))
     clear h'
     go_enter Tryz.func9, Tryz.ntmps9
     go_wp2_with (first | (go_at_call 25; (with_reducible refine (strings_Cut.calls a0 ⟨#[43]⟩ km rest ok _ HT.out HCut.out).mono ?_); rintro e w1 ⟨rfl, hn1⟩; have hb1 := Aside0.mk (show Below w.heap.size w w1 by obtain ⟨nd, rfl⟩ := hn1; exact pw_below_drewN (Below.refl _ _) nd); clear hn1) | (go_at_call 26; (with_reducible refine (mast_ParseAt.atoi_some km n HA.out HC.out.2.1 _).mono ?_); rintro e w2 ⟨rfl, hb⟩; have hb2 := Aside0.mk (below_step hb1.out hb); clear hb) | (go_at_call 26; (with_reducible refine (mast_ParseAt.atoi_some rest m HB.out HC.out.2.2 _).mono ?_); rintro e w3 ⟨rfl, hb⟩; have hb3 := Aside0.mk (below_step hb2.out hb); clear hb) | (go_at_call 21; (with_reducible refine (mast_isAt.calls _ true _ Ab.out).mono ?_); rintro e w4 ⟨rfl, hn4⟩; have hb4 := Aside0.mk (show Below w.heap.size w w4 by first | (obtain ⟨nd, rfl⟩ := hn4; exact pw_below_drewN hb3.out nd) | (subst hn4; exact hb3.out)); clear hn4) | (go_at_call 22; (with_reducible refine (mast_at.calls _ t _ (Tab.Tabs.below HT.out hb4.out) At.out).mono ?_); rintro e w5 ⟨rfl, hb⟩; have hb5 := Aside0.mk (below_step hb4.out hb); clear hb))
     go_ret2
     exact ⟨by rw [← H1.out, ← H2.out]; rfl, hb5.out⟩
   ·
    rw [if_neg cb] at h'
    replace cb := Bool.eq_false_iff.mpr cb
    subst cb
    have H1 := Aside0.mk (congrArg Prod.fst (Option.some.inj h'))
    have H2 := Aside0.mk (congrArg Prod.snd (Option.some.inj h'))
    clear h'
    go_enter Tryz.func9, Tryz.ntmps9
    go_wp2_with (first | (go_at_call 25; (with_reducible refine (strings_Cut.calls a0 ⟨#[43]⟩ km rest ok _ HT.out HCut.out).mono ?_); rintro e w1 ⟨rfl, hn1⟩; have hb1 := Aside0.mk (show Below w.heap.size w w1 by obtain ⟨nd, rfl⟩ := hn1; exact pw_below_drewN (Below.refl _ _) nd); clear hn1) | (go_at_call 26; (with_reducible refine (mast_ParseAt.atoi_some km n HA.out HC.out.2.1 _).mono ?_); rintro e w2 ⟨rfl, hb⟩; have hb2 := Aside0.mk (below_step hb1.out hb); clear hb) | (go_at_call 26; (with_reducible refine (mast_ParseAt.atoi_some rest m HB.out HC.out.2.2 _).mono ?_); rintro e w3 ⟨rfl, hb⟩; have hb3 := Aside0.mk (below_step hb2.out hb); clear hb) | (go_at_call 21; (with_reducible refine (mast_isAt.calls _ false _ Ab.out).mono ?_); rintro e w4 ⟨rfl, hn4⟩; have hb4 := Aside0.mk (show Below w.heap.size w w4 by first | (obtain ⟨nd, rfl⟩ := hn4; exact pw_below_drewN hb3.out nd) | (subst hn4; exact hb3.out)); clear hn4))
    go_ret2
    exact ⟨by rw [← H1.out, ← H2.out]; rfl, hb4.out⟩

end Go.Proofs.YtcmdcgghpkcchaaGreatDoor.XMast

/- mast.Parse: a loop over strings.SplitSeq, walked by hand. -/
namespace Go.Proofs.YtcmdcgghpkcchaaGreatDoor.ParseW
open Go.RowKit Go.Shelf Go.Proofs.YtcmdcgghpkcchaaGreatDoor.XMast Go.Proofs.YtcmdcgghpkcchaaGreatDoorW.PrintWords Go.Proofs.YtcmdcgghpkcchaaGreatDoorW.PrintLast Go.Proofs.YtcmdcgghpkcchaaGreatDoorW.PrintMore
set_option linter.unusedVariables false
attribute [local go_sem] Oper.semAt_some
def fromP (p : List UInt8) : ByteArray := ⟨(Lib.cut p [45]).1.toArray⟩
def toP (p : List UInt8) : ByteArray := ⟨(Lib.cut p [45]).2.1.toArray⟩
def ok (p : List UInt8) : Bool := (Lib.cut p [45]).2.2
def step (acc : List S38) (p : List UInt8) : Option (Option (List S38)) :=
 (mast_ParseAt.f (fromP p)).bind fun x => (mast_ParseAt.f (toP p)).bind fun y => if ok p = true ∧ x.2 = 0 ∧ y.2 = 0 ∧ acc.length < 60 then some (some (acc ++ [⟨x.1, y.1⟩])) else some none
def run : List (List UInt8) → List S38 → Option (Option (List S38))
 | [], acc => some (some acc)
 | p :: r, acc => (step acc p).bind fun o => match o with
  | none => some none
  | some acc' => run r acc'
def all (s : List UInt8) : Option (Option (List S38)) := if s = [] then some (some []) else run (SeqW.split s) []
def endF (k : Nat) : Option (List S38) → Option (List S38 × Int)
 | none => some ([], 3)
 | some l => (mast_Valid.f k l).bind fun b => if b = true then some (l, 0) else some ([], 3)
def f (k : Nat) (a0 : ByteArray) : Option (List S38 × Int) := if a0.size ≤ 100000 then (all a0.data.toList).bind (endF k) else none
theorem mono : ∀ a0 k, LeO (f k a0) (f (k + 1) a0) := by
 intro a0 k
 unfold f
 refine LeO.ite (LeO.bind (LeO.refl _) (fun o => ?_)) (LeO.none _)
 cases o with
 | none => exact LeO.refl _
 | some l => exact LeO.bind (mast_Valid.mono l k) (fun _ => LeO.refl _)
def cells (l : List S38) : List Value := l.flatMap fun x => [.int .i64 x.f0, .int .i64 x.f1]
theorem reps (w : World) (b : Nat) (ok : Nat → Prop) : ∀ l : List S38, Reps (k38.M w b ok) 2 l (cells l) := by
 intro l
 have h : ∀ (l acc : List S38), Reps (k38.M w b ok) 2 acc (cells acc) → Reps (k38.M w b ok) 2 (acc ++ l) (cells (acc ++ l)) := by
  intro l
  induction l with
  | nil => intro acc h; rwa [List.append_nil]
  | cons x l ih =>
   intro acc h
   have h2 := ih (acc ++ [x]) (by
    have := h.snoc (p := x) (c := [.int .i64 x.f0, .int .i64 x.f1]) (k38_mkM w b ok x) rfl
    have e : cells (acc ++ [x]) = cells acc ++ [.int .i64 x.f0, .int .i64 x.f1] := by simp [cells]
    rwa [e])
   simpa using h2
 exact h l [] (Reps.none _ _)
theorem run_app : ∀ (p r : List (List UInt8)) (a b : List S38), run p a = some (some b) → run (p ++ r) a = run r b
 | [], r, a, b, h => by
  obtain rfl := Option.some.inj (Option.some.inj h)
  rfl
 | x :: p, r, a, b, h => by
  rw [run] at h
  rw [List.cons_append, run]
  cases hs : step a x with
  | none => rw [hs] at h; cases h
  | some o =>
   rw [hs] at h
   cases o with
   | none => cases h
   | some a' => exact run_app p r a' b h
theorem split_len : ∀ (s x : List UInt8), x ∈ SeqW.split s → x.length ≤ s.length
 | [], x, h => by
  rw [SeqW.split] at h
  rw [List.mem_singleton.1 h]
  exact Nat.le_refl _
 | b :: t, x, h => by
  rw [SeqW.split] at h
  split at h
  ·
   rcases List.mem_cons.1 h with rfl | h
   ·
    exact Nat.zero_le _
   ·
    exact Nat.le_succ_of_le (split_len t x h)
  ·
   split at h
   ·
    rw [List.mem_singleton.1 h]
    simp
   ·
    rename_i p r e
    rcases List.mem_cons.1 h with rfl | h
    ·
     have := split_len t p (by rw [e]; simp)
     simp only [List.length_cons]
     omega
    ·
     have := split_len t x (by rw [e]; simp [h])
     simp only [List.length_cons]
     omega
structure Cells (n : Nat) (a0 : ByteArray) (W : World) : Prop where
 text : W.cell? ⟨n, 0, none⟩ = some (.string a0)
 res : (W.cell? ⟨n + 1, 0, none⟩).isSome = true
 resf : W.frozen? ⟨n + 1, 0, none⟩ = false
 err : (W.cell? ⟨n + 2, 0, none⟩).isSome = true
 errf : W.frozen? ⟨n + 2, 0, none⟩ = false
 listf : W.frozen? ⟨n + 3, 0, none⟩ = false
def Row (n : Nat) (acc : List S38) (W : World) : Prop := ∃ v, W.cell? ⟨n + 3, 0, none⟩ = some v ∧ W.ownsRow (n + 9) 38 2 v acc.length (cells acc)
structure J (n : Nat) (a0 : ByteArray) (rec : Loop) (w : World) (pre : List (List UInt8)) (W : World) : Prop where
 c : Cells n a0 W
 list : ∃ acc, Row n acc W ∧ acc.length ≤ 60 ∧ run pre [] = some (some acc)
 none_ : a0.data.toList = [] → pre = []
 loop : W.heap[n + 8]? = some (.loop rec)
 defers : W.heap[n + 7]? = some (.deferred (some []))
 below : Below n w W
theorem cell_lt {W : World} {a : Addr} (h : (W.cell? a).isSome = true) : a.block < W.heap.size := by
 obtain ⟨v, hv⟩ := Option.isSome_iff_exists.1 h
 exact World.block_lt_of_cell? _ _ hv
theorem cell_put {W : World} {l k : Nat} {o : Obj} (h : k ≠ l) : (W.putObj l o).cell? ⟨k, 0, none⟩ = W.cell? ⟨k, 0, none⟩ := by
 unfold World.cell?
 simp only [World.putObj_heap_other h]
theorem frozen_put {W : World} {l k : Nat} {o : Obj} (h : k ≠ l) : (W.putObj l o).frozen? ⟨k, 0, none⟩ = W.frozen? ⟨k, 0, none⟩ := by
 unfold World.frozen?
 simp only [World.putObj_heap_other h]
theorem Cells.put {n : Nat} {a0 : ByteArray} {W : World} (h : Cells n a0 W) (l : Nat) (hl : n + 4 ≤ l) (o : Obj) : Cells n a0 (W.putObj l o) :=
 ⟨(cell_put (by omega)).trans h.text, by rw [cell_put (by omega)]; exact h.res, (frozen_put (by omega)).trans h.resf, by rw [cell_put (by omega)]; exact h.err, (frozen_put (by omega)).trans h.errf, (frozen_put (by omega)).trans h.listf⟩
theorem Cells.grow {n : Nat} {a0 : ByteArray} {W V : World} (h : Cells n a0 W) (hb : Below W.heap.size W V) (hn : n + 4 ≤ W.heap.size) : Cells n a0 V := by
 have c : ∀ i, i < 4 → V.cell? ⟨n + i, 0, none⟩ = W.cell? ⟨n + i, 0, none⟩ := fun i hi => hb.cell (p := ⟨n + i, 0, none⟩) (by show n + i < _; omega)
 have f : ∀ i, i < 4 → V.frozen? ⟨n + i, 0, none⟩ = W.frozen? ⟨n + i, 0, none⟩ := fun i hi => hb.frozen (p := ⟨n + i, 0, none⟩) (by show n + i < _; omega)
 exact ⟨(c 0 (by omega)).trans h.text, by rw [c 1 (by omega)]; exact h.res, (f 1 (by omega)).trans h.resf, by rw [c 2 (by omega)]; exact h.err, (f 2 (by omega)).trans h.errf, (f 3 (by omega)).trans h.listf⟩
theorem Row.put {n : Nat} {acc : List S38} {W : World} (h : Row n acc W) {l : Nat} {o : Obj} (hl : W.heap[l]? = some o) (ho : o.isCells = false) (hn : n + 4 ≤ l) (o' : Obj) : Row n acc (W.putObj l o') := by
 obtain ⟨v, hv, hr⟩ := h
 exact ⟨v, (cell_put (by omega)).trans hv, ownsRow_putObj hr o' hl ho⟩
theorem Row.grow {n : Nat} {acc : List S38} {W V : World} (h : Row n acc W) (hb : Below W.heap.size W V) : Row n acc V := by
 obtain ⟨v, hv, hr⟩ := h
 exact ⟨v, (hb.cell (World.block_lt_of_cell? _ _ hv)).trans hv, pw_own_below hr hb⟩
theorem sc_put {B : Nat} {s : List UInt8} {W : World} (h : SeqW.SC B s W) (l : Nat) (hl : B + 3 ≤ l) (o : Obj) : SeqW.SC B s (W.putObj l o) :=
 ⟨(cell_put (by omega)).trans h.rest, (frozen_put (by omega)).trans h.open_, (cell_put (by omega)).trans h.sep, (cell_put (by omega)).trans h.save⟩
theorem sc_grow {B : Nat} {s : List UInt8} {W V : World} (h : SeqW.SC B s W) (hb : Below W.heap.size W V) : SeqW.SC B s V := by
 have l0 := World.block_lt_of_cell? _ _ h.rest
 have l1 := World.block_lt_of_cell? _ _ h.sep
 have l2 := World.block_lt_of_cell? _ _ h.save
 exact ⟨(hb.cell l0).trans h.rest, (hb.frozen l0).trans h.open_, (hb.cell l1).trans h.sep, (hb.cell l2).trans h.save⟩
theorem sc_set {B : Nat} {s : List UInt8} {W : World} (h : SeqW.SC B s W) (k : Nat) (hk : k < B) (v : Value) : SeqW.SC B s (W.setCell ⟨k, 0, none⟩ v) :=
 ⟨(World.cell?_setCell_other _ _ _ _ (by intro e; injection e; omega)).trans h.rest, by rw [World.frozen?_setCell]; exact h.open_, (World.cell?_setCell_other _ _ _ _ (by intro e; injection e; omega)).trans h.sep, (World.cell?_setCell_other _ _ _ _ (by intro e; injection e; omega)).trans h.save⟩
theorem Cells.set {n : Nat} {a0 : ByteArray} {W : World} (h : Cells n a0 W) (k : Nat) (hk : n < k) (v : Value) : Cells n a0 (W.setCell ⟨k, 0, none⟩ v) := by
 have keep : ∀ i, (W.cell? ⟨n + i, 0, none⟩).isSome = true → ((W.setCell ⟨k, 0, none⟩ v).cell? ⟨n + i, 0, none⟩).isSome = true := by
  intro i hi
  by_cases e : n + i = k
  ·
   rw [← e] at *
   rw [World.cell?_setCell_same' _ _ _ hi]
   rfl
  ·
   rw [World.cell?_setCell_other _ _ _ _ (by intro e2; injection e2; omega)]
   exact hi
 exact ⟨(World.cell?_setCell_other _ _ _ _ (by intro e; injection e; omega)).trans h.text, keep 1 h.res, by rw [World.frozen?_setCell]; exact h.resf, keep 2 h.err, by rw [World.frozen?_setCell]; exact h.errf, by rw [World.frozen?_setCell]; exact h.listf⟩
theorem J.set {n : Nat} {a0 : ByteArray} {rec : Loop} {w : World} {pre : List (List UInt8)} {W : World} (h : J n a0 rec w pre W) (v : Value) : J n a0 rec w pre (W.setCell ⟨n + 4, 0, none⟩ v) := by
 refine ⟨h.c.set (n + 4) (by omega) v, ?_, h.none_, (Below.heap_setCell _ _ _ _ (by show n + 8 ≠ n + 4; omega)).trans h.loop, (Below.heap_setCell _ _ _ _ (by show n + 7 ≠ n + 4; omega)).trans h.defers, h.below.setCell (p := ⟨n + 4, 0, none⟩) (by show n ≤ n + 4; omega) v⟩
 obtain ⟨acc, ⟨u, hu, hr⟩, h1, h2⟩ := h.list
 refine ⟨acc, ⟨u, (World.cell?_setCell_other _ _ _ _ (by intro e; injection e; omega)).trans hu, own_setCell hr (fun e => ?_) v⟩, h1, h2⟩
 have := own_base hr (n + 4) e.symm
 omega
structure JR (n : Nat) (a0 : ByteArray) (rec : Loop) (w W : World) : Prop where
 res : W.cell? ⟨n + 1, 0, none⟩ = some (.slice none 0 0)
 err : W.cell? ⟨n + 2, 0, none⟩ = some (.int .i64 3)
 bad : all a0.data.toList = some none
 loop : W.heap[n + 8]? = some (.loop rec)
 defers : W.heap[n + 7]? = some (.deferred (some []))
 below : Below n w W
theorem J.put {n : Nat} {a0 : ByteArray} {rec : Loop} {w : World} {pre : List (List UInt8)} {W : World} (h : J n a0 rec w pre W) (rec' : Loop) : J n a0 rec' w pre (W.putObj (n + 8) (.loop rec')) := by
 have hlt : n + 8 < W.heap.size := (Array.getElem?_eq_some_iff.1 h.loop).1
 obtain ⟨acc, hr, h1, h2⟩ := h.list
 exact ⟨h.c.put (n + 8) (by omega) _, ⟨acc, hr.put h.loop rfl (by omega) _, h1, h2⟩, h.none_, World.putObj_heap_same hlt, (World.putObj_heap_other (by omega)).trans h.defers, (h.below).grown (grownBy_putObj' W (n + 8) _) (by omega) (fun k e => by cases e; omega)⟩
theorem JR.put {n : Nat} {a0 : ByteArray} {rec : Loop} {w W : World} (h : JR n a0 rec w W) (rec' : Loop) : JR n a0 rec' w (W.putObj (n + 8) (.loop rec')) := by
 have hlt : n + 8 < W.heap.size := (Array.getElem?_eq_some_iff.1 h.loop).1
 exact ⟨(cell_put (by omega)).trans h.res, (cell_put (by omega)).trans h.err, h.bad, World.putObj_heap_same hlt, (World.putObj_heap_other (by omega)).trans h.defers, (h.below).grown (grownBy_putObj' W (n + 8) _) (by omega) (fun k e => by cases e; omega)⟩
theorem JR.made {n : Nat} {a0 : ByteArray} {rec : Loop} {w : World} {pre : List (List UInt8)} {W V : World} (h : J n a0 rec w pre W) (hb : Below W.heap.size W V) (hbad : all a0.data.toList = some none) :
  JR n a0 rec w ((V.setCell ⟨n + 1, 0, none⟩ (.slice none 0 0)).setCell ⟨n + 2, 0, none⟩ (.int .i64 3)) := by
 have hlt : n + 8 < W.heap.size := (Array.getElem?_eq_some_iff.1 h.loop).1
 have hc := h.c.grow hb (by omega)
 have hc1 := hc.set (n + 1) (by omega) (.slice none 0 0)
 refine ⟨(World.cell?_setCell_other _ _ _ _ (by intro e; injection e; omega)).trans (World.cell?_setCell_same' _ _ _ hc.res), World.cell?_setCell_same' _ _ _ hc1.err, hbad, ?_, ?_, ?_⟩
 ·
  exact (Below.heap_setCell _ _ _ _ (by show n + 8 ≠ n + 2; omega)).trans ((Below.heap_setCell _ _ _ _ (by show n + 8 ≠ n + 1; omega)).trans ((hb.block (n + 8) hlt).trans h.loop))
 ·
  exact (Below.heap_setCell _ _ _ _ (by show n + 7 ≠ n + 2; omega)).trans ((Below.heap_setCell _ _ _ _ (by show n + 7 ≠ n + 1; omega)).trans ((hb.block (n + 7) (by omega)).trans h.defers))
 ·
  exact ((h.below.trans (hb.mono (by omega))).setCell (p := ⟨n + 1, 0, none⟩) (by show n ≤ n + 1; omega) _).setCell (p := ⟨n + 2, 0, none⟩) (by show n ≤ n + 2; omega) _
theorem Cells.upto {n m : Nat} {a0 : ByteArray} {W V : World} (h : Cells n a0 W) (hb : Below m W V) (hn : n + 4 ≤ m) : Cells n a0 V := by
 have c : ∀ i, i < 4 → V.cell? ⟨n + i, 0, none⟩ = W.cell? ⟨n + i, 0, none⟩ := fun i hi => hb.cell (p := ⟨n + i, 0, none⟩) (by show n + i < _; omega)
 have f : ∀ i, i < 4 → V.frozen? ⟨n + i, 0, none⟩ = W.frozen? ⟨n + i, 0, none⟩ := fun i hi => hb.frozen (p := ⟨n + i, 0, none⟩) (by show n + i < _; omega)
 exact ⟨(c 0 (by omega)).trans h.text, by rw [c 1 (by omega)]; exact h.res, (f 1 (by omega)).trans h.resf, by rw [c 2 (by omega)]; exact h.err, (f 2 (by omega)).trans h.errf, (f 3 (by omega)).trans h.listf⟩
theorem sc_upto {B m : Nat} {s : List UInt8} {W V : World} (h : SeqW.SC B s W) (hb : Below m W V) (hn : B + 3 ≤ m) : SeqW.SC B s V :=
 ⟨(hb.cell (p := ⟨B, 0, none⟩) (by show B < _; omega)).trans h.rest, (hb.frozen (p := ⟨B, 0, none⟩) (by show B < _; omega)).trans h.open_, (hb.cell (p := ⟨B + 1, 0, none⟩) (by show B + 1 < _; omega)).trans h.sep, (hb.cell (p := ⟨B + 2, 0, none⟩) (by show B + 2 < _; omega)).trans h.save⟩
theorem cells_snoc (acc : List S38) (x : S38) : cells (acc ++ [x]) = cells acc ++ [.int .i64 x.f0, .int .i64 x.f1] := by simp [cells]
theorem J.more {n : Nat} {a0 : ByteArray} {rec : Loop} {w : World} {pre : List (List UInt8)} {x : List UInt8} {acc : List S38} {y : S38} {W V : World} {v : Value} (h : J n a0 rec w pre W) (hb : Below (n + 9) W V) (hlt : acc.length < 60)
  (hrun : run pre [] = some (some acc)) (hst : step acc x = some (some (acc ++ [y]))) (h0 : ¬ a0.data.toList = []) (hc : (V.cell? ⟨n + 3, 0, none⟩).isSome = true) (hown : V.ownsRow (n + 9) 38 2 v (acc.length + 1) (cells acc ++ [.int .i64 y.f0, .int .i64 y.f1])) :
  J n a0 rec w (pre ++ [x]) (V.setCell ⟨n + 3, 0, none⟩ v) := by
 have h1 : run (pre ++ [x]) [] = some (some (acc ++ [y])) := by
  rw [run_app pre [x] [] acc hrun, run, hst]
  rfl
 refine ⟨(h.c.upto hb (by omega)).set (n + 3) (by omega) v, ⟨acc ++ [y], ⟨v, World.cell?_setCell_same' _ _ _ hc, ?_⟩, by simp; omega, h1⟩, fun e => absurd e h0, ?_, ?_, ?_⟩
 ·
  rw [cells_snoc, List.length_append, List.length_singleton]
  refine own_setCell hown (fun e => ?_) v
  have := own_base hown (n + 3) e.symm
  omega
 ·
  exact (Below.heap_setCell _ _ _ _ (by show n + 8 ≠ n + 3; omega)).trans ((hb.block (n + 8) (by omega)).trans h.loop)
 ·
  exact (Below.heap_setCell _ _ _ _ (by show n + 7 ≠ n + 3; omega)).trans ((hb.block (n + 7) (by omega)).trans h.defers)
 ·
  exact (h.below.trans (hb.mono (by omega))).setCell (p := ⟨n + 3, 0, none⟩) (by show n ≤ n + 3; omega) _
theorem two_cells (W : World) (p q : Int) : ∀ (j : Nat) (u : Value), [Value.int .i64 p, .int .i64 q][j]? = some u → (W.alloc (.cells #[.int .i64 p, .int .i64 q] 38)).cell? ((⟨W.heap.size, 0, none⟩ : Addr).add j) = some u := by
 intro j u h
 match j with
 | 0 => obtain rfl := Option.some.inj h; simp [go_sem, Addr.add]
 | 1 => obtain rfl := Option.some.inj h; simp [go_sem, Addr.add]
 | j + 2 => simp at h
theorem two_one (p q : Int) : ∀ u ∈ [Value.int .i64 p, .int .i64 q], u.oneCell' = true := by
 intro u hu
 simp at hu
 rcases hu with rfl | rfl <;> rfl
theorem below_own_grown {n k : Nat} {W V w5 : World} {o : Obj} {v : Value} {xs : List Value} (hr : W.ownsRow (n + 9) 38 2 v k xs) (hb : Below W.heap.size W V) (hg : (V.alloc o).grownBy w5 v.ownBlock) (hn : n + 9 ≤ W.heap.size) : Below (n + 9) W w5 := by
 have h1 : Below (n + 9) W (V.alloc o) := (hb.mono hn).trans ((Below.refl _ V).alloc (by have := hb.size; omega) o)
 exact h1.grown hg (by have := h1.size; omega) (fun k e => own_base hr k e)
theorem info38 : (Tryz.prog.info? 38).map (fun i => (i.zero, i.size, i.bytes)) = some (some (.agg #[.int .i64 0, .int .i64 0]), 2, 16) := by kernel_rfl
theorem fin_defers {n : Nat} {a0 : ByteArray} {rec : Loop} {w : World} {pre : List (List UInt8)} {W V : World} (h : J n a0 rec w pre W) (hb : Below W.heap.size W V) (u v : Value) :
  ((V.setCell ⟨n + 1, 0, none⟩ u).setCell ⟨n + 2, 0, none⟩ v).heap[n + 7]? = some (.deferred (some [])) := by
 have hlt : n + 8 < W.heap.size := (Array.getElem?_eq_some_iff.1 h.loop).1
 exact (Below.heap_setCell _ _ _ _ (by show n + 7 ≠ n + 2; omega)).trans ((Below.heap_setCell _ _ _ _ (by show n + 7 ≠ n + 1; omega)).trans ((hb.block (n + 7) (by omega)).trans h.defers))
theorem res_two (tmps : Array Value) (w : World) (n : Nat) (v1 v2 : Value) (h2 : tmps.getD 2 undef = .pointer (some ⟨n + 1, 0, none⟩)) (h3 : tmps.getD 3 undef = .pointer (some ⟨n + 2, 0, none⟩))
  (c1 : w.cell? ⟨n + 1, 0, none⟩ = some v1) (c2 : w.cell? ⟨n + 2, 0, none⟩ = some v2) : (results Tryz.f16 tmps).run Tryz.prog w = .ok (.tuple #[v1, v2]) w := by
 have hf : Tryz.f16.results = #[.cell 2 29, .cell 3 23] := rfl
 have h2' : tmps[2]?.getD undef = .pointer (some ⟨n + 1, 0, none⟩) := by simpa using h2
 have h3' : tmps[3]?.getD undef = .pointer (some ⟨n + 2, 0, none⟩) := by simpa using h3
 simp [results, hf, h2', h3', asAddr, go_sem, loadVar, c1, c2]
theorem fin_all {n : Nat} {a0 : ByteArray} {rec : Loop} {w : World} {pre : List (List UInt8)} {W V : World} (h : J n a0 rec w pre W) (hb : Below W.heap.size W V) (u v : Value) (X : World) (hX : X = ((V.setCell ⟨n + 1, 0, none⟩ u).setCell ⟨n + 2, 0, none⟩ v).putObj (n + 7) (.deferred none)) :
  X.cell? ⟨n + 1, 0, none⟩ = some u ∧ X.cell? ⟨n + 2, 0, none⟩ = some v ∧ Below n w X ∧ ∀ (r : Value) (k : Nat) (xs : List Value), W.ownsRow (n + 9) 38 2 r k xs → X.ownsRow n 38 2 r k xs := by
 have hlt : n + 8 < W.heap.size := (Array.getElem?_eq_some_iff.1 h.loop).1
 have hd := fin_defers h hb u v
 have hc := h.c.grow hb (by omega)
 have hc1 := hc.set (n + 1) (by omega) u
 have hbl : Below n w ((V.setCell ⟨n + 1, 0, none⟩ u).setCell ⟨n + 2, 0, none⟩ v) := ((h.below.trans (hb.mono (by omega))).setCell (p := ⟨n + 1, 0, none⟩) (by show n ≤ n + 1; omega) _).setCell (p := ⟨n + 2, 0, none⟩) (by show n ≤ n + 2; omega) _
 subst hX
 refine ⟨(cell_put (by omega)).trans ((World.cell?_setCell_other _ _ _ _ (by intro e; injection e; omega)).trans (World.cell?_setCell_same' _ _ _ hc.res)), (cell_put (by omega)).trans (World.cell?_setCell_same' _ _ _ hc1.err), ?_, ?_⟩
 ·
  exact hbl.grown (grownBy_putObj' _ (n + 7) _) (by have := (Array.getElem?_eq_some_iff.1 hd).1; omega) (fun k e => by cases e; omega)
 ·
  intro r k xs hr
  have h1 := pw_own_below hr hb
  have h2 := own_setCell h1 (p := ⟨n + 1, 0, none⟩) (fun e => by have := own_base h1 (n + 1) e.symm; omega) u
  have h3 := own_setCell h2 (p := ⟨n + 2, 0, none⟩) (fun e => by have := own_base h2 (n + 2) e.symm; omega) v
  exact own_weaken (ownsRow_putObj h3 _ hd rfl) (by omega)
theorem jr_fin {n : Nat} {a0 : ByteArray} {rec : Loop} {w W : World} (h : JR n a0 rec w W) (X : World) (hX : X = W.putObj (n + 7) (.deferred none)) :
  X.cell? ⟨n + 1, 0, none⟩ = some (.slice none 0 0) ∧ X.cell? ⟨n + 2, 0, none⟩ = some (.int .i64 3) ∧ Below n w X := by
 subst hX
 exact ⟨(cell_put (by omega)).trans h.res, (cell_put (by omega)).trans h.err, h.below.grown (grownBy_putObj' _ (n + 7) _) (by have := (Array.getElem?_eq_some_iff.1 h.defers).1; omega) (fun k e => by cases e; omega)⟩
set_option maxHeartbeats 8000000 in
set_option maxRecDepth 1000000 in
theorem calls (k : Nat) (a0 : ByteArray) (r1 : List S38) (r2 : Int) (w : World) (hT : Tab.Tabs w) (h : f k a0 = some (r1, r2)) :
  Calls Tryz.prog 16 #[.string a0] w fun e w' => ∃ v0_ : Value, e = .returned (.tuple #[v0_, .int .i64 r2]) ∧ Kd.R k38 38 w' w.heap.size (fun _ => True) v0_ r1 ∧ Below w.heap.size w w' := by
 unfold f at h
 by_cases hsz : ¬ a0.size ≤ 100000
 ·
  rw [if_neg hsz] at h; cases h
 replace hsz := Decidable.not_not.1 hsz
 rw [if_pos hsz] at h
 cases hall : all a0.data.toList with
 | none => rw [hall] at h; cases h
 | some o =>
 rw [hall, Option.bind_some] at h
 refine (callsIn_wide (n := 3)).1 ?_
 refine callsIn_of_wp_marks Tryz.func16 rfl trivial ?_ rfl
 simp only [Tryz.ntmps16, List.size_toArray, List.length_cons, List.length_nil, Nat.reduceAdd, Nat.reduceSub, Array.replicate_succ, Array.replicate_zero, List.push_toArray, List.append_toArray, List.nil_append, List.cons_append]
 have HS := Aside0.mk (SeqW.seq0 a0)
 gi_wp2_with (refine ⟨trivial, ?_⟩; gi_at_call 31; refine (callsIn_wide.2 (HS.out _)).mono ?_; rintro e w' ⟨rfl, hw⟩; rw [hw]; clear hw w')
 clear HS
 obtain ⟨w0, hw0⟩ : ∃ w0, w0 = ((((w.alloc (Obj.cells #[Value.string a0] 9)).alloc (Obj.cells #[Value.slice none 0 0] 29)).alloc (Obj.cells #[Value.int IntKind.i64 0] 23)).alloc (Obj.cells #[Value.slice none 0 0] 29)) := ⟨_, rfl⟩
 have hn : w0.heap.size = w.heap.size + 4 := by rw [hw0]; simp
 have hb0 : Below w.heap.size w w0 := by rw [hw0]; exact below_alloc (below_alloc (below_alloc (below_alloc (Below.refl _ w) _) _) _) _
 have hc0 : Cells w.heap.size a0 w0 := by rw [hw0]; constructor <;> simp [go_sem]
 have hr0 : Row w.heap.size [] w0 := by rw [hw0]; exact ⟨.slice none 0 0, by simp [go_sem], own_nil _ _ _ _⟩
 rw [← hw0]
 clear hw0
 have hsc := SeqW.laid3_sc a0 w0
 have hbl := SeqW.laid3_below a0 w0
 obtain ⟨W0, hW0⟩ : ∃ W0, W0 = SeqW.laid3 a0 w0 := ⟨_, rfl⟩
 have hN : W0.heap.size = w.heap.size + 7 := by rw [hW0]; unfold SeqW.laid3; simp; omega
 rw [← hW0] at hsc hbl ⊢
 clear hW0
 replace hc0 := hc0.grow hbl (by omega)
 replace hr0 := hr0.grow hbl
 replace hb0 := hb0.trans (hbl.mono (by omega))
 rw [hn] at hsc
 simp only [Nat.add_assoc, Nat.reduceAdd]
 obtain ⟨n, hnn⟩ : ∃ n, n = w.heap.size := ⟨_, rfl⟩
 rw [← hnn] at hc0 hr0 hb0 hsc hN ⊢
 have HNN := Aside0.mk hnn
 have HT := Aside0.mk hT
 clear hnn hn hT
 have hso : a0.data.toList.length = a0.size := rfl
 refine SeqW.wp_seq (B := n + 4) (s0 := a0.data.toList) rfl (by omega) (by omega) hsc (fun rec pre W => J n a0 rec w pre W)
  (fun rec c W => (c = .exit 0 ∧ a0.data.toList = [] ∧ J n a0 rec w [] W) ∨ (c = .ret ∧ JR n a0 rec w W)) ?i0 (fun rec pre W v hj => hj.set v) ?hl ?hlx ?hput ?hputx
  (fun x => { tmps := #[Value.string a0, Value.pointer (some { block := n, off := 0 }), Value.pointer (some { block := n + 1, off := 0 }), Value.pointer (some { block := n + 2, off := 0 }), Value.pointer (some { block := n + 3, off := 0 }), .string ⟨x.toArray⟩, undef, undef, undef, undef, undef, undef, undef, Value.string a0, SeqW.seqF (n + 4), .string ⟨x.toArray⟩, undef, undef, undef, undef, undef, undef, undef, undef, undef, undef, undef, undef, undef, undef, undef, undef, undef, undef, undef, undef, undef, undef, undef, undef, undef, undef, undef, undef, undef, undef, undef, undef, undef, undef, undef, undef, undef, undef, undef, undef, undef, undef, undef], defers := [] }) ?assign ?body ?done ?stop
 case i0 =>
  intro rec
  have g1 := below_alloc (Below.refl W0.heap.size W0) (.deferred (some []))
  have g2 := below_alloc g1 (.loop rec)
  have hp : ((W0.alloc (.deferred (some []))).alloc (.loop rec)).heap[n + 8]? = some (.loop rec) := by
   have := World.alloc_heap_new (W0.alloc (.deferred (some []))) (.loop rec)
   rw [World.size_alloc, hN] at this
   exact this
  have hq : ((W0.alloc (.deferred (some []))).alloc (.loop rec)).heap[n + 7]? = some (.deferred (some [])) := by
   have := (Below.heap_alloc (W0.alloc (.deferred (some []))) (.loop rec) W0.heap.size (by simp)).trans (World.alloc_heap_new W0 (.deferred (some [])))
   rw [hN] at this
   exact this
  exact ⟨hc0.grow g2 (by omega), ⟨[], hr0.grow g2, by decide, rfl⟩, fun _ => rfl, hp, hq, hb0.trans (g2.mono (by omega))⟩
 case hl =>
  intro rec pre W hj
  rw [hN]
  exact hj.loop
 case hlx =>
  rintro rec c W (⟨_, _, hj⟩ | ⟨_, hj⟩)
  ·
   rw [hN]; exact hj.loop
  ·
   rw [hN]; exact hj.loop
 case hput =>
  intro rec rec' pre W hj
  rw [hN]
  exact hj.put rec'
 case hputx =>
  rintro rec rec' c W (⟨h1, h2, hj⟩ | ⟨h1, hj⟩)
  ·
   rw [hN]; exact .inl ⟨h1, h2, hj.put rec'⟩
  ·
   rw [hN]; exact .inr ⟨h1, hj.put rec'⟩
 case assign =>
  intro l x W K hK
  gi_wp2
  exact hK
 case body =>
  intro rec l pre x rest s W hsp hj hs
  have hTW : Tab.Tabs W := HT.out.below (by rw [← HNN.out]; exact hj.below)
  have c0 := hj.c.text
  have hJ := Aside0.mk hj
  have hS := Aside0.mk hs
  clear hj hs
  by_cases h0 : a0.data.toList = []
  ·
   have e1 : (a0.toList == ([] : List UInt8)) = true := by rw [ByteArray.toList_eq]; exact beq_iff_eq.2 h0
   have e2 : a0 = ⟨#[]⟩ := by
    apply ByteArray.ext
    exact Array.toList_inj.1 h0
   clear hall h
   gi_wp2
   refine .inl ⟨rfl, h0, ?_⟩
   have := hJ.out
   rw [this.none_ h0] at this
   exact this
  ·
   have e1 : (a0.toList == ([] : List UInt8)) = false := by rw [ByteArray.toList_eq]; exact beq_eq_false_iff_ne.2 h0
   obtain ⟨acc, ⟨v, hv, hr⟩, hacc, hrun⟩ := hJ.out.list
   have hall2 := hall
   unfold all at hall2
   rw [if_neg h0, hsp, run_app pre (x :: rest) [] acc hrun, run] at hall2
   have hxl : x.length ≤ 100000 := by
    have := split_len a0.data.toList x (by rw [hsp]; simp)
    omega
   cases hst : step acc x with
   | none => rw [hst] at hall2; cases hall2
   | some o1 =>
   rw [hst, Option.bind_some] at hall2
   have HST := Aside0.mk hst
   unfold step at hst
   cases ha : mast_ParseAt.f (fromP x) with
   | none => rw [ha] at hst; cases hst
   | some p1 =>
   cases hb : mast_ParseAt.f (toP x) with
   | none => rw [ha, hb] at hst; cases hst
   | some p2 =>
   obtain ⟨q1, f1⟩ := p1
   obtain ⟨q2, f2⟩ := p2
   rw [ha, hb, Option.bind_some, Option.bind_some] at hst
   simp only at hst
   have hcut : strings_Cut.f ⟨x.toArray⟩ ⟨#[45]⟩ = some (fromP x, toP x, ok x) := by
    have hxs : (⟨x.toArray⟩ : ByteArray).size = x.length := by simp [ByteArray.size]
    unfold strings_Cut.f fromP toP ok
    rw [if_pos (by rw [hxs]; omega)]
   have hst2 : o1 = if ok x = true ∧ f1 = 0 ∧ f2 = 0 ∧ acc.length < 60 then some (acc ++ [⟨q1, q2⟩]) else none := by
    by_cases hh : ok x = true ∧ f1 = 0 ∧ f2 = 0 ∧ acc.length < 60
    ·
     rw [if_pos hh] at hst ⊢
     exact (Option.some.inj hst).symm
    ·
     rw [if_neg hh] at hst ⊢
     exact (Option.some.inj hst).symm
   clear hst
   generalize ok x = okb at hcut hst2
   generalize fromP x = fx at hcut ha
   generalize toP x = tox at hcut hb
   obtain ⟨A, cc, rfl⟩ := own_slice hr
   have HCUT := Aside0.mk hcut
   have HA := Aside0.mk ha
   have HBB := Aside0.mk hb
   have HV := Aside0.mk hv
   have HR := Aside0.mk hr
   have HTW := Aside0.mk hTW
   have HNE := Aside0.mk h0
   have HRUN := Aside0.mk hrun
   have HAL := Aside0.mk hall
   have HSP := Aside0.mk hsp
   have HAC := Aside0.mk hacc
   have h4 : n + 8 < W.heap.size := (Array.getElem?_eq_some_iff.1 hJ.out.loop).1
   have H4 := Aside0.mk h4
   clear hcut ha hb hv hr hTW h0 hrun hall hsp hacc hxl h4 h
   by_cases hg : okb = true ∧ f1 = 0 ∧ f2 = 0 ∧ acc.length < 60
   ·
    rw [if_pos hg] at hst2
    obtain ⟨rfl, rfl, rfl, hlt⟩ := hg
    have d1 : decide ((60 : Int) ≤ (acc.length : Int)) = false := decide_eq_false (by omega)
    have HLT := Aside0.mk hlt
    subst hst2
    obtain ⟨i0, hi, hz0, hz1, hz2⟩ := info_parts info38
    have HI := Aside0.mk hi
    have HZ0 := Aside0.mk hz0
    have HZ1 := Aside0.mk hz1
    have HZ2 := Aside0.mk hz2
    clear hlt hall2 hi hz0 hz1 hz2
    gi_wp2_with (first | (refine ⟨trivial, ?_⟩; gi_at_call 25; refine (CallsIn.inRound l (callsIn_wide.2 (strings_Cut.calls _ _ _ _ _ _ HTW.out HCUT.out))).mono ?_; rintro e2 W2 ⟨rfl, m2, rfl⟩; have HB2 := Aside0.mk (pw_below_drewN (Below.refl W.heap.size W) m2); have HT2 := Aside0.mk (HTW.out.below HB2.out)) | (refine ⟨trivial, ?_⟩; gi_at_call 9; refine (CallsIn.inRound l (callsIn_wide.2 (mast_ParseAt.calls _ _ _ _ HT2.out HA.out))).mono ?_; clear HA; rintro e3 W3 ⟨rfl, hb3⟩; have HB3 := Aside0.mk (HB2.out.trans (hb3.mono HB2.out.size)); clear hb3; have HT3 := Aside0.mk (HTW.out.below HB3.out)) | (refine ⟨trivial, ?_⟩; gi_at_call 9; refine (CallsIn.inRound l (callsIn_wide.2 (mast_ParseAt.calls _ _ _ _ HT3.out HBB.out))).mono ?_; rintro e4 W4 ⟨rfl, hb4⟩; have HB4 := Aside0.mk (HB3.out.trans (hb4.mono HB3.out.size)); clear hb4; have HC4 := Aside0.mk (hJ.out.c.grow HB4.out (by have := H4.out; omega)); have k6 := HC4.out.listf; have k5 := (HB4.out.cell (World.block_lt_of_cell? _ _ HV.out)).trans HV.out; have HS4 := Aside0.mk HB4.out.size) | (gi_at_builtin; refine wpListIn_append_own _ rfl _ _ 29 rfl (n + 9) 38 i0 (.agg #[.int .i64 0, .int .i64 0]) 2 16 Tryz.underlying29 HI.out HZ0.out HZ1.out HZ2.out rfl (by decide) _ _ _ rfl (pw_own_below (pw_own_below HR.out HB4.out) (below_alloc (Below.refl _ _) _)) ⟨W4.heap.size, 0, none⟩ 1 1 [.int .i64 q1, .int .i64 q2] rfl rfl (two_cells W4 q1 q2) (two_one q1 q2) (by have := HLT.out; unfold maxLen; omega) (by have := HLT.out; omega) (by have h1 := HS4.out; have h2 := H4.out; have h3 : (W4.alloc (.cells #[.int .i64 q1, .int .i64 q2] 38)).heap.size = W4.heap.size + 1 := World.size_alloc .. ; omega) ?_; intro v5 w5 hown5 hg5 _; obtain ⟨A5, c5, rfl⟩ := own_slice hown5; have HO5 := Aside0.mk hown5; have HB5 := Aside0.mk (below_own_grown HR.out HB4.out hg5 (by have := H4.out; omega)); have HC5 := Aside0.mk (hJ.out.c.upto HB5.out (by omega)); have m6 := HC5.out.listf; have m5 := (HB5.out.cell (p := ⟨n + 3, 0, none⟩) (by show n + 3 < n + 9; omega)).trans HV.out; clear hown5 hg5))
    exact ⟨J.more hJ.out HB5.out HLT.out HRUN.out HST.out HNE.out (by rw [m5]; rfl) HO5.out, sc_set (sc_upto hS.out HB5.out (by omega)) (n + 3) (by omega) _⟩
   ·
    rw [if_neg hg] at hst2
    subst hst2
    obtain rfl := Option.some.inj hall2
    have arm : okb = false ∨ okb = true ∧ (f1 != 0) = true ∨ okb = true ∧ (f1 != 0) = false ∧ (f2 != 0) = true ∨ okb = true ∧ (f1 != 0) = false ∧ (f2 != 0) = false ∧ decide ((60 : Int) ≤ (acc.length : Int)) = true := by
     cases okb with
     | false => exact .inl rfl
     | true =>
      by_cases e1 : f1 = 0
      ·
       by_cases e2 : f2 = 0
       ·
        refine .inr (.inr (.inr ⟨rfl, by rw [e1]; rfl, by rw [e2]; rfl, decide_eq_true ?_⟩))
        have : ¬ acc.length < 60 := fun h => hg ⟨rfl, e1, e2, h⟩
        omega
       ·
        exact .inr (.inr (.inl ⟨rfl, by rw [e1]; rfl, bne_iff_ne.2 e2⟩))
      ·
       exact .inr (.inl ⟨rfl, bne_iff_ne.2 e1⟩)
    clear hg hall2
    rcases arm with rfl | ⟨rfl, hf1⟩ | ⟨rfl, hf1, hf2⟩ | ⟨rfl, hf1, hf2, hf3⟩
    all_goals gi_wp2_with (first | (refine ⟨trivial, ?_⟩; gi_at_call 25; refine (CallsIn.inRound l (callsIn_wide.2 (strings_Cut.calls _ _ _ _ _ _ HTW.out HCUT.out))).mono ?_; rintro e2 W2 ⟨rfl, m2, rfl⟩; have HB2 := Aside0.mk (pw_below_drewN (Below.refl W.heap.size W) m2); have HT2 := Aside0.mk (HTW.out.below HB2.out)) | (refine ⟨trivial, ?_⟩; gi_at_call 9; refine (CallsIn.inRound l (callsIn_wide.2 (mast_ParseAt.calls _ _ _ _ HT2.out HA.out))).mono ?_; clear HA; rintro e3 W3 ⟨rfl, hb3⟩; have HB3 := Aside0.mk (HB2.out.trans (hb3.mono HB2.out.size)); clear hb3; have HT3 := Aside0.mk (HTW.out.below HB3.out)) | (refine ⟨trivial, ?_⟩; gi_at_call 9; refine (CallsIn.inRound l (callsIn_wide.2 (mast_ParseAt.calls _ _ _ _ HT3.out HBB.out))).mono ?_; rintro e4 W4 ⟨rfl, hb4⟩; have HB4 := Aside0.mk (HB3.out.trans (hb4.mono HB3.out.size)); clear hb4; have HC4 := Aside0.mk (hJ.out.c.grow HB4.out (by have := H4.out; omega)); obtain ⟨u1, k1⟩ := Option.isSome_iff_exists.1 HC4.out.res; obtain ⟨u2, k2⟩ := Option.isSome_iff_exists.1 HC4.out.err; have k3 := HC4.out.resf; have k4 := HC4.out.errf; have k5 := (HB4.out.cell (World.block_lt_of_cell? _ _ HV.out)).trans HV.out))
    all_goals exact .inr ⟨rfl, JR.made hJ.out HB4.out HAL.out⟩
 case done =>
  intro rec W hj
  have hne : ¬ a0.data.toList = [] := fun e => SeqW.split_ne _ (hj.none_ e)
  obtain ⟨acc, ⟨v, hv, hr⟩, hacc, hrun⟩ := hj.list
  unfold all at hall
  rw [if_neg hne, hrun] at hall
  obtain rfl := Option.some.inj hall
  rw [endF] at h
  cases hvd : mast_Valid.f k acc with
  | none => rw [hvd] at h; cases h
  | some b =>
  rw [hvd, Option.bind_some] at h
  have HR : Kd.R k38 38 W (n + 9) (fun _ => True) v acc := ⟨fun _ _ => trivial, cells acc, hr, reps _ _ _ acc⟩
  obtain ⟨A, c, rfl, hle, hrd⟩ := Kd.R_reads HR
  have HVAL := Aside0.mk (mast_Valid.calls k A c acc b W hrd hle hvd)
  have HJ := Aside0.mk hj
  have HOWN := Aside0.mk hr
  have HV := Aside0.mk hv
  have H4 : Aside0 (n + 8 < W.heap.size) := ⟨(Array.getElem?_eq_some_iff.1 hj.loop).1⟩
  clear hj hne hr hrun hall hvd HR hle hrd hacc
  cases b with
  | true =>
   have h := Option.some.inj h
   obtain ⟨rfl, rfl⟩ := Prod.mk.inj h
   clear h
   gi_wp2_with (refine ⟨trivial, ?_⟩; gi_at_call 14; refine (callsIn_wide.2 HVAL.out).mono ?_; rintro e W7 ⟨rfl, hb7⟩; have HB7 := Aside0.mk hb7; clear hb7; have HC7 := Aside0.mk (HJ.out.c.grow HB7.out (by have := H4.out; omega)); obtain ⟨u1, k1⟩ := Option.isSome_iff_exists.1 HC7.out.res; obtain ⟨u2, k2⟩ := Option.isSome_iff_exists.1 HC7.out.err; have k3 := HC7.out.resf; have k4 := HC7.out.errf; have k5 := (HB7.out.cell (World.block_lt_of_cell? _ _ HV.out)).trans HV.out)
   refine ⟨by simp, .inl ⟨_, _, rfl, run_takeDeferred (fin_defers HJ.out HB7.out _ _), ?_⟩⟩
   obtain ⟨g1, g2, g3, g4⟩ := fin_all HJ.out HB7.out (.slice A acc.length c) (.int .i64 0) _ rfl
   refine ⟨_, res_two _ _ n (.slice A acc.length c) (.int .i64 0) rfl rfl g1 g2, .slice A acc.length c, rfl, ?_, ?_⟩
   ·
    rw [← HNN.out]
    exact ⟨fun _ _ => trivial, cells acc, g4 _ _ _ HOWN.out, reps _ _ _ acc⟩
   ·
    rw [← HNN.out]
    exact g3
  | false =>
   have h := Option.some.inj h
   obtain ⟨rfl, rfl⟩ := Prod.mk.inj h
   clear h
   gi_wp2_with (refine ⟨trivial, ?_⟩; gi_at_call 14; refine (callsIn_wide.2 HVAL.out).mono ?_; rintro e W7 ⟨rfl, hb7⟩; have HB7 := Aside0.mk hb7; clear hb7; have HC7 := Aside0.mk (HJ.out.c.grow HB7.out (by have := H4.out; omega)); obtain ⟨u1, k1⟩ := Option.isSome_iff_exists.1 HC7.out.res; obtain ⟨u2, k2⟩ := Option.isSome_iff_exists.1 HC7.out.err; have k3 := HC7.out.resf; have k4 := HC7.out.errf)
   refine ⟨by simp, .inl ⟨_, _, rfl, run_takeDeferred (fin_defers HJ.out HB7.out _ _), ?_⟩⟩
   obtain ⟨g1, g2, g3, g4⟩ := fin_all HJ.out HB7.out (.slice none 0 0) (.int .i64 3) _ rfl
   refine ⟨_, res_two _ _ n (.slice none 0 0) (.int .i64 3) rfl rfl g1 g2, .slice none 0 0, rfl, Kd.R_nil _ _ _ _ _, ?_⟩
   rw [← HNN.out]
   exact g3
 case stop =>
  rintro rec c W (⟨rfl, h2, hj⟩ | ⟨rfl, hj⟩)
  ·
   have hov : o = some [] := by
    unfold all at hall
    rw [if_pos h2] at hall
    exact (Option.some.inj hall).symm
   subst hov
   obtain ⟨acc, ⟨v, hv, hr⟩, hacc, hrun⟩ := hj.list
   have hac : acc = [] := (Option.some.inj (Option.some.inj hrun)).symm
   rw [← hac] at h
   have hne := h2
   rw [hN]
   clear h2 hac
   rw [endF] at h
   cases hvd : mast_Valid.f k acc with
   | none => rw [hvd] at h; cases h
   | some b =>
   rw [hvd, Option.bind_some] at h
   have HR : Kd.R k38 38 W (n + 9) (fun _ => True) v acc := ⟨fun _ _ => trivial, cells acc, hr, reps _ _ _ acc⟩
   obtain ⟨A, c, rfl, hle, hrd⟩ := Kd.R_reads HR
   have HVAL := Aside0.mk (mast_Valid.calls k A c acc b W hrd hle hvd)
   have HJ := Aside0.mk hj
   have HOWN := Aside0.mk hr
   have HV := Aside0.mk hv
   have H4 : Aside0 (n + 8 < W.heap.size) := ⟨(Array.getElem?_eq_some_iff.1 hj.loop).1⟩
   clear hj hne hr hrun hall hvd HR hle hrd hacc
   cases b with
   | true =>
    have h := Option.some.inj h
    obtain ⟨rfl, rfl⟩ := Prod.mk.inj h
    clear h
    gi_wp2_with (refine ⟨trivial, ?_⟩; gi_at_call 14; refine (callsIn_wide.2 HVAL.out).mono ?_; rintro e W7 ⟨rfl, hb7⟩; have HB7 := Aside0.mk hb7; clear hb7; have HC7 := Aside0.mk (HJ.out.c.grow HB7.out (by have := H4.out; omega)); obtain ⟨u1, k1⟩ := Option.isSome_iff_exists.1 HC7.out.res; obtain ⟨u2, k2⟩ := Option.isSome_iff_exists.1 HC7.out.err; have k3 := HC7.out.resf; have k4 := HC7.out.errf; have k5 := (HB7.out.cell (World.block_lt_of_cell? _ _ HV.out)).trans HV.out)
    refine ⟨by simp, .inl ⟨_, _, rfl, run_takeDeferred (fin_defers HJ.out HB7.out _ _), ?_⟩⟩
    obtain ⟨g1, g2, g3, g4⟩ := fin_all HJ.out HB7.out (.slice A acc.length c) (.int .i64 0) _ rfl
    refine ⟨_, res_two _ _ n (.slice A acc.length c) (.int .i64 0) rfl rfl g1 g2, .slice A acc.length c, rfl, ?_, ?_⟩
    ·
     rw [← HNN.out]
     exact ⟨fun _ _ => trivial, cells acc, g4 _ _ _ HOWN.out, reps _ _ _ acc⟩
    ·
     rw [← HNN.out]
     exact g3
   | false =>
    have h := Option.some.inj h
    obtain ⟨rfl, rfl⟩ := Prod.mk.inj h
    clear h
    gi_wp2_with (refine ⟨trivial, ?_⟩; gi_at_call 14; refine (callsIn_wide.2 HVAL.out).mono ?_; rintro e W7 ⟨rfl, hb7⟩; have HB7 := Aside0.mk hb7; clear hb7; have HC7 := Aside0.mk (HJ.out.c.grow HB7.out (by have := H4.out; omega)); obtain ⟨u1, k1⟩ := Option.isSome_iff_exists.1 HC7.out.res; obtain ⟨u2, k2⟩ := Option.isSome_iff_exists.1 HC7.out.err; have k3 := HC7.out.resf; have k4 := HC7.out.errf)
    refine ⟨by simp, .inl ⟨_, _, rfl, run_takeDeferred (fin_defers HJ.out HB7.out _ _), ?_⟩⟩
    obtain ⟨g1, g2, g3, g4⟩ := fin_all HJ.out HB7.out (.slice none 0 0) (.int .i64 3) _ rfl
    refine ⟨_, res_two _ _ n (.slice none 0 0) (.int .i64 3) rfl rfl g1 g2, .slice none 0 0, rfl, Kd.R_nil _ _ _ _ _, ?_⟩
    rw [← HNN.out]
    exact g3
  ·
   have hov : o = none := by
    have := hj.bad
    rw [hall] at this
    exact Option.some.inj this
   subst hov
   have h := Option.some.inj h
   obtain ⟨rfl, rfl⟩ := Prod.mk.inj h
   have HJ := Aside0.mk hj
   clear h hj hall
   rw [hN]
   gi_wp2
   refine ⟨by simp, .inl ⟨_, _, rfl, run_takeDeferred HJ.out.defers, ?_⟩⟩
   obtain ⟨g1, g2, g3⟩ := jr_fin HJ.out _ rfl
   refine ⟨_, res_two _ _ n (.slice none 0 0) (.int .i64 3) rfl rfl g1 g2, .slice none 0 0, rfl, Kd.R_nil _ _ _ _ _, ?_⟩
   rw [← HNN.out]
   exact g3
end Go.Proofs.YtcmdcgghpkcchaaGreatDoor.ParseW

namespace Go.Proofs.YtcmdcgghpkcchaaGreatDoor.XMast
open Go.RowKit Go.Proofs.YtcmdcgghpkcchaaGreatDoorW.PrintWords Go.Proofs.YtcmdcgghpkcchaaGreatDoorW.PrintLast Go.Proofs.YtcmdcgghpkcchaaGreatDoorW.PrintMore
attribute [local go_sem] max2_int min2_int max_two min_two max_three min_three max_four min_four   -- for this text's walks alone
set_option linter.unusedVariables false
set_option linter.unusedSimpArgs false
/-! ### mast_Parse: function 16 -/
def mast_Parse.f (k : Nat) (a0 : ByteArray) : Option (List S38 × Int) := ParseW.f k a0
theorem mast_Parse.calls (k : Nat) (a0 : ByteArray) (r1 : List S38) (r2 : Int) (w : World) (hT : Tab.Tabs w) (h : mast_Parse.f k a0 = some (r1, r2)) :
  Calls Tryz.prog 16 #[.string a0] w fun e w' => ∃ v0_ : Value, e = .returned (.tuple #[v0_, .int .i64 r2]) ∧ Kd.R k38 38 w' w.heap.size (fun _ => True) v0_ r1 ∧ Below w.heap.size w w' := ParseW.calls k a0 r1 r2 w hT h

end Go.Proofs.YtcmdcgghpkcchaaGreatDoor.XMast
-- Written by wip/xprint.py of this repo, over the kit's print.py: out of the translation; the oracles in it are by hand. Not trusted: Lean checks it.
namespace Go.Proofs.YtcmdcgghpkcchaaGreatDoor.XMast
open Go.RowKit Go.Proofs.YtcmdcgghpkcchaaGreatDoorW.PrintWords Go.Proofs.YtcmdcgghpkcchaaGreatDoorW.PrintLast Go.Proofs.YtcmdcgghpkcchaaGreatDoorW.PrintMore
attribute [local go_sem] max2_int min2_int max_two min_two max_three min_three max_four min_four   -- for this text's walks alone
set_option linter.unusedVariables false
set_option linter.unusedSimpArgs false

theorem eqA38 (d : Nat) (w : World) (x0 y0 : Int) (x1 y1 : Int) :
  (Op.equalIn (d + 2) 38 (.agg #[.int .i64 x0, .int .i64 x1]) (.agg #[.int .i64 y0, .int .i64 y1])).run Tryz.prog w = .ok (x0 == y0 && (x1 == y1)) w := by
 refine eqA_of Tryz.underlying38 (by kernel_rfl) ?_
 refine eqf_cons (by rfl) (by go_simp; rfl) (by go_simp; rfl) (by go_simp) ?_
 exact eqf_last (by rfl) (by go_simp; rfl) (by go_simp; rfl) (by go_simp)
end Go.Proofs.YtcmdcgghpkcchaaGreatDoor.XMast

namespace Go.Proofs.YtcmdcgghpkcchaaGreatDoor.XMast
open Go.RowKit Go.Proofs.YtcmdcgghpkcchaaGreatDoorW.PrintWords Go.Proofs.YtcmdcgghpkcchaaGreatDoorW.PrintLast Go.Proofs.YtcmdcgghpkcchaaGreatDoorW.PrintMore
attribute [local go_sem] max2_int min2_int max_two min_two max_three min_three max_four min_four   -- for this text's walks alone
set_option linter.unusedVariables false
set_option linter.unusedSimpArgs false
attribute [local go_sem high] eqA38
/-! ### dropperlaw01_Same: function 17 -/
def dropperlaw01_Same.l0 : Nat → List (S38) → List (S38) → Int → Option (Bool)
 | 0, _, _, _ => none
 | k + 1, x0, x1, x5 => if x5 < (x0.length : Int) then (if 0 ≤ x5 then (if x5 < (x1.length : Int) then (if (!(((rd_T38 x0 x5).f0) == ((rd_T38 x1 x5).f0)) || (!(((rd_T38 x0 x5).f1) == ((rd_T38 x1 x5).f1)))) = true then (some false) else (dropperlaw01_Same.l0 k x0 x1 (wrap64 (x5 + 1)))) else (none)) else (none)) else (some true)
def dropperlaw01_Same.f (k : Nat) (l0 : List (S38)) (l1 : List (S38)) : Option (Bool) := if (l0.length : Int) = (l1.length : Int) then (dropperlaw01_Same.l0 k l0 l1 0) else (some false)
set_option maxHeartbeats 8000000 in
set_option maxRecDepth 100000 in
theorem dropperlaw01_Same.calls (k : Nat) (A0 : Option Addr) (c0 : Nat) (l0 : List (S38)) (A1 : Option Addr) (c1 : Nat) (l1 : List (S38)) (r : Bool) (w : World) (hr0 : Kd.C k38 w A0 l0.length l0) (hc0 : l0.length ≤ c0) (hr1 : Kd.C k38 w A1 l1.length l1) (hc1 : l1.length ≤ c1) (h : dropperlaw01_Same.f k l0 l1 = some r) :
  Calls Tryz.prog 17 #[.slice A0 l0.length c0, .slice A1 l1.length c1] w fun e w' => e = .returned (.bool r) ∧ Drawn0 w w' := by
 have hu38 := Tryz.underlying38
 have HR0 := Aside0.mk hr0
 have HC0 := Aside0.mk hc0
 clear hr0 hc0
 have HR1 := Aside0.mk hr1
 have HC1 := Aside0.mk hc1
 clear hr1 hc1
 have H : (if (l0.length : Int) = (l1.length : Int) then (dropperlaw01_Same.l0 k l0 l1 0) else (some false)) = some r := h
 clear h
 by_cases c3 : (l0.length : Int) = (l1.length : Int)
 ·
  rw [if_pos c3] at H
  have c3b0 : ((l0.length : Int) == (l1.length : Int)) = true := beq_iff_eq.mpr c3
  have c3b1 : ((l0.length : Int) != (l1.length : Int)) = false := bne_eq_false_iff_eq.mpr c3
  have c3b2 : (l0.length == l1.length) = true := by first | simpa using c3 | (simp at c3 ⊢; omega)
  clear c3
  have H' := Aside0.mk H
  clear H
  go_enter Tryz.func17, Tryz.ntmps17
  go_wp2
  repeat (go_quiet (fail); try go_wp2)
  go_loopg [5] k (fun kq v5 w' => ∃ (x5_1 : Int), v5 = .int .i64 x5_1 ∧ Aside0 (dropperlaw01_Same.l0 kq l0 l1 x5_1 = some r) ∧ Aside0 (kq ≤ k) ∧ Drawn0 w w')
  case atStart => exact ⟨(0), rsz, H', ⟨Nat.le_refl _⟩, drz⟩
  case round =>
   clear H'
   (try clear c1); (try clear p2); (try clear c3); (try clear c3b0); (try clear c3b1); (try clear c3b2)
   obtain ⟨x5_1, rfl, HA, HK1, ⟨m1, rfl⟩⟩ := hrel
   cases gk with
   | zero => exact absurd HA.out (by simp [dropperlaw01_Same.l0])
   | succ k1 =>
    have H := HA.out
    clear HA
    simp only [dropperlaw01_Same.l0] at H
    by_cases c4 : x5_1 < (l0.length : Int)
    ·
     rw [if_pos c4] at H
     have c4b0 : decide (x5_1 < (l0.length : Int)) = true := decide_eq_true c4
     clear c4
     by_cases c5 : 0 ≤ x5_1
     ·
      rw [if_pos c5] at H
      have c5b0 : decide (0 ≤ x5_1) = true := decide_eq_true c5
      clear c5
      by_cases c6 : x5_1 < (l1.length : Int)
      ·
       rw [if_pos c6] at H
       have c6b0 : decide (x5_1 < (l1.length : Int)) = true := decide_eq_true c6
       clear c6
       by_cases c7 : (!(((rd_T38 l0 x5_1).f0) == ((rd_T38 l1 x5_1).f0)) || (!(((rd_T38 l0 x5_1).f1) == ((rd_T38 l1 x5_1).f1)))) = true
       ·
        rw [if_pos c7] at H
        have c7b0 : (!(((rd_T38 l0 x5_1).f0) == ((rd_T38 l1 x5_1).f0)) || (!(((rd_T38 l0 x5_1).f1) == ((rd_T38 l1 x5_1).f1)))) = true := c7
        clear c7
        obtain rfl := Option.some.inj H
        have p178 : 0 ≤ (x5_1 : Int) := of_decide_eq_true asz
        have q178 : x5_1 < (l0.length : Int) := of_decide_eq_true asz
        obtain ⟨ad178, e178, hx178_0, hx178_1⟩ := at_T38 HR0.out x5_1 p178 q178
        cases e178
        replace p178 := eq_true p178
        replace q178 := eq_true q178
        have p179 : 0 ≤ (x5_1 : Int) := of_decide_eq_true asz
        have q179 : x5_1 < (l1.length : Int) := of_decide_eq_true asz
        obtain ⟨ad179, e179, hx179_0, hx179_1⟩ := at_T38 HR1.out x5_1 p179 q179
        cases e179
        replace p179 := eq_true p179
        replace q179 := eq_true q179
        go_wp2
        repeat (go_quiet (fail); try go_wp2)
        go_ret
        exact ⟨by first | rfl | (simp; done) | (simp [*]; done), drz⟩
       ·
        rw [if_neg c7] at H
        have c7b0 : (!(((rd_T38 l0 x5_1).f0) == ((rd_T38 l1 x5_1).f0)) || (!(((rd_T38 l0 x5_1).f1) == ((rd_T38 l1 x5_1).f1)))) = false := by simpa using c7
        clear c7
        have H' := Aside0.mk H
        clear H
        have p178 : 0 ≤ (x5_1 : Int) := of_decide_eq_true asz
        have q178 : x5_1 < (l0.length : Int) := of_decide_eq_true asz
        obtain ⟨ad178, e178, hx178_0, hx178_1⟩ := at_T38 HR0.out x5_1 p178 q178
        cases e178
        replace p178 := eq_true p178
        replace q178 := eq_true q178
        have p179 : 0 ≤ (x5_1 : Int) := of_decide_eq_true asz
        have q179 : x5_1 < (l1.length : Int) := of_decide_eq_true asz
        obtain ⟨ad179, e179, hx179_0, hx179_1⟩ := at_T38 HR1.out x5_1 p179 q179
        cases e179
        replace p179 := eq_true p179
        replace q179 := eq_true q179
        go_wp2
        repeat (go_quiet (fail); try go_wp2)
        go_roundg k1
        case measure => have := HK1.out; omega
        case rel => exact ⟨(wrap64 (x5_1 + 1)), rsz, H', ⟨by have := HK1.out; omega⟩, drz⟩
      ·
       rw [if_neg c6] at H
       exact absurd H (by simp)
     ·
      rw [if_neg c5] at H
      exact absurd H (by simp)
    ·
     rw [if_neg c4] at H
     have c4b0 : decide (x5_1 < (l0.length : Int)) = false := decide_eq_false c4
     clear c4
     obtain rfl := Option.some.inj H
     go_wp2
     repeat (go_quiet (fail); try go_wp2)
     go_ret
     exact ⟨by first | rfl | (simp; done) | (simp [*]; done), drz⟩
 ·
  rw [if_neg c3] at H
  have c3b0 : ((l0.length : Int) == (l1.length : Int)) = false := beq_eq_false_iff_ne.mpr c3
  have c3b1 : ((l0.length : Int) != (l1.length : Int)) = true := bne_iff_ne.mpr c3
  have c3b2 : (l0.length == l1.length) = false := by first | simpa using c3 | (simp at c3 ⊢; omega)
  obtain rfl := Option.some.inj H
  go_enter Tryz.func17, Tryz.ntmps17
  go_wp2
  repeat (go_quiet (fail); try go_wp2)
  go_ret
  exact ⟨by first | rfl | (simp; done) | (simp [*]; done), drz⟩

end Go.Proofs.YtcmdcgghpkcchaaGreatDoor.XMast