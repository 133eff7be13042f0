-- Written by wip/pack.py of this repo: texts of this claim, put together.
import Derived.DataReads
import Derived.OpenShut
import Derived.ChangeArms
import Derived.Test.YtcmdcgghpkcchaaGreatDoorRows
import Derived.ProofKit
import Derived.LaidMore
import Derived.Stop.Joined
import Derived.Lib.LaidTab
import Derived.HandedShaped
import Derived.Shelf.Vars
import Derived.ChangeBears2
import Derived.Test.YtcmdcgghpkcchaaGreatDoorTie
import Derived.Test.YtcmdcgghpkcchaaGreatDoorCards
import Derived.SevenTiedAt
import Derived.WalkKit
import Derived.ShutString
import Derived.ChangeOld
import Derived.Below
import Derived.SizedLaws
import Derived.Test.YtcmdcgghpkcchaaGreatDoorKMastChainagese
namespace Go.Proofs.YtcmdcgghpkcchaaGreatDoor.XMast
open Go.RowKit Go.Proofs.YtcmdcgghpkcchaaGreatDoorW.PrintWords Go.Proofs.YtcmdcgghpkcchaaGreatDoorW.PrintLast Go.Proofs.YtcmdcgghpkcchaaGreatDoorW.PrintMore
attribute [local go_sem] max2_int min2_int max_two min_two max_three min_three max_four min_four   -- for this text's walks alone
set_option linter.unusedVariables false
set_option linter.unusedSimpArgs false
/-! ### mast_Near: function 20 -/
def mast_Near.j0 : Nat → List (S38) → Int → Bool → Option (Int × Int)
 | 0, _, _, _ => none
 | k + 1, x0, x1, x11 => if x11 = true then (some (0, 2)) else (if (x0.length : Int) = 0 then (some (0, 5)) else ((mast_has.f x0 x1).bind fun t126 => (if t126 = true then (some (x1, 0)) else ((mast_find.f x0 x1).bind fun t127 => (if t127 = 0 then (if 0 < (x0.length : Int) then (some ((rd_T38 x0 0).f0, 0)) else (none)) else (if t127 = (x0.length : Int) then (if 0 ≤ (wrap64 (t127 - 1)) then (if (wrap64 (t127 - 1)) < (x0.length : Int) then (some (wrap64 (((rd_T38 x0 (wrap64 (t127 - 1))).f1) - 1), 0)) else (none)) else (none)) else (if 0 ≤ (wrap64 (t127 - 1)) then (if (wrap64 (t127 - 1)) < (x0.length : Int) then (if 0 ≤ t127 then (if t127 < (x0.length : Int) then (if (wrap64 (x1 - (wrap64 (((rd_T38 x0 (wrap64 (t127 - 1))).f1) - 1)))) ≤ (wrap64 (((rd_T38 x0 t127).f0) - x1)) then (some (wrap64 (((rd_T38 x0 (wrap64 (t127 - 1))).f1) - 1), 0)) else (some ((rd_T38 x0 t127).f0, 0))) else (none)) else (none)) else (none)) else (none))))))))
def mast_Near.f (k : Nat) (l0 : List (S38)) (a1 : Int) : Option (Int × Int) := (mast_Valid.f k l0).bind fun t125 => (if t125 = true then (if a1 < 0 then (mast_Near.j0 k l0 a1 true) else (mast_Near.j0 k l0 a1 (decide (a1 ≥ 100000)))) else (some (0, 10)))
theorem mast_Near.mono_l : ∀ k, (∀ y0 y1 y2, LeO (mast_Near.j0 k y0 y1 y2) (mast_Near.j0 (k + 1) y0 y1 y2))
 | 0 => fun _ _ _ r h => by simp [mast_Near.j0] at h
 | k + 1 => by
  have ih0 := mast_Near.mono_l k
  ·
   intro y0 y1 y2
   unfold mast_Near.j0
   repeat' first
   | (with_reducible exact ih0 _ _ _)
   | (with_reducible exact mast_Valid.mono _ _)
   | (with_reducible exact LeO.refl _)
   | (with_reducible exact LeO.none _)
   | (with_reducible refine LeO.ite ?_ ?_)
   | (with_reducible refine LeO.bind ?_ (fun _ => ?_))
   | exact ih0 _ _ _
   | exact mast_Valid.mono _ _
   | exact LeO.none _
   | refine LeO.ite ?_ ?_
   | refine LeO.bind ?_ (fun _ => ?_)
theorem mast_Near.mono : ∀ a0 a1 k, LeO (mast_Near.f k a0 a1) (mast_Near.f (k + 1) a0 a1) := by
 intro a0 a1 k
 have ih0 := mast_Near.mono_l k
 unfold mast_Near.f
 repeat' first
   | (with_reducible exact ih0 _ _ _)
   | (with_reducible exact mast_Valid.mono _ _)
   | (with_reducible exact LeO.refl _)
   | (with_reducible exact LeO.none _)
   | (with_reducible refine LeO.ite ?_ ?_)
   | (with_reducible refine LeO.bind ?_ (fun _ => ?_))
   | exact ih0 _ _ _
   | exact mast_Valid.mono _ _
   | exact LeO.none _
   | refine LeO.ite ?_ ?_
   | refine LeO.bind ?_ (fun _ => ?_)
set_option maxHeartbeats 8000000 in
set_option maxRecDepth 100000 in
theorem mast_Near.calls (k : Nat) (A0 : Option Addr) (c0 : Nat) (l0 : List (S38)) (a1 : Int) (r1 : Int) (r2 : Int) (w : World) (hr0 : Kd.C k38 w A0 l0.length l0) (hc0 : l0.length ≤ c0) (h : mast_Near.f k l0 a1 = some (r1, r2)) :
  Calls Tryz.prog 20 #[.slice A0 l0.length c0, .int .i64 a1] w fun e w' => e = .returned (.tuple #[.int .i64 r1, .int .i64 r2]) ∧ Below w.heap.size w w' := by
 have HR0 := Aside0.mk hr0
 have HC0 := Aside0.mk hc0
 clear hr0 hc0
 have HB := Aside0.mk (Below.refl w.heap.size w)
 have H : ((mast_Valid.f k l0).bind fun t125 => (if t125 = true then (if a1 < 0 then (mast_Near.j0 k l0 a1 true) else (mast_Near.j0 k l0 a1 (decide (a1 ≥ 100000)))) else (some (0, 10)))) = some (r1, r2) := h
 clear h
 replace H := Option.bind_eq_some_iff.mp H
 obtain ⟨t125, A30, H⟩ := H
 try dsimp only at H
 have A3 := Aside0.mk A30
 clear A30
 by_cases c4 : t125 = true
 ·
  subst c4
  rw [if_pos rfl] at H
  have HC5 := Aside0.mk H
  clear H
  go_enter Tryz.func20, Tryz.ntmps20
  go_upto_region 3 with (first | (go_at_call 14; (with_reducible refine (mast_Valid.calls k _ _ l0 true _ ?side1 HC0.out A3.out).mono ?_); (case side1 => repeat (first | exact HR0.out | (with_reducible refine Kd.C_alloc ?_ _) | (with_reducible refine Kd.C_drewN ?_ _) | (with_reducible refine Kd.C_drew ?_))); rintro e w6 ⟨rfl, hb⟩; replace HB := Aside0.mk (below_step bel hb); clear hb))
  repeat (go_quiet (first | (go_at_call 14; (with_reducible refine (mast_Valid.calls k _ _ l0 true _ ?side1 HC0.out A3.out).mono ?_); (case side1 => repeat (first | exact HR0.out | (with_reducible refine Kd.C_alloc ?_ _) | (with_reducible refine Kd.C_drewN ?_ _) | (with_reducible refine Kd.C_drew ?_))); rintro e w6 ⟨rfl, hb⟩; replace HB := Aside0.mk (below_step bel hb); clear hb)); go_upto_region 3 with (first | (go_at_call 14; (with_reducible refine (mast_Valid.calls k _ _ l0 true _ ?side1 HC0.out A3.out).mono ?_); (case side1 => repeat (first | exact HR0.out | (with_reducible refine Kd.C_alloc ?_ _) | (with_reducible refine Kd.C_drewN ?_ _) | (with_reducible refine Kd.C_drew ?_))); rintro e w6 ⟨rfl, hb⟩; replace HB := Aside0.mk (below_step bel hb); clear hb)))
  (try simp only [Act.put, List.setIfInBounds_toArray, List.set_cons_zero, List.set_cons_succ])
  go_cut [11] (fun v11 wc => ∃ (kq : Nat) (x11_4 : Bool), v11 = .bool x11_4 ∧ Aside0 (mast_Near.j0 kq l0 a1 x11_4 = some (r1, r2)) ∧ Aside0 (kq ≤ k) ∧ Aside0 (Below w.heap.size w wc))
  case first =>
   have H := HC5.out
   clear HC5
   by_cases c7 : a1 < 0
   ·
    rw [if_pos c7] at H
    have c7b0 : decide (a1 < 0) = true := decide_eq_true c7
    clear c7
    (first | rw [c7b0] | (simp only [i64_w, i32_w]; rw [c7b0]) | skip)
    have H' := Aside0.mk H
    clear H
    go_wp2
    repeat (go_quiet (fail); try go_wp2)
    go_meet
    case rel => exact ⟨_, (true), rsz, H', ⟨by first | omega | exact Nat.le_refl _⟩, ⟨bel⟩⟩
   ·
    rw [if_neg c7] at H
    have c7b0 : decide (a1 < 0) = false := decide_eq_false c7
    clear c7
    (first | rw [c7b0] | (simp only [i64_w, i32_w]; rw [c7b0]) | skip)
    have H' := Aside0.mk H
    clear H
    go_wp2
    repeat (go_quiet (fail); try go_wp2)
    go_meet
    case rel => exact ⟨_, (decide (a1 ≥ 100000)), rsz, H', ⟨by first | omega | exact Nat.le_refl _⟩, ⟨bel⟩⟩
  case rest =>
   clear HC5
   (try clear c2); (try clear p2); (try clear c4); (try clear c7); (try clear c7b0)
   obtain ⟨kq, x11_4, rfl, HA, HJ4, HB⟩ := hcut
   cases kq with
   | zero => exact absurd HA.out (by simp [mast_Near.j0])
   | succ kj4 =>
    have H := HA.out
    clear HA
    simp only [mast_Near.j0] at H
    by_cases c8 : x11_4 = true
    ·
     subst c8
     rw [if_pos rfl] at H
     simp only [Option.some.injEq, Prod.mk.injEq] at H
     obtain ⟨rfl, rfl⟩ := H
     go_wp2
     repeat (go_quiet (fail); try go_wp2)
     go_ret2
     exact ⟨ezz, bel⟩
    ·
     replace c8 := Bool.eq_false_iff.mpr c8
     subst c8
     rw [if_neg (show ¬ (false = true) by decide)] at H
     by_cases c9 : (l0.length : Int) = 0
     ·
      rw [if_pos c9] at H
      have c9b0 : ((l0.length : Int) == 0) = true := beq_iff_eq.mpr c9
      have c9b1 : ((l0.length : Int) != 0) = false := bne_eq_false_iff_eq.mpr c9
      clear c9
      simp only [Option.some.injEq, Prod.mk.injEq] at H
      obtain ⟨rfl, rfl⟩ := H
      go_wp2
      repeat (go_quiet (fail); try go_wp2)
      go_ret2
      exact ⟨ezz, bel⟩
     ·
      rw [if_neg c9] at H
      have c9b0 : ((l0.length : Int) == 0) = false := beq_eq_false_iff_ne.mpr c9
      have c9b1 : ((l0.length : Int) != 0) = true := bne_iff_ne.mpr c9
      have c9b2 : ¬ (l0 = []) := fun h_ => c9 (by rw [h_]; rfl)
      replace H := Option.bind_eq_some_iff.mp H
      obtain ⟨t126, A100, H⟩ := H
      try dsimp only at H
      have A10 := Aside0.mk A100
      clear A100
      by_cases c11 : t126 = true
      ·
       subst c11
       rw [if_pos rfl] at H
       simp only [Option.some.injEq, Prod.mk.injEq] at H
       obtain ⟨rfl, rfl⟩ := H
       go_wp2_with (first | (go_at_call 33; (with_reducible refine (mast_has.calls _ _ l0 a1 true _ (cbz HR0) HC0.out A10.out).mono ?_); rintro e w12 ⟨rfl, hb⟩; replace HB := Aside0.mk (below_step bel hb); clear hb))
       repeat (go_quiet (first | (go_at_call 33; (with_reducible refine (mast_has.calls _ _ l0 a1 true _ (cbz HR0) HC0.out A10.out).mono ?_); rintro e w12 ⟨rfl, hb⟩; replace HB := Aside0.mk (below_step bel hb); clear hb)); try go_wp2_with (first | (go_at_call 33; (with_reducible refine (mast_has.calls _ _ l0 a1 true _ (cbz HR0) HC0.out A10.out).mono ?_); rintro e w12 ⟨rfl, hb⟩; replace HB := Aside0.mk (below_step bel hb); clear hb)))
       go_ret2
       exact ⟨ezz, bel⟩
      ·
       replace c11 := Bool.eq_false_iff.mpr c11
       subst c11
       rw [if_neg (show ¬ (false = true) by decide)] at H
       replace H := Option.bind_eq_some_iff.mp H
       obtain ⟨t127, A130, H⟩ := H
       try dsimp only at H
       have A13 := Aside0.mk A130
       clear A130
       by_cases c14 : t127 = 0
       ·
        rw [if_pos c14] at H
        have c14b0 : (t127 == 0) = true := beq_iff_eq.mpr c14
        have c14b1 : (t127 != 0) = false := bne_eq_false_iff_eq.mpr c14
        clear c14
        by_cases c15 : 0 < (l0.length : Int)
        ·
         rw [if_pos c15] at H
         have c15b0 : decide (0 < (l0.length : Int)) = true := decide_eq_true c15
         have c15b1 : decide (0 < l0.length) = true := decide_eq_true (by omega)
         clear c15
         simp only [Option.some.injEq, Prod.mk.injEq] at H
         obtain ⟨rfl, rfl⟩ := H
         go_wp2_with (first | (go_at_call 33; (with_reducible refine (mast_has.calls _ _ l0 a1 false _ (cbz HR0) HC0.out A10.out).mono ?_); rintro e w16 ⟨rfl, hb⟩; replace HB := Aside0.mk (below_step bel hb); clear hb) | (go_at_call 34; (with_reducible refine (mast_find.calls _ _ l0 a1 t127 _ (cbz HR0) HC0.out A13.out).mono ?_); rintro e w17 ⟨rfl, hb⟩; replace HB := Aside0.mk (below_step bel hb); clear hb; have p128 : 0 ≤ (0 : Int) := (by omega); have q128 : 0 < (l0.length : Int) := of_decide_eq_true asz; obtain ⟨ad128, e128, hx128_0, hx128_1⟩ := at_T38 HR0.out 0 p128 q128; cases e128; have qi128 : (0 < l0.length) = True := eq_true (by omega); (try rw [show ((0 : Int)).toNat = 0 from rfl] at hx128_0); (try rw [show 0 * 2 = 0 from rfl] at hx128_0); (try rw [Addr.add_zero'] at hx128_0); (try rw [show ((0 : Int)).toNat = 0 from rfl] at hx128_1); (try rw [show 0 * 2 = 0 from rfl] at hx128_1); (try rw [Addr.add_zero'] at hx128_1); replace hx128_0 := (HB.out.cell (World.block_lt_of_cell? w _ hx128_0)).trans hx128_0; replace hx128_1 := (HB.out.cell (World.block_lt_of_cell? w _ hx128_1)).trans hx128_1; replace p128 := eq_true p128; replace q128 := eq_true q128))
         repeat (go_quiet (first | (go_at_call 33; (with_reducible refine (mast_has.calls _ _ l0 a1 false _ (cbz HR0) HC0.out A10.out).mono ?_); rintro e w16 ⟨rfl, hb⟩; replace HB := Aside0.mk (below_step bel hb); clear hb) | (go_at_call 34; (with_reducible refine (mast_find.calls _ _ l0 a1 t127 _ (cbz HR0) HC0.out A13.out).mono ?_); rintro e w17 ⟨rfl, hb⟩; replace HB := Aside0.mk (below_step bel hb); clear hb; have p128 : 0 ≤ (0 : Int) := (by omega); have q128 : 0 < (l0.length : Int) := of_decide_eq_true asz; obtain ⟨ad128, e128, hx128_0, hx128_1⟩ := at_T38 HR0.out 0 p128 q128; cases e128; have qi128 : (0 < l0.length) = True := eq_true (by omega); (try rw [show ((0 : Int)).toNat = 0 from rfl] at hx128_0); (try rw [show 0 * 2 = 0 from rfl] at hx128_0); (try rw [Addr.add_zero'] at hx128_0); (try rw [show ((0 : Int)).toNat = 0 from rfl] at hx128_1); (try rw [show 0 * 2 = 0 from rfl] at hx128_1); (try rw [Addr.add_zero'] at hx128_1); replace hx128_0 := (HB.out.cell (World.block_lt_of_cell? w _ hx128_0)).trans hx128_0; replace hx128_1 := (HB.out.cell (World.block_lt_of_cell? w _ hx128_1)).trans hx128_1; replace p128 := eq_true p128; replace q128 := eq_true q128)); try go_wp2_with (first | (go_at_call 33; (with_reducible refine (mast_has.calls _ _ l0 a1 false _ (cbz HR0) HC0.out A10.out).mono ?_); rintro e w16 ⟨rfl, hb⟩; replace HB := Aside0.mk (below_step bel hb); clear hb) | (go_at_call 34; (with_reducible refine (mast_find.calls _ _ l0 a1 t127 _ (cbz HR0) HC0.out A13.out).mono ?_); rintro e w17 ⟨rfl, hb⟩; replace HB := Aside0.mk (below_step bel hb); clear hb; have p128 : 0 ≤ (0 : Int) := (by omega); have q128 : 0 < (l0.length : Int) := of_decide_eq_true asz; obtain ⟨ad128, e128, hx128_0, hx128_1⟩ := at_T38 HR0.out 0 p128 q128; cases e128; have qi128 : (0 < l0.length) = True := eq_true (by omega); (try rw [show ((0 : Int)).toNat = 0 from rfl] at hx128_0); (try rw [show 0 * 2 = 0 from rfl] at hx128_0); (try rw [Addr.add_zero'] at hx128_0); (try rw [show ((0 : Int)).toNat = 0 from rfl] at hx128_1); (try rw [show 0 * 2 = 0 from rfl] at hx128_1); (try rw [Addr.add_zero'] at hx128_1); replace hx128_0 := (HB.out.cell (World.block_lt_of_cell? w _ hx128_0)).trans hx128_0; replace hx128_1 := (HB.out.cell (World.block_lt_of_cell? w _ hx128_1)).trans hx128_1; replace p128 := eq_true p128; replace q128 := eq_true q128)))
         go_ret2
         exact ⟨ezz, bel⟩
        ·
         rw [if_neg c15] at H
         exact absurd H (by simp)
       ·
        rw [if_neg c14] at H
        have c14b0 : (t127 == 0) = false := beq_eq_false_iff_ne.mpr c14
        have c14b1 : (t127 != 0) = true := bne_iff_ne.mpr c14
        by_cases c18 : t127 = (l0.length : Int)
        ·
         rw [if_pos c18] at H
         have c18b0 : (t127 == (l0.length : Int)) = true := beq_iff_eq.mpr c18
         have c18b1 : (t127 != (l0.length : Int)) = false := bne_eq_false_iff_eq.mpr c18
         clear c18
         obtain ⟨ji19, hji19⟩ : ∃ j_ : Int, (wrap64 (t127 - 1)) = j_ := ⟨_, rfl⟩
         replace H : (if 0 ≤ (ji19) then (if (ji19) < (l0.length : Int) then (some (wrap64 (((rd_T38 l0 (ji19)).f1) - 1), 0)) else (none)) else (none)) = some (r1, r2) := by first | (rw [hji19] at H; exact H) | (simp only [hji19] at H ⊢; exact H)
         (try rw [hji19] at A10)
         (try rw [hji19] at A13)
         have hji19w : (IntKind.i64.wrap (t127 - 1)) = ji19 := (i64_w _).trans hji19
         by_cases c20 : 0 ≤ (ji19)
         ·
          rw [if_pos c20] at H
          have c20b0 : decide (0 ≤ (ji19)) = true := decide_eq_true c20
          clear c20
          by_cases c21 : (ji19) < (l0.length : Int)
          ·
           rw [if_pos c21] at H
           have c21b0 : decide ((ji19) < (l0.length : Int)) = true := decide_eq_true c21
           clear c21
           simp only [Option.some.injEq, Prod.mk.injEq] at H
           obtain ⟨rfl, rfl⟩ := H
           go_wp2_with (first | (go_at_call 33; (with_reducible refine (mast_has.calls _ _ l0 a1 false _ (cbz HR0) HC0.out A10.out).mono ?_); rintro e w22 ⟨rfl, hb⟩; replace HB := Aside0.mk (below_step bel hb); clear hb) | (go_at_call 34; (with_reducible refine (mast_find.calls _ _ l0 a1 t127 _ (cbz HR0) HC0.out A13.out).mono ?_); rintro e w23 ⟨rfl, hb⟩; replace HB := Aside0.mk (below_step bel hb); clear hb; have p129 : 0 ≤ ((ji19) : Int) := of_decide_eq_true asz; have q129 : (ji19) < (l0.length : Int) := of_decide_eq_true asz; obtain ⟨ad129, e129, hx129_0, hx129_1⟩ := at_T38 HR0.out (ji19) p129 q129; cases e129; replace hx129_0 := (HB.out.cell (World.block_lt_of_cell? w _ hx129_0)).trans hx129_0; replace hx129_1 := (HB.out.cell (World.block_lt_of_cell? w _ hx129_1)).trans hx129_1; replace p129 := eq_true p129; replace q129 := eq_true q129))
           repeat (go_quiet (first | (go_at_call 33; (with_reducible refine (mast_has.calls _ _ l0 a1 false _ (cbz HR0) HC0.out A10.out).mono ?_); rintro e w22 ⟨rfl, hb⟩; replace HB := Aside0.mk (below_step bel hb); clear hb) | (go_at_call 34; (with_reducible refine (mast_find.calls _ _ l0 a1 t127 _ (cbz HR0) HC0.out A13.out).mono ?_); rintro e w23 ⟨rfl, hb⟩; replace HB := Aside0.mk (below_step bel hb); clear hb; have p129 : 0 ≤ ((ji19) : Int) := of_decide_eq_true asz; have q129 : (ji19) < (l0.length : Int) := of_decide_eq_true asz; obtain ⟨ad129, e129, hx129_0, hx129_1⟩ := at_T38 HR0.out (ji19) p129 q129; cases e129; replace hx129_0 := (HB.out.cell (World.block_lt_of_cell? w _ hx129_0)).trans hx129_0; replace hx129_1 := (HB.out.cell (World.block_lt_of_cell? w _ hx129_1)).trans hx129_1; replace p129 := eq_true p129; replace q129 := eq_true q129)); try go_wp2_with (first | (go_at_call 33; (with_reducible refine (mast_has.calls _ _ l0 a1 false _ (cbz HR0) HC0.out A10.out).mono ?_); rintro e w22 ⟨rfl, hb⟩; replace HB := Aside0.mk (below_step bel hb); clear hb) | (go_at_call 34; (with_reducible refine (mast_find.calls _ _ l0 a1 t127 _ (cbz HR0) HC0.out A13.out).mono ?_); rintro e w23 ⟨rfl, hb⟩; replace HB := Aside0.mk (below_step bel hb); clear hb; have p129 : 0 ≤ ((ji19) : Int) := of_decide_eq_true asz; have q129 : (ji19) < (l0.length : Int) := of_decide_eq_true asz; obtain ⟨ad129, e129, hx129_0, hx129_1⟩ := at_T38 HR0.out (ji19) p129 q129; cases e129; replace hx129_0 := (HB.out.cell (World.block_lt_of_cell? w _ hx129_0)).trans hx129_0; replace hx129_1 := (HB.out.cell (World.block_lt_of_cell? w _ hx129_1)).trans hx129_1; replace p129 := eq_true p129; replace q129 := eq_true q129)))
           go_ret2
           exact ⟨by first | rfl | (simp [errW_none, errW_some] <;> rfl) | (simp only [← hji19]; first | rfl | (simp [errW_none, errW_some] <;> rfl)) | (simp [*, errW_none, errW_some] <;> rfl), bel⟩
          ·
           rw [if_neg c21] at H
           exact absurd H (by simp)
         ·
          rw [if_neg c20] at H
          exact absurd H (by simp)
        ·
         rw [if_neg c18] at H
         have c18b0 : (t127 == (l0.length : Int)) = false := beq_eq_false_iff_ne.mpr c18
         have c18b1 : (t127 != (l0.length : Int)) = true := bne_iff_ne.mpr c18
         obtain ⟨ji24, hji24⟩ : ∃ j_ : Int, (wrap64 (t127 - 1)) = j_ := ⟨_, rfl⟩
         replace H : (if 0 ≤ (ji24) then (if (ji24) < (l0.length : Int) then (if 0 ≤ t127 then (if t127 < (l0.length : Int) then (if (wrap64 (a1 - (wrap64 (((rd_T38 l0 (ji24)).f1) - 1)))) ≤ (wrap64 (((rd_T38 l0 t127).f0) - a1)) then (some (wrap64 (((rd_T38 l0 (ji24)).f1) - 1), 0)) else (some ((rd_T38 l0 t127).f0, 0))) else (none)) else (none)) else (none)) else (none)) = some (r1, r2) := by first | (rw [hji24] at H; exact H) | (simp only [hji24] at H ⊢; exact H)
         (try rw [hji24] at A10)
         (try rw [hji24] at A13)
         have hji24w : (IntKind.i64.wrap (t127 - 1)) = ji24 := (i64_w _).trans hji24
         by_cases c25 : 0 ≤ (ji24)
         ·
          rw [if_pos c25] at H
          have c25b0 : decide (0 ≤ (ji24)) = true := decide_eq_true c25
          clear c25
          by_cases c26 : (ji24) < (l0.length : Int)
          ·
           rw [if_pos c26] at H
           have c26b0 : decide ((ji24) < (l0.length : Int)) = true := decide_eq_true c26
           clear c26
           by_cases c27 : 0 ≤ t127
           ·
            rw [if_pos c27] at H
            have c27b0 : decide (0 ≤ t127) = true := decide_eq_true c27
            clear c27
            by_cases c28 : t127 < (l0.length : Int)
            ·
             rw [if_pos c28] at H
             have c28b0 : decide (t127 < (l0.length : Int)) = true := decide_eq_true c28
             clear c28
             by_cases c29 : (wrap64 (a1 - (wrap64 (((rd_T38 l0 (ji24)).f1) - 1)))) ≤ (wrap64 (((rd_T38 l0 t127).f0) - a1))
             ·
              rw [if_pos c29] at H
              have c29b0 : decide ((wrap64 (a1 - (wrap64 (((rd_T38 l0 (ji24)).f1) - 1)))) ≤ (wrap64 (((rd_T38 l0 t127).f0) - a1))) = true := decide_eq_true c29
              clear c29
              simp only [Option.some.injEq, Prod.mk.injEq] at H
              obtain ⟨rfl, rfl⟩ := H
              go_wp2_with (first | (go_at_call 33; (with_reducible refine (mast_has.calls _ _ l0 a1 false _ (cbz HR0) HC0.out A10.out).mono ?_); rintro e w30 ⟨rfl, hb⟩; replace HB := Aside0.mk (below_step bel hb); clear hb) | (go_at_call 34; (with_reducible refine (mast_find.calls _ _ l0 a1 t127 _ (cbz HR0) HC0.out A13.out).mono ?_); rintro e w31 ⟨rfl, hb⟩; replace HB := Aside0.mk (below_step bel hb); clear hb; have p130 : 0 ≤ ((ji24) : Int) := of_decide_eq_true asz; have q130 : (ji24) < (l0.length : Int) := of_decide_eq_true asz; obtain ⟨ad130, e130, hx130_0, hx130_1⟩ := at_T38 HR0.out (ji24) p130 q130; cases e130; replace hx130_0 := (HB.out.cell (World.block_lt_of_cell? w _ hx130_0)).trans hx130_0; replace hx130_1 := (HB.out.cell (World.block_lt_of_cell? w _ hx130_1)).trans hx130_1; replace p130 := eq_true p130; replace q130 := eq_true q130; have p131 : 0 ≤ (t127 : Int) := of_decide_eq_true asz; have q131 : t127 < (l0.length : Int) := of_decide_eq_true asz; obtain ⟨ad131, e131, hx131_0, hx131_1⟩ := at_T38 HR0.out t127 p131 q131; obtain rfl : ad130 = ad131 := (by injection e131); replace hx131_0 := (HB.out.cell (World.block_lt_of_cell? w _ hx131_0)).trans hx131_0; replace hx131_1 := (HB.out.cell (World.block_lt_of_cell? w _ hx131_1)).trans hx131_1; replace p131 := eq_true p131; replace q131 := eq_true q131; have p132 : 0 ≤ ((ji24) : Int) := of_decide_eq_true asz; have q132 : (ji24) < (l0.length : Int) := of_decide_eq_true asz; obtain ⟨ad132, e132, hx132_0, hx132_1⟩ := at_T38 HR0.out (ji24) p132 q132; obtain rfl : ad130 = ad132 := (by injection e132); replace hx132_0 := (HB.out.cell (World.block_lt_of_cell? w _ hx132_0)).trans hx132_0; replace hx132_1 := (HB.out.cell (World.block_lt_of_cell? w _ hx132_1)).trans hx132_1; replace p132 := eq_true p132; replace q132 := eq_true q132))
              repeat (go_quiet (first | (go_at_call 33; (with_reducible refine (mast_has.calls _ _ l0 a1 false _ (cbz HR0) HC0.out A10.out).mono ?_); rintro e w30 ⟨rfl, hb⟩; replace HB := Aside0.mk (below_step bel hb); clear hb) | (go_at_call 34; (with_reducible refine (mast_find.calls _ _ l0 a1 t127 _ (cbz HR0) HC0.out A13.out).mono ?_); rintro e w31 ⟨rfl, hb⟩; replace HB := Aside0.mk (below_step bel hb); clear hb; have p130 : 0 ≤ ((ji24) : Int) := of_decide_eq_true asz; have q130 : (ji24) < (l0.length : Int) := of_decide_eq_true asz; obtain ⟨ad130, e130, hx130_0, hx130_1⟩ := at_T38 HR0.out (ji24) p130 q130; cases e130; replace hx130_0 := (HB.out.cell (World.block_lt_of_cell? w _ hx130_0)).trans hx130_0; replace hx130_1 := (HB.out.cell (World.block_lt_of_cell? w _ hx130_1)).trans hx130_1; replace p130 := eq_true p130; replace q130 := eq_true q130; have p131 : 0 ≤ (t127 : Int) := of_decide_eq_true asz; have q131 : t127 < (l0.length : Int) := of_decide_eq_true asz; obtain ⟨ad131, e131, hx131_0, hx131_1⟩ := at_T38 HR0.out t127 p131 q131; obtain rfl : ad130 = ad131 := (by injection e131); replace hx131_0 := (HB.out.cell (World.block_lt_of_cell? w _ hx131_0)).trans hx131_0; replace hx131_1 := (HB.out.cell (World.block_lt_of_cell? w _ hx131_1)).trans hx131_1; replace p131 := eq_true p131; replace q131 := eq_true q131; have p132 : 0 ≤ ((ji24) : Int) := of_decide_eq_true asz; have q132 : (ji24) < (l0.length : Int) := of_decide_eq_true asz; obtain ⟨ad132, e132, hx132_0, hx132_1⟩ := at_T38 HR0.out (ji24) p132 q132; obtain rfl : ad130 = ad132 := (by injection e132); replace hx132_0 := (HB.out.cell (World.block_lt_of_cell? w _ hx132_0)).trans hx132_0; replace hx132_1 := (HB.out.cell (World.block_lt_of_cell? w _ hx132_1)).trans hx132_1; replace p132 := eq_true p132; replace q132 := eq_true q132)); try go_wp2_with (first | (go_at_call 33; (with_reducible refine (mast_has.calls _ _ l0 a1 false _ (cbz HR0) HC0.out A10.out).mono ?_); rintro e w30 ⟨rfl, hb⟩; replace HB := Aside0.mk (below_step bel hb); clear hb) | (go_at_call 34; (with_reducible refine (mast_find.calls _ _ l0 a1 t127 _ (cbz HR0) HC0.out A13.out).mono ?_); rintro e w31 ⟨rfl, hb⟩; replace HB := Aside0.mk (below_step bel hb); clear hb; have p130 : 0 ≤ ((ji24) : Int) := of_decide_eq_true asz; have q130 : (ji24) < (l0.length : Int) := of_decide_eq_true asz; obtain ⟨ad130, e130, hx130_0, hx130_1⟩ := at_T38 HR0.out (ji24) p130 q130; cases e130; replace hx130_0 := (HB.out.cell (World.block_lt_of_cell? w _ hx130_0)).trans hx130_0; replace hx130_1 := (HB.out.cell (World.block_lt_of_cell? w _ hx130_1)).trans hx130_1; replace p130 := eq_true p130; replace q130 := eq_true q130; have p131 : 0 ≤ (t127 : Int) := of_decide_eq_true asz; have q131 : t127 < (l0.length : Int) := of_decide_eq_true asz; obtain ⟨ad131, e131, hx131_0, hx131_1⟩ := at_T38 HR0.out t127 p131 q131; obtain rfl : ad130 = ad131 := (by injection e131); replace hx131_0 := (HB.out.cell (World.block_lt_of_cell? w _ hx131_0)).trans hx131_0; replace hx131_1 := (HB.out.cell (World.block_lt_of_cell? w _ hx131_1)).trans hx131_1; replace p131 := eq_true p131; replace q131 := eq_true q131; have p132 : 0 ≤ ((ji24) : Int) := of_decide_eq_true asz; have q132 : (ji24) < (l0.length : Int) := of_decide_eq_true asz; obtain ⟨ad132, e132, hx132_0, hx132_1⟩ := at_T38 HR0.out (ji24) p132 q132; obtain rfl : ad130 = ad132 := (by injection e132); replace hx132_0 := (HB.out.cell (World.block_lt_of_cell? w _ hx132_0)).trans hx132_0; replace hx132_1 := (HB.out.cell (World.block_lt_of_cell? w _ hx132_1)).trans hx132_1; replace p132 := eq_true p132; replace q132 := eq_true q132)))
              go_ret2
              exact ⟨by first | rfl | (simp [errW_none, errW_some] <;> rfl) | (simp only [← hji24]; first | rfl | (simp [errW_none, errW_some] <;> rfl)) | (simp [*, errW_none, errW_some] <;> rfl), bel⟩
             ·
              rw [if_neg c29] at H
              have c29b0 : decide ((wrap64 (a1 - (wrap64 (((rd_T38 l0 (ji24)).f1) - 1)))) ≤ (wrap64 (((rd_T38 l0 t127).f0) - a1))) = false := decide_eq_false c29
              clear c29
              simp only [Option.some.injEq, Prod.mk.injEq] at H
              obtain ⟨rfl, rfl⟩ := H
              go_wp2_with (first | (go_at_call 33; (with_reducible refine (mast_has.calls _ _ l0 a1 false _ (cbz HR0) HC0.out A10.out).mono ?_); rintro e w32 ⟨rfl, hb⟩; replace HB := Aside0.mk (below_step bel hb); clear hb) | (go_at_call 34; (with_reducible refine (mast_find.calls _ _ l0 a1 t127 _ (cbz HR0) HC0.out A13.out).mono ?_); rintro e w33 ⟨rfl, hb⟩; replace HB := Aside0.mk (below_step bel hb); clear hb; have p130 : 0 ≤ ((ji24) : Int) := of_decide_eq_true asz; have q130 : (ji24) < (l0.length : Int) := of_decide_eq_true asz; obtain ⟨ad130, e130, hx130_0, hx130_1⟩ := at_T38 HR0.out (ji24) p130 q130; cases e130; replace hx130_0 := (HB.out.cell (World.block_lt_of_cell? w _ hx130_0)).trans hx130_0; replace hx130_1 := (HB.out.cell (World.block_lt_of_cell? w _ hx130_1)).trans hx130_1; replace p130 := eq_true p130; replace q130 := eq_true q130; have p131 : 0 ≤ (t127 : Int) := of_decide_eq_true asz; have q131 : t127 < (l0.length : Int) := of_decide_eq_true asz; obtain ⟨ad131, e131, hx131_0, hx131_1⟩ := at_T38 HR0.out t127 p131 q131; obtain rfl : ad130 = ad131 := (by injection e131); replace hx131_0 := (HB.out.cell (World.block_lt_of_cell? w _ hx131_0)).trans hx131_0; replace hx131_1 := (HB.out.cell (World.block_lt_of_cell? w _ hx131_1)).trans hx131_1; replace p131 := eq_true p131; replace q131 := eq_true q131; have p133 : 0 ≤ (t127 : Int) := of_decide_eq_true asz; have q133 : t127 < (l0.length : Int) := of_decide_eq_true asz; obtain ⟨ad133, e133, hx133_0, hx133_1⟩ := at_T38 HR0.out t127 p133 q133; obtain rfl : ad130 = ad133 := (by injection e133); replace hx133_0 := (HB.out.cell (World.block_lt_of_cell? w _ hx133_0)).trans hx133_0; replace hx133_1 := (HB.out.cell (World.block_lt_of_cell? w _ hx133_1)).trans hx133_1; replace p133 := eq_true p133; replace q133 := eq_true q133))
              repeat (go_quiet (first | (go_at_call 33; (with_reducible refine (mast_has.calls _ _ l0 a1 false _ (cbz HR0) HC0.out A10.out).mono ?_); rintro e w32 ⟨rfl, hb⟩; replace HB := Aside0.mk (below_step bel hb); clear hb) | (go_at_call 34; (with_reducible refine (mast_find.calls _ _ l0 a1 t127 _ (cbz HR0) HC0.out A13.out).mono ?_); rintro e w33 ⟨rfl, hb⟩; replace HB := Aside0.mk (below_step bel hb); clear hb; have p130 : 0 ≤ ((ji24) : Int) := of_decide_eq_true asz; have q130 : (ji24) < (l0.length : Int) := of_decide_eq_true asz; obtain ⟨ad130, e130, hx130_0, hx130_1⟩ := at_T38 HR0.out (ji24) p130 q130; cases e130; replace hx130_0 := (HB.out.cell (World.block_lt_of_cell? w _ hx130_0)).trans hx130_0; replace hx130_1 := (HB.out.cell (World.block_lt_of_cell? w _ hx130_1)).trans hx130_1; replace p130 := eq_true p130; replace q130 := eq_true q130; have p131 : 0 ≤ (t127 : Int) := of_decide_eq_true asz; have q131 : t127 < (l0.length : Int) := of_decide_eq_true asz; obtain ⟨ad131, e131, hx131_0, hx131_1⟩ := at_T38 HR0.out t127 p131 q131; obtain rfl : ad130 = ad131 := (by injection e131); replace hx131_0 := (HB.out.cell (World.block_lt_of_cell? w _ hx131_0)).trans hx131_0; replace hx131_1 := (HB.out.cell (World.block_lt_of_cell? w _ hx131_1)).trans hx131_1; replace p131 := eq_true p131; replace q131 := eq_true q131; have p133 : 0 ≤ (t127 : Int) := of_decide_eq_true asz; have q133 : t127 < (l0.length : Int) := of_decide_eq_true asz; obtain ⟨ad133, e133, hx133_0, hx133_1⟩ := at_T38 HR0.out t127 p133 q133; obtain rfl : ad130 = ad133 := (by injection e133); replace hx133_0 := (HB.out.cell (World.block_lt_of_cell? w _ hx133_0)).trans hx133_0; replace hx133_1 := (HB.out.cell (World.block_lt_of_cell? w _ hx133_1)).trans hx133_1; replace p133 := eq_true p133; replace q133 := eq_true q133)); try go_wp2_with (first | (go_at_call 33; (with_reducible refine (mast_has.calls _ _ l0 a1 false _ (cbz HR0) HC0.out A10.out).mono ?_); rintro e w32 ⟨rfl, hb⟩; replace HB := Aside0.mk (below_step bel hb); clear hb) | (go_at_call 34; (with_reducible refine (mast_find.calls _ _ l0 a1 t127 _ (cbz HR0) HC0.out A13.out).mono ?_); rintro e w33 ⟨rfl, hb⟩; replace HB := Aside0.mk (below_step bel hb); clear hb; have p130 : 0 ≤ ((ji24) : Int) := of_decide_eq_true asz; have q130 : (ji24) < (l0.length : Int) := of_decide_eq_true asz; obtain ⟨ad130, e130, hx130_0, hx130_1⟩ := at_T38 HR0.out (ji24) p130 q130; cases e130; replace hx130_0 := (HB.out.cell (World.block_lt_of_cell? w _ hx130_0)).trans hx130_0; replace hx130_1 := (HB.out.cell (World.block_lt_of_cell? w _ hx130_1)).trans hx130_1; replace p130 := eq_true p130; replace q130 := eq_true q130; have p131 : 0 ≤ (t127 : Int) := of_decide_eq_true asz; have q131 : t127 < (l0.length : Int) := of_decide_eq_true asz; obtain ⟨ad131, e131, hx131_0, hx131_1⟩ := at_T38 HR0.out t127 p131 q131; obtain rfl : ad130 = ad131 := (by injection e131); replace hx131_0 := (HB.out.cell (World.block_lt_of_cell? w _ hx131_0)).trans hx131_0; replace hx131_1 := (HB.out.cell (World.block_lt_of_cell? w _ hx131_1)).trans hx131_1; replace p131 := eq_true p131; replace q131 := eq_true q131; have p133 : 0 ≤ (t127 : Int) := of_decide_eq_true asz; have q133 : t127 < (l0.length : Int) := of_decide_eq_true asz; obtain ⟨ad133, e133, hx133_0, hx133_1⟩ := at_T38 HR0.out t127 p133 q133; obtain rfl : ad130 = ad133 := (by injection e133); replace hx133_0 := (HB.out.cell (World.block_lt_of_cell? w _ hx133_0)).trans hx133_0; replace hx133_1 := (HB.out.cell (World.block_lt_of_cell? w _ hx133_1)).trans hx133_1; replace p133 := eq_true p133; replace q133 := eq_true q133)))
              go_ret2
              exact ⟨by first | rfl | (simp [errW_none, errW_some] <;> rfl) | (simp only [← hji24]; first | rfl | (simp [errW_none, errW_some] <;> rfl)) | (simp [*, errW_none, errW_some] <;> rfl), bel⟩
            ·
             rw [if_neg c28] at H
             exact absurd H (by simp)
           ·
            rw [if_neg c27] at H
            exact absurd H (by simp)
          ·
           rw [if_neg c26] at H
           exact absurd H (by simp)
         ·
          rw [if_neg c25] at H
          exact absurd H (by simp)
 ·
  replace c4 := Bool.eq_false_iff.mpr c4
  subst c4
  rw [if_neg (show ¬ (false = true) by decide)] at H
  simp only [Option.some.injEq, Prod.mk.injEq] at H
  obtain ⟨rfl, rfl⟩ := H
  go_enter Tryz.func20, Tryz.ntmps20
  go_wp2_with (first | (go_at_call 14; (with_reducible refine (mast_Valid.calls k _ _ l0 false _ ?side1 HC0.out A3.out).mono ?_); (case side1 => repeat (first | exact HR0.out | (with_reducible refine Kd.C_alloc ?_ _) | (with_reducible refine Kd.C_drewN ?_ _) | (with_reducible refine Kd.C_drew ?_))); rintro e w34 ⟨rfl, hb⟩; replace HB := Aside0.mk (below_step bel hb); clear hb))
  repeat (go_quiet (first | (go_at_call 14; (with_reducible refine (mast_Valid.calls k _ _ l0 false _ ?side1 HC0.out A3.out).mono ?_); (case side1 => repeat (first | exact HR0.out | (with_reducible refine Kd.C_alloc ?_ _) | (with_reducible refine Kd.C_drewN ?_ _) | (with_reducible refine Kd.C_drew ?_))); rintro e w34 ⟨rfl, hb⟩; replace HB := Aside0.mk (below_step bel hb); clear hb)); try go_wp2_with (first | (go_at_call 14; (with_reducible refine (mast_Valid.calls k _ _ l0 false _ ?side1 HC0.out A3.out).mono ?_); (case side1 => repeat (first | exact HR0.out | (with_reducible refine Kd.C_alloc ?_ _) | (with_reducible refine Kd.C_drewN ?_ _) | (with_reducible refine Kd.C_drew ?_))); rintro e w34 ⟨rfl, hb⟩; replace HB := Aside0.mk (below_step bel hb); clear hb)))
  go_ret2
  exact ⟨ezz, bel⟩

/-! ### dropperlaw01_First: function 6 -/
def dropperlaw01_First.f (k : Nat)  : Option (Bool) := (mast_FormatAt.f 12345).bind fun bt134 => ((mast_Clean.f (([(⟨5, 9⟩ : S38), (⟨0, 5⟩ : S38), (⟨20, 30⟩ : S38)] : List (S38)))).bind fun bt139 => ((mast_Format.f k bt139.1).bind fun bt143 => ((mast_Near.f k bt139.1 15).bind fun bt145 => (if bt134.2 = 0 then (if bt139.2 = 0 then (if bt143.2 = 0 then (if bt145.2 = 0 then (if bt134.1.toList = ([49, 50, 43, 51, 52, 53] : List UInt8) then (if bt143.1.toList = ([48, 43, 48, 48, 48, 45, 48, 43, 48, 48, 57, 32, 48, 43, 48, 50, 48, 45, 48, 43, 48, 51, 48] : List UInt8) then (some (bt145.1 == 20)) else (some false)) else (some false)) else (some false)) else (some false)) else (some false)) else (some false)))))
theorem dropperlaw01_First.mono : ∀ k, LeO (dropperlaw01_First.f k ) (dropperlaw01_First.f (k + 1) ) := by
 intro  k
 unfold dropperlaw01_First.f
 repeat' first
   | (with_reducible exact mast_Format.mono _ _)
   | (with_reducible exact mast_Near.mono _ _ _)
   | (with_reducible exact LeO.refl _)
   | (with_reducible exact LeO.none _)
   | (with_reducible refine LeO.ite ?_ ?_)
   | (with_reducible refine LeO.bind ?_ (fun _ => ?_))
   | exact mast_Format.mono _ _
   | exact mast_Near.mono _ _ _
   | exact LeO.none _
   | refine LeO.ite ?_ ?_
   | refine LeO.bind ?_ (fun _ => ?_)
set_option maxHeartbeats 8000000 in
set_option maxRecDepth 100000 in
theorem dropperlaw01_First.calls (k : Nat)  (r : Bool) (w : World) (hT : Tab.Tabs w) (h : dropperlaw01_First.f k  = some r) :
  Calls Tryz.prog 6 #[] w fun e w' => e = .returned (.bool r) ∧ Below w.heap.size w w' := by
 have HT := Aside0.mk hT
 clear hT
 have hu38 := Tryz.underlying38
 have HB := Aside0.mk (Below.refl w.heap.size w)
 have H : ((mast_FormatAt.f 12345).bind fun bt134 => ((mast_Clean.f (([(⟨5, 9⟩ : S38), (⟨0, 5⟩ : S38), (⟨20, 30⟩ : S38)] : List (S38)))).bind fun bt139 => ((mast_Format.f k bt139.1).bind fun bt143 => ((mast_Near.f k bt139.1 15).bind fun bt145 => (if bt134.2 = 0 then (if bt139.2 = 0 then (if bt143.2 = 0 then (if bt145.2 = 0 then (if bt134.1.toList = ([49, 50, 43, 51, 52, 53] : List UInt8) then (if bt143.1.toList = ([48, 43, 48, 48, 48, 45, 48, 43, 48, 48, 57, 32, 48, 43, 48, 50, 48, 45, 48, 43, 48, 51, 48] : List UInt8) then (some (bt145.1 == 20)) else (some false)) else (some false)) else (some false)) else (some false)) else (some false)) else (some false)))))) = some r := h
 clear h
 replace H := Option.bind_eq_some_iff.mp H
 obtain ⟨⟨t134, t135⟩, A10, H⟩ := H
 try dsimp only at H
 have A1 := Aside0.mk A10
 clear A10
 obtain ⟨y136, hy136⟩ : ∃ y_ : List (S38), y_ = (([(⟨5, 9⟩ : S38), (⟨0, 5⟩ : S38), (⟨20, 30⟩ : S38)] : List (S38))) := ⟨_, rfl⟩
 replace H : ((mast_Clean.f y136).bind fun bt139 => ((mast_Format.f k bt139.1).bind fun bt143 => ((mast_Near.f k bt139.1 15).bind fun bt145 => (if t135 = 0 then (if bt139.2 = 0 then (if bt143.2 = 0 then (if bt145.2 = 0 then (if t134.toList = ([49, 50, 43, 51, 52, 53] : List UInt8) then (if bt143.1.toList = ([48, 43, 48, 48, 48, 45, 48, 43, 48, 48, 57, 32, 48, 43, 48, 50, 48, 45, 48, 43, 48, 51, 48] : List UInt8) then (some (bt145.1 == 20)) else (some false)) else (some false)) else (some false)) else (some false)) else (some false)) else (some false))))) = some r := by first | (rw [hy136]; with_reducible exact H) | (have H2_ := (Option.bind_some _ _).symm.trans H; rw [hy136]; with_reducible exact H2_) | (have H2_ := (Option.bind_some _ _).symm.trans H; with_reducible exact H2_) | with_reducible exact H | (rw [hy136]; exact H) | exact H
 have Ny136 := Aside0.mk hy136
 clear hy136
 replace H := Option.bind_eq_some_iff.mp H
 obtain ⟨⟨t139, t140⟩, A20, H⟩ := H
 try dsimp only at H
 have A2 := Aside0.mk A20
 clear A20
 replace H := Option.bind_eq_some_iff.mp H
 obtain ⟨⟨t143, t144⟩, A30, H⟩ := H
 try dsimp only at H
 have A3 := Aside0.mk A30
 clear A30
 replace H := Option.bind_eq_some_iff.mp H
 obtain ⟨⟨t145, t146⟩, A40, H⟩ := H
 try dsimp only at H
 have A4 := Aside0.mk A40
 clear A40
 by_cases c5 : t135 = 0
 ·
  rw [if_pos c5] at H
  have c5b0 : (t135 == 0) = true := beq_iff_eq.mpr c5
  have c5b1 : (t135 != 0) = false := bne_eq_false_iff_eq.mpr c5
  clear c5
  by_cases c6 : t140 = 0
  ·
   rw [if_pos c6] at H
   have c6b0 : (t140 == 0) = true := beq_iff_eq.mpr c6
   have c6b1 : (t140 != 0) = false := bne_eq_false_iff_eq.mpr c6
   clear c6
   by_cases c7 : t144 = 0
   ·
    rw [if_pos c7] at H
    have c7b0 : (t144 == 0) = true := beq_iff_eq.mpr c7
    have c7b1 : (t144 != 0) = false := bne_eq_false_iff_eq.mpr c7
    clear c7
    by_cases c8 : t146 = 0
    ·
     rw [if_pos c8] at H
     have c8b0 : (t146 == 0) = true := beq_iff_eq.mpr c8
     have c8b1 : (t146 != 0) = false := bne_eq_false_iff_eq.mpr c8
     clear c8
     by_cases c9 : t134.toList = ([49, 50, 43, 51, 52, 53] : List UInt8)
     ·
      rw [if_pos c9] at H
      have c9b0 : (t134.toList == ([49, 50, 43, 51, 52, 53] : List UInt8)) = true := beq_iff_eq.mpr c9
      have c9b1 : (t134.toList != ([49, 50, 43, 51, 52, 53] : List UInt8)) = false := bne_eq_false_iff_eq.mpr c9
      clear c9
      by_cases c10 : t143.toList = ([48, 43, 48, 48, 48, 45, 48, 43, 48, 48, 57, 32, 48, 43, 48, 50, 48, 45, 48, 43, 48, 51, 48] : List UInt8)
      ·
       rw [if_pos c10] at H
       have c10b0 : (t143.toList == ([48, 43, 48, 48, 48, 45, 48, 43, 48, 48, 57, 32, 48, 43, 48, 50, 48, 45, 48, 43, 48, 51, 48] : List UInt8)) = true := beq_iff_eq.mpr c10
       have c10b1 : (t143.toList != ([48, 43, 48, 48, 48, 45, 48, 43, 48, 48, 57, 32, 48, 43, 48, 50, 48, 45, 48, 43, 48, 51, 48] : List UInt8)) = false := bne_eq_false_iff_eq.mpr c10
       clear c10
       obtain rfl := Option.some.inj H
       go_enter Tryz.func6, Tryz.ntmps6
       go_wp2_with (first | ((with_reducible refine gate_callee (f := 7) rfl ?_); refine goesL_ (some 10) rfl rfl Tryz.func7 (by kernel_rfl) rfl #[.int .i64 12345] rfl mapz ?_; (with_reducible refine (mast_FormatAt.calls 12345 t134 t135 _ (tbz HT) A1.out).mono ?_); rintro e w11 ⟨rfl, hb⟩; refine ⟨_, rfl, ?_⟩; replace HB := Aside0.mk (below_step bel hb); clear hb) | ((with_reducible refine gate_dst (N := 17) rfl ?_); refine Kd.R_lit k38 _ 38 ?hg (N := 17) ?hd (xs := ([(⟨5, 9⟩ : S38), (⟨0, 5⟩ : S38), (⟨20, 30⟩ : S38)] : List (S38))) (inner := [.int .i64 5, .int .i64 9, .int .i64 0, .int .i64 5, .int .i64 20, .int .i64 30]) (ok := fun _ => True) (okp := fun _ => True) ?hr ?hp (fun _ hk => hk) trivial (Below.refl _ _) (Nat.le_refl _) (by simp) ?_; (case hd => rfl); (case hg => rfl); (case hr => first | (go_simp; done) | (go_simp; rfl)); (case hp => exact (Reps.c2 (show Kd.M k38 _ _ _ (⟨5, 9⟩ : S38) [.int .i64 5, .int .i64 9] from (k38_mkM _ _ _ (⟨5, 9⟩ : S38) )) (Reps.c2 (show Kd.M k38 _ _ _ (⟨0, 5⟩ : S38) [.int .i64 0, .int .i64 5] from (k38_mkM _ _ _ (⟨0, 5⟩ : S38) )) (Reps.c2 (show Kd.M k38 _ _ _ (⟨20, 30⟩ : S38) [.int .i64 20, .int .i64 30] from (k38_mkM _ _ _ (⟨20, 30⟩ : S38) )) (Reps.none _ _))))); intro v137 w12 ho13 hb hg_ hnew_; clear hg_ hnew_; (first | rw [← Ny136.out] at ho13 | (simp only [Int.reduceToNat] at ho13; rw [← Ny136.out] at ho13)); have HO138 := Aside0.mk (Kd.R_lower ho13 (below_size bel)); replace HB := Aside0.mk (below_step bel hb); clear hb ho13; obtain ⟨Ao14, co14, eo14⟩ := Kd.R_slice HO138.out; subst eo14) | ((with_reducible refine gate_callee (f := 19) rfl ?_); refine goesL_ (some 18) rfl rfl Tryz.func19 (by kernel_rfl) rfl #[.slice Ao14 y136.length co14] rfl mapz ?_; (with_reducible refine (mast_Clean.calls _ _ y136 t139 t140 _ ?side1 ?side2 A2.out).mono ?_); (case side1 => repeat (first | exact (Kd.R_reads' HO138.out).2.2 | (with_reducible refine Kd.C_alloc ?_ _) | (with_reducible refine Kd.C_drewN ?_ _) | (with_reducible refine Kd.C_drew ?_))); (case side2 => exact (Kd.R_reads' HO138.out).2.1); rintro e w15 ⟨v141, rfl, ho0, hb⟩; refine ⟨_, rfl, ?_⟩; have HO142 := Aside0.mk (Kd.R_lower (Kd.R_new' ho0 (Kd.R_lt (ownx HO138))) (below_size bel)); replace HO138 := Aside0.mk (Kd.R_elder' (ownx HO138) (Kd.R_base ho0) hb); replace HB := Aside0.mk (below_step bel hb); (try clear hb); (try clear hb2); (try clear hk); (try clear hi); (try clear ho0); obtain ⟨Ao16, co16, eo16⟩ := Kd.R_slice HO142.out; subst eo16) | ((with_reducible refine gate_callee (f := 12) rfl ?_); refine goesL_ (some 23) rfl rfl Tryz.func12 (by kernel_rfl) rfl #[.slice Ao16 t139.length co16] rfl mapz ?_; (with_reducible refine (mast_Format.calls k _ _ t139 t143 t144 _ ?side1 ?side2 (tbz HT) A3.out).mono ?_); (case side1 => repeat (first | exact (Kd.R_reads' HO142.out).2.2 | (with_reducible refine Kd.C_alloc ?_ _) | (with_reducible refine Kd.C_drewN ?_ _) | (with_reducible refine Kd.C_drew ?_))); (case side2 => exact (Kd.R_reads' HO142.out).2.1); rintro e w17 ⟨rfl, hb⟩; refine ⟨_, rfl, ?_⟩; replace HO138 := Aside0.mk (Kd.R_below (ownx HO138) hb); replace HO142 := Aside0.mk (Kd.R_below (ownx HO142) hb); replace HB := Aside0.mk (below_step bel hb); clear hb) | ((with_reducible refine gate_callee (f := 20) rfl ?_); refine goesL_ (some 28) rfl rfl Tryz.func20 (by kernel_rfl) rfl #[.slice Ao16 t139.length co16, .int .i64 15] rfl mapz ?_; (with_reducible refine (mast_Near.calls k _ _ t139 15 t145 t146 _ ?side1 ?side2 A4.out).mono ?_); (case side1 => repeat (first | exact (Kd.R_reads' HO142.out).2.2 | (with_reducible refine Kd.C_alloc ?_ _) | (with_reducible refine Kd.C_drewN ?_ _) | (with_reducible refine Kd.C_drew ?_))); (case side2 => exact (Kd.R_reads' HO142.out).2.1); rintro e w18 ⟨rfl, hb⟩; refine ⟨_, rfl, ?_⟩; replace HO138 := Aside0.mk (Kd.R_below (ownx HO138) hb); replace HO142 := Aside0.mk (Kd.R_below (ownx HO142) hb); replace HB := Aside0.mk (below_step bel hb); clear hb))
       go_ret
       exact ⟨ezz, bel⟩
      ·
       rw [if_neg c10] at H
       have c10b0 : (t143.toList == ([48, 43, 48, 48, 48, 45, 48, 43, 48, 48, 57, 32, 48, 43, 48, 50, 48, 45, 48, 43, 48, 51, 48] : List UInt8)) = false := beq_eq_false_iff_ne.mpr c10
       have c10b1 : (t143.toList != ([48, 43, 48, 48, 48, 45, 48, 43, 48, 48, 57, 32, 48, 43, 48, 50, 48, 45, 48, 43, 48, 51, 48] : List UInt8)) = true := bne_iff_ne.mpr c10
       obtain rfl := Option.some.inj H
       go_enter Tryz.func6, Tryz.ntmps6
       go_wp2_with (first | ((with_reducible refine gate_callee (f := 7) rfl ?_); refine goesL_ (some 10) rfl rfl Tryz.func7 (by kernel_rfl) rfl #[.int .i64 12345] rfl mapz ?_; (with_reducible refine (mast_FormatAt.calls 12345 t134 t135 _ (tbz HT) A1.out).mono ?_); rintro e w19 ⟨rfl, hb⟩; refine ⟨_, rfl, ?_⟩; replace HB := Aside0.mk (below_step bel hb); clear hb) | ((with_reducible refine gate_dst (N := 17) rfl ?_); refine Kd.R_lit k38 _ 38 ?hg (N := 17) ?hd (xs := ([(⟨5, 9⟩ : S38), (⟨0, 5⟩ : S38), (⟨20, 30⟩ : S38)] : List (S38))) (inner := [.int .i64 5, .int .i64 9, .int .i64 0, .int .i64 5, .int .i64 20, .int .i64 30]) (ok := fun _ => True) (okp := fun _ => True) ?hr ?hp (fun _ hk => hk) trivial (Below.refl _ _) (Nat.le_refl _) (by simp) ?_; (case hd => rfl); (case hg => rfl); (case hr => first | (go_simp; done) | (go_simp; rfl)); (case hp => exact (Reps.c2 (show Kd.M k38 _ _ _ (⟨5, 9⟩ : S38) [.int .i64 5, .int .i64 9] from (k38_mkM _ _ _ (⟨5, 9⟩ : S38) )) (Reps.c2 (show Kd.M k38 _ _ _ (⟨0, 5⟩ : S38) [.int .i64 0, .int .i64 5] from (k38_mkM _ _ _ (⟨0, 5⟩ : S38) )) (Reps.c2 (show Kd.M k38 _ _ _ (⟨20, 30⟩ : S38) [.int .i64 20, .int .i64 30] from (k38_mkM _ _ _ (⟨20, 30⟩ : S38) )) (Reps.none _ _))))); intro v137 w20 ho21 hb hg_ hnew_; clear hg_ hnew_; (first | rw [← Ny136.out] at ho21 | (simp only [Int.reduceToNat] at ho21; rw [← Ny136.out] at ho21)); have HO138 := Aside0.mk (Kd.R_lower ho21 (below_size bel)); replace HB := Aside0.mk (below_step bel hb); clear hb ho21; obtain ⟨Ao22, co22, eo22⟩ := Kd.R_slice HO138.out; subst eo22) | ((with_reducible refine gate_callee (f := 19) rfl ?_); refine goesL_ (some 18) rfl rfl Tryz.func19 (by kernel_rfl) rfl #[.slice Ao22 y136.length co22] rfl mapz ?_; (with_reducible refine (mast_Clean.calls _ _ y136 t139 t140 _ ?side1 ?side2 A2.out).mono ?_); (case side1 => repeat (first | exact (Kd.R_reads' HO138.out).2.2 | (with_reducible refine Kd.C_alloc ?_ _) | (with_reducible refine Kd.C_drewN ?_ _) | (with_reducible refine Kd.C_drew ?_))); (case side2 => exact (Kd.R_reads' HO138.out).2.1); rintro e w23 ⟨v141, rfl, ho0, hb⟩; refine ⟨_, rfl, ?_⟩; have HO142 := Aside0.mk (Kd.R_lower (Kd.R_new' ho0 (Kd.R_lt (ownx HO138))) (below_size bel)); replace HO138 := Aside0.mk (Kd.R_elder' (ownx HO138) (Kd.R_base ho0) hb); replace HB := Aside0.mk (below_step bel hb); (try clear hb); (try clear hb2); (try clear hk); (try clear hi); (try clear ho0); obtain ⟨Ao24, co24, eo24⟩ := Kd.R_slice HO142.out; subst eo24) | ((with_reducible refine gate_callee (f := 12) rfl ?_); refine goesL_ (some 23) rfl rfl Tryz.func12 (by kernel_rfl) rfl #[.slice Ao24 t139.length co24] rfl mapz ?_; (with_reducible refine (mast_Format.calls k _ _ t139 t143 t144 _ ?side1 ?side2 (tbz HT) A3.out).mono ?_); (case side1 => repeat (first | exact (Kd.R_reads' HO142.out).2.2 | (with_reducible refine Kd.C_alloc ?_ _) | (with_reducible refine Kd.C_drewN ?_ _) | (with_reducible refine Kd.C_drew ?_))); (case side2 => exact (Kd.R_reads' HO142.out).2.1); rintro e w25 ⟨rfl, hb⟩; refine ⟨_, rfl, ?_⟩; replace HO138 := Aside0.mk (Kd.R_below (ownx HO138) hb); replace HO142 := Aside0.mk (Kd.R_below (ownx HO142) hb); replace HB := Aside0.mk (below_step bel hb); clear hb) | ((with_reducible refine gate_callee (f := 20) rfl ?_); refine goesL_ (some 28) rfl rfl Tryz.func20 (by kernel_rfl) rfl #[.slice Ao24 t139.length co24, .int .i64 15] rfl mapz ?_; (with_reducible refine (mast_Near.calls k _ _ t139 15 t145 t146 _ ?side1 ?side2 A4.out).mono ?_); (case side1 => repeat (first | exact (Kd.R_reads' HO142.out).2.2 | (with_reducible refine Kd.C_alloc ?_ _) | (with_reducible refine Kd.C_drewN ?_ _) | (with_reducible refine Kd.C_drew ?_))); (case side2 => exact (Kd.R_reads' HO142.out).2.1); rintro e w26 ⟨rfl, hb⟩; refine ⟨_, rfl, ?_⟩; replace HO138 := Aside0.mk (Kd.R_below (ownx HO138) hb); replace HO142 := Aside0.mk (Kd.R_below (ownx HO142) hb); replace HB := Aside0.mk (below_step bel hb); clear hb))
       go_ret
       exact ⟨ezz, bel⟩
     ·
      rw [if_neg c9] at H
      have c9b0 : (t134.toList == ([49, 50, 43, 51, 52, 53] : List UInt8)) = false := beq_eq_false_iff_ne.mpr c9
      have c9b1 : (t134.toList != ([49, 50, 43, 51, 52, 53] : List UInt8)) = true := bne_iff_ne.mpr c9
      obtain rfl := Option.some.inj H
      go_enter Tryz.func6, Tryz.ntmps6
      go_wp2_with (first | ((with_reducible refine gate_callee (f := 7) rfl ?_); refine goesL_ (some 10) rfl rfl Tryz.func7 (by kernel_rfl) rfl #[.int .i64 12345] rfl mapz ?_; (with_reducible refine (mast_FormatAt.calls 12345 t134 t135 _ (tbz HT) A1.out).mono ?_); rintro e w27 ⟨rfl, hb⟩; refine ⟨_, rfl, ?_⟩; replace HB := Aside0.mk (below_step bel hb); clear hb) | ((with_reducible refine gate_dst (N := 17) rfl ?_); refine Kd.R_lit k38 _ 38 ?hg (N := 17) ?hd (xs := ([(⟨5, 9⟩ : S38), (⟨0, 5⟩ : S38), (⟨20, 30⟩ : S38)] : List (S38))) (inner := [.int .i64 5, .int .i64 9, .int .i64 0, .int .i64 5, .int .i64 20, .int .i64 30]) (ok := fun _ => True) (okp := fun _ => True) ?hr ?hp (fun _ hk => hk) trivial (Below.refl _ _) (Nat.le_refl _) (by simp) ?_; (case hd => rfl); (case hg => rfl); (case hr => first | (go_simp; done) | (go_simp; rfl)); (case hp => exact (Reps.c2 (show Kd.M k38 _ _ _ (⟨5, 9⟩ : S38) [.int .i64 5, .int .i64 9] from (k38_mkM _ _ _ (⟨5, 9⟩ : S38) )) (Reps.c2 (show Kd.M k38 _ _ _ (⟨0, 5⟩ : S38) [.int .i64 0, .int .i64 5] from (k38_mkM _ _ _ (⟨0, 5⟩ : S38) )) (Reps.c2 (show Kd.M k38 _ _ _ (⟨20, 30⟩ : S38) [.int .i64 20, .int .i64 30] from (k38_mkM _ _ _ (⟨20, 30⟩ : S38) )) (Reps.none _ _))))); intro v137 w28 ho29 hb hg_ hnew_; clear hg_ hnew_; (first | rw [← Ny136.out] at ho29 | (simp only [Int.reduceToNat] at ho29; rw [← Ny136.out] at ho29)); have HO138 := Aside0.mk (Kd.R_lower ho29 (below_size bel)); replace HB := Aside0.mk (below_step bel hb); clear hb ho29; obtain ⟨Ao30, co30, eo30⟩ := Kd.R_slice HO138.out; subst eo30) | ((with_reducible refine gate_callee (f := 19) rfl ?_); refine goesL_ (some 18) rfl rfl Tryz.func19 (by kernel_rfl) rfl #[.slice Ao30 y136.length co30] rfl mapz ?_; (with_reducible refine (mast_Clean.calls _ _ y136 t139 t140 _ ?side1 ?side2 A2.out).mono ?_); (case side1 => repeat (first | exact (Kd.R_reads' HO138.out).2.2 | (with_reducible refine Kd.C_alloc ?_ _) | (with_reducible refine Kd.C_drewN ?_ _) | (with_reducible refine Kd.C_drew ?_))); (case side2 => exact (Kd.R_reads' HO138.out).2.1); rintro e w31 ⟨v141, rfl, ho0, hb⟩; refine ⟨_, rfl, ?_⟩; have HO142 := Aside0.mk (Kd.R_lower (Kd.R_new' ho0 (Kd.R_lt (ownx HO138))) (below_size bel)); replace HO138 := Aside0.mk (Kd.R_elder' (ownx HO138) (Kd.R_base ho0) hb); replace HB := Aside0.mk (below_step bel hb); (try clear hb); (try clear hb2); (try clear hk); (try clear hi); (try clear ho0); obtain ⟨Ao32, co32, eo32⟩ := Kd.R_slice HO142.out; subst eo32) | ((with_reducible refine gate_callee (f := 12) rfl ?_); refine goesL_ (some 23) rfl rfl Tryz.func12 (by kernel_rfl) rfl #[.slice Ao32 t139.length co32] rfl mapz ?_; (with_reducible refine (mast_Format.calls k _ _ t139 t143 t144 _ ?side1 ?side2 (tbz HT) A3.out).mono ?_); (case side1 => repeat (first | exact (Kd.R_reads' HO142.out).2.2 | (with_reducible refine Kd.C_alloc ?_ _) | (with_reducible refine Kd.C_drewN ?_ _) | (with_reducible refine Kd.C_drew ?_))); (case side2 => exact (Kd.R_reads' HO142.out).2.1); rintro e w33 ⟨rfl, hb⟩; refine ⟨_, rfl, ?_⟩; replace HO138 := Aside0.mk (Kd.R_below (ownx HO138) hb); replace HO142 := Aside0.mk (Kd.R_below (ownx HO142) hb); replace HB := Aside0.mk (below_step bel hb); clear hb) | ((with_reducible refine gate_callee (f := 20) rfl ?_); refine goesL_ (some 28) rfl rfl Tryz.func20 (by kernel_rfl) rfl #[.slice Ao32 t139.length co32, .int .i64 15] rfl mapz ?_; (with_reducible refine (mast_Near.calls k _ _ t139 15 t145 t146 _ ?side1 ?side2 A4.out).mono ?_); (case side1 => repeat (first | exact (Kd.R_reads' HO142.out).2.2 | (with_reducible refine Kd.C_alloc ?_ _) | (with_reducible refine Kd.C_drewN ?_ _) | (with_reducible refine Kd.C_drew ?_))); (case side2 => exact (Kd.R_reads' HO142.out).2.1); rintro e w34 ⟨rfl, hb⟩; refine ⟨_, rfl, ?_⟩; replace HO138 := Aside0.mk (Kd.R_below (ownx HO138) hb); replace HO142 := Aside0.mk (Kd.R_below (ownx HO142) hb); replace HB := Aside0.mk (below_step bel hb); clear hb))
      go_ret
      exact ⟨ezz, bel⟩
    ·
     rw [if_neg c8] at H
     have c8b0 : (t146 == 0) = false := beq_eq_false_iff_ne.mpr c8
     have c8b1 : (t146 != 0) = true := bne_iff_ne.mpr c8
     obtain rfl := Option.some.inj H
     go_enter Tryz.func6, Tryz.ntmps6
     go_wp2_with (first | ((with_reducible refine gate_callee (f := 7) rfl ?_); refine goesL_ (some 10) rfl rfl Tryz.func7 (by kernel_rfl) rfl #[.int .i64 12345] rfl mapz ?_; (with_reducible refine (mast_FormatAt.calls 12345 t134 t135 _ (tbz HT) A1.out).mono ?_); rintro e w35 ⟨rfl, hb⟩; refine ⟨_, rfl, ?_⟩; replace HB := Aside0.mk (below_step bel hb); clear hb) | ((with_reducible refine gate_dst (N := 17) rfl ?_); refine Kd.R_lit k38 _ 38 ?hg (N := 17) ?hd (xs := ([(⟨5, 9⟩ : S38), (⟨0, 5⟩ : S38), (⟨20, 30⟩ : S38)] : List (S38))) (inner := [.int .i64 5, .int .i64 9, .int .i64 0, .int .i64 5, .int .i64 20, .int .i64 30]) (ok := fun _ => True) (okp := fun _ => True) ?hr ?hp (fun _ hk => hk) trivial (Below.refl _ _) (Nat.le_refl _) (by simp) ?_; (case hd => rfl); (case hg => rfl); (case hr => first | (go_simp; done) | (go_simp; rfl)); (case hp => exact (Reps.c2 (show Kd.M k38 _ _ _ (⟨5, 9⟩ : S38) [.int .i64 5, .int .i64 9] from (k38_mkM _ _ _ (⟨5, 9⟩ : S38) )) (Reps.c2 (show Kd.M k38 _ _ _ (⟨0, 5⟩ : S38) [.int .i64 0, .int .i64 5] from (k38_mkM _ _ _ (⟨0, 5⟩ : S38) )) (Reps.c2 (show Kd.M k38 _ _ _ (⟨20, 30⟩ : S38) [.int .i64 20, .int .i64 30] from (k38_mkM _ _ _ (⟨20, 30⟩ : S38) )) (Reps.none _ _))))); intro v137 w36 ho37 hb hg_ hnew_; clear hg_ hnew_; (first | rw [← Ny136.out] at ho37 | (simp only [Int.reduceToNat] at ho37; rw [← Ny136.out] at ho37)); have HO138 := Aside0.mk (Kd.R_lower ho37 (below_size bel)); replace HB := Aside0.mk (below_step bel hb); clear hb ho37; obtain ⟨Ao38, co38, eo38⟩ := Kd.R_slice HO138.out; subst eo38) | ((with_reducible refine gate_callee (f := 19) rfl ?_); refine goesL_ (some 18) rfl rfl Tryz.func19 (by kernel_rfl) rfl #[.slice Ao38 y136.length co38] rfl mapz ?_; (with_reducible refine (mast_Clean.calls _ _ y136 t139 t140 _ ?side1 ?side2 A2.out).mono ?_); (case side1 => repeat (first | exact (Kd.R_reads' HO138.out).2.2 | (with_reducible refine Kd.C_alloc ?_ _) | (with_reducible refine Kd.C_drewN ?_ _) | (with_reducible refine Kd.C_drew ?_))); (case side2 => exact (Kd.R_reads' HO138.out).2.1); rintro e w39 ⟨v141, rfl, ho0, hb⟩; refine ⟨_, rfl, ?_⟩; have HO142 := Aside0.mk (Kd.R_lower (Kd.R_new' ho0 (Kd.R_lt (ownx HO138))) (below_size bel)); replace HO138 := Aside0.mk (Kd.R_elder' (ownx HO138) (Kd.R_base ho0) hb); replace HB := Aside0.mk (below_step bel hb); (try clear hb); (try clear hb2); (try clear hk); (try clear hi); (try clear ho0); obtain ⟨Ao40, co40, eo40⟩ := Kd.R_slice HO142.out; subst eo40) | ((with_reducible refine gate_callee (f := 12) rfl ?_); refine goesL_ (some 23) rfl rfl Tryz.func12 (by kernel_rfl) rfl #[.slice Ao40 t139.length co40] rfl mapz ?_; (with_reducible refine (mast_Format.calls k _ _ t139 t143 t144 _ ?side1 ?side2 (tbz HT) A3.out).mono ?_); (case side1 => repeat (first | exact (Kd.R_reads' HO142.out).2.2 | (with_reducible refine Kd.C_alloc ?_ _) | (with_reducible refine Kd.C_drewN ?_ _) | (with_reducible refine Kd.C_drew ?_))); (case side2 => exact (Kd.R_reads' HO142.out).2.1); rintro e w41 ⟨rfl, hb⟩; refine ⟨_, rfl, ?_⟩; replace HO138 := Aside0.mk (Kd.R_below (ownx HO138) hb); replace HO142 := Aside0.mk (Kd.R_below (ownx HO142) hb); replace HB := Aside0.mk (below_step bel hb); clear hb) | ((with_reducible refine gate_callee (f := 20) rfl ?_); refine goesL_ (some 28) rfl rfl Tryz.func20 (by kernel_rfl) rfl #[.slice Ao40 t139.length co40, .int .i64 15] rfl mapz ?_; (with_reducible refine (mast_Near.calls k _ _ t139 15 t145 t146 _ ?side1 ?side2 A4.out).mono ?_); (case side1 => repeat (first | exact (Kd.R_reads' HO142.out).2.2 | (with_reducible refine Kd.C_alloc ?_ _) | (with_reducible refine Kd.C_drewN ?_ _) | (with_reducible refine Kd.C_drew ?_))); (case side2 => exact (Kd.R_reads' HO142.out).2.1); rintro e w42 ⟨rfl, hb⟩; refine ⟨_, rfl, ?_⟩; replace HO138 := Aside0.mk (Kd.R_below (ownx HO138) hb); replace HO142 := Aside0.mk (Kd.R_below (ownx HO142) hb); replace HB := Aside0.mk (below_step bel hb); clear hb))
     go_ret
     exact ⟨ezz, bel⟩
   ·
    rw [if_neg c7] at H
    have c7b0 : (t144 == 0) = false := beq_eq_false_iff_ne.mpr c7
    have c7b1 : (t144 != 0) = true := bne_iff_ne.mpr c7
    obtain rfl := Option.some.inj H
    go_enter Tryz.func6, Tryz.ntmps6
    go_wp2_with (first | ((with_reducible refine gate_callee (f := 7) rfl ?_); refine goesL_ (some 10) rfl rfl Tryz.func7 (by kernel_rfl) rfl #[.int .i64 12345] rfl mapz ?_; (with_reducible refine (mast_FormatAt.calls 12345 t134 t135 _ (tbz HT) A1.out).mono ?_); rintro e w43 ⟨rfl, hb⟩; refine ⟨_, rfl, ?_⟩; replace HB := Aside0.mk (below_step bel hb); clear hb) | ((with_reducible refine gate_dst (N := 17) rfl ?_); refine Kd.R_lit k38 _ 38 ?hg (N := 17) ?hd (xs := ([(⟨5, 9⟩ : S38), (⟨0, 5⟩ : S38), (⟨20, 30⟩ : S38)] : List (S38))) (inner := [.int .i64 5, .int .i64 9, .int .i64 0, .int .i64 5, .int .i64 20, .int .i64 30]) (ok := fun _ => True) (okp := fun _ => True) ?hr ?hp (fun _ hk => hk) trivial (Below.refl _ _) (Nat.le_refl _) (by simp) ?_; (case hd => rfl); (case hg => rfl); (case hr => first | (go_simp; done) | (go_simp; rfl)); (case hp => exact (Reps.c2 (show Kd.M k38 _ _ _ (⟨5, 9⟩ : S38) [.int .i64 5, .int .i64 9] from (k38_mkM _ _ _ (⟨5, 9⟩ : S38) )) (Reps.c2 (show Kd.M k38 _ _ _ (⟨0, 5⟩ : S38) [.int .i64 0, .int .i64 5] from (k38_mkM _ _ _ (⟨0, 5⟩ : S38) )) (Reps.c2 (show Kd.M k38 _ _ _ (⟨20, 30⟩ : S38) [.int .i64 20, .int .i64 30] from (k38_mkM _ _ _ (⟨20, 30⟩ : S38) )) (Reps.none _ _))))); intro v137 w44 ho45 hb hg_ hnew_; clear hg_ hnew_; (first | rw [← Ny136.out] at ho45 | (simp only [Int.reduceToNat] at ho45; rw [← Ny136.out] at ho45)); have HO138 := Aside0.mk (Kd.R_lower ho45 (below_size bel)); replace HB := Aside0.mk (below_step bel hb); clear hb ho45; obtain ⟨Ao46, co46, eo46⟩ := Kd.R_slice HO138.out; subst eo46) | ((with_reducible refine gate_callee (f := 19) rfl ?_); refine goesL_ (some 18) rfl rfl Tryz.func19 (by kernel_rfl) rfl #[.slice Ao46 y136.length co46] rfl mapz ?_; (with_reducible refine (mast_Clean.calls _ _ y136 t139 t140 _ ?side1 ?side2 A2.out).mono ?_); (case side1 => repeat (first | exact (Kd.R_reads' HO138.out).2.2 | (with_reducible refine Kd.C_alloc ?_ _) | (with_reducible refine Kd.C_drewN ?_ _) | (with_reducible refine Kd.C_drew ?_))); (case side2 => exact (Kd.R_reads' HO138.out).2.1); rintro e w47 ⟨v141, rfl, ho0, hb⟩; refine ⟨_, rfl, ?_⟩; have HO142 := Aside0.mk (Kd.R_lower (Kd.R_new' ho0 (Kd.R_lt (ownx HO138))) (below_size bel)); replace HO138 := Aside0.mk (Kd.R_elder' (ownx HO138) (Kd.R_base ho0) hb); replace HB := Aside0.mk (below_step bel hb); (try clear hb); (try clear hb2); (try clear hk); (try clear hi); (try clear ho0); obtain ⟨Ao48, co48, eo48⟩ := Kd.R_slice HO142.out; subst eo48) | ((with_reducible refine gate_callee (f := 12) rfl ?_); refine goesL_ (some 23) rfl rfl Tryz.func12 (by kernel_rfl) rfl #[.slice Ao48 t139.length co48] rfl mapz ?_; (with_reducible refine (mast_Format.calls k _ _ t139 t143 t144 _ ?side1 ?side2 (tbz HT) A3.out).mono ?_); (case side1 => repeat (first | exact (Kd.R_reads' HO142.out).2.2 | (with_reducible refine Kd.C_alloc ?_ _) | (with_reducible refine Kd.C_drewN ?_ _) | (with_reducible refine Kd.C_drew ?_))); (case side2 => exact (Kd.R_reads' HO142.out).2.1); rintro e w49 ⟨rfl, hb⟩; refine ⟨_, rfl, ?_⟩; replace HO138 := Aside0.mk (Kd.R_below (ownx HO138) hb); replace HO142 := Aside0.mk (Kd.R_below (ownx HO142) hb); replace HB := Aside0.mk (below_step bel hb); clear hb) | ((with_reducible refine gate_callee (f := 20) rfl ?_); refine goesL_ (some 28) rfl rfl Tryz.func20 (by kernel_rfl) rfl #[.slice Ao48 t139.length co48, .int .i64 15] rfl mapz ?_; (with_reducible refine (mast_Near.calls k _ _ t139 15 t145 t146 _ ?side1 ?side2 A4.out).mono ?_); (case side1 => repeat (first | exact (Kd.R_reads' HO142.out).2.2 | (with_reducible refine Kd.C_alloc ?_ _) | (with_reducible refine Kd.C_drewN ?_ _) | (with_reducible refine Kd.C_drew ?_))); (case side2 => exact (Kd.R_reads' HO142.out).2.1); rintro e w50 ⟨rfl, hb⟩; refine ⟨_, rfl, ?_⟩; replace HO138 := Aside0.mk (Kd.R_below (ownx HO138) hb); replace HO142 := Aside0.mk (Kd.R_below (ownx HO142) hb); replace HB := Aside0.mk (below_step bel hb); clear hb))
    go_ret
    exact ⟨ezz, bel⟩
  ·
   rw [if_neg c6] at H
   have c6b0 : (t140 == 0) = false := beq_eq_false_iff_ne.mpr c6
   have c6b1 : (t140 != 0) = true := bne_iff_ne.mpr c6
   obtain rfl := Option.some.inj H
   go_enter Tryz.func6, Tryz.ntmps6
   go_wp2_with (first | ((with_reducible refine gate_callee (f := 7) rfl ?_); refine goesL_ (some 10) rfl rfl Tryz.func7 (by kernel_rfl) rfl #[.int .i64 12345] rfl mapz ?_; (with_reducible refine (mast_FormatAt.calls 12345 t134 t135 _ (tbz HT) A1.out).mono ?_); rintro e w51 ⟨rfl, hb⟩; refine ⟨_, rfl, ?_⟩; replace HB := Aside0.mk (below_step bel hb); clear hb) | ((with_reducible refine gate_dst (N := 17) rfl ?_); refine Kd.R_lit k38 _ 38 ?hg (N := 17) ?hd (xs := ([(⟨5, 9⟩ : S38), (⟨0, 5⟩ : S38), (⟨20, 30⟩ : S38)] : List (S38))) (inner := [.int .i64 5, .int .i64 9, .int .i64 0, .int .i64 5, .int .i64 20, .int .i64 30]) (ok := fun _ => True) (okp := fun _ => True) ?hr ?hp (fun _ hk => hk) trivial (Below.refl _ _) (Nat.le_refl _) (by simp) ?_; (case hd => rfl); (case hg => rfl); (case hr => first | (go_simp; done) | (go_simp; rfl)); (case hp => exact (Reps.c2 (show Kd.M k38 _ _ _ (⟨5, 9⟩ : S38) [.int .i64 5, .int .i64 9] from (k38_mkM _ _ _ (⟨5, 9⟩ : S38) )) (Reps.c2 (show Kd.M k38 _ _ _ (⟨0, 5⟩ : S38) [.int .i64 0, .int .i64 5] from (k38_mkM _ _ _ (⟨0, 5⟩ : S38) )) (Reps.c2 (show Kd.M k38 _ _ _ (⟨20, 30⟩ : S38) [.int .i64 20, .int .i64 30] from (k38_mkM _ _ _ (⟨20, 30⟩ : S38) )) (Reps.none _ _))))); intro v137 w52 ho53 hb hg_ hnew_; clear hg_ hnew_; (first | rw [← Ny136.out] at ho53 | (simp only [Int.reduceToNat] at ho53; rw [← Ny136.out] at ho53)); have HO138 := Aside0.mk (Kd.R_lower ho53 (below_size bel)); replace HB := Aside0.mk (below_step bel hb); clear hb ho53; obtain ⟨Ao54, co54, eo54⟩ := Kd.R_slice HO138.out; subst eo54) | ((with_reducible refine gate_callee (f := 19) rfl ?_); refine goesL_ (some 18) rfl rfl Tryz.func19 (by kernel_rfl) rfl #[.slice Ao54 y136.length co54] rfl mapz ?_; (with_reducible refine (mast_Clean.calls _ _ y136 t139 t140 _ ?side1 ?side2 A2.out).mono ?_); (case side1 => repeat (first | exact (Kd.R_reads' HO138.out).2.2 | (with_reducible refine Kd.C_alloc ?_ _) | (with_reducible refine Kd.C_drewN ?_ _) | (with_reducible refine Kd.C_drew ?_))); (case side2 => exact (Kd.R_reads' HO138.out).2.1); rintro e w55 ⟨v141, rfl, ho0, hb⟩; refine ⟨_, rfl, ?_⟩; have HO142 := Aside0.mk (Kd.R_lower (Kd.R_new' ho0 (Kd.R_lt (ownx HO138))) (below_size bel)); replace HO138 := Aside0.mk (Kd.R_elder' (ownx HO138) (Kd.R_base ho0) hb); replace HB := Aside0.mk (below_step bel hb); (try clear hb); (try clear hb2); (try clear hk); (try clear hi); (try clear ho0); obtain ⟨Ao56, co56, eo56⟩ := Kd.R_slice HO142.out; subst eo56) | ((with_reducible refine gate_callee (f := 12) rfl ?_); refine goesL_ (some 23) rfl rfl Tryz.func12 (by kernel_rfl) rfl #[.slice Ao56 t139.length co56] rfl mapz ?_; (with_reducible refine (mast_Format.calls k _ _ t139 t143 t144 _ ?side1 ?side2 (tbz HT) A3.out).mono ?_); (case side1 => repeat (first | exact (Kd.R_reads' HO142.out).2.2 | (with_reducible refine Kd.C_alloc ?_ _) | (with_reducible refine Kd.C_drewN ?_ _) | (with_reducible refine Kd.C_drew ?_))); (case side2 => exact (Kd.R_reads' HO142.out).2.1); rintro e w57 ⟨rfl, hb⟩; refine ⟨_, rfl, ?_⟩; replace HO138 := Aside0.mk (Kd.R_below (ownx HO138) hb); replace HO142 := Aside0.mk (Kd.R_below (ownx HO142) hb); replace HB := Aside0.mk (below_step bel hb); clear hb) | ((with_reducible refine gate_callee (f := 20) rfl ?_); refine goesL_ (some 28) rfl rfl Tryz.func20 (by kernel_rfl) rfl #[.slice Ao56 t139.length co56, .int .i64 15] rfl mapz ?_; (with_reducible refine (mast_Near.calls k _ _ t139 15 t145 t146 _ ?side1 ?side2 A4.out).mono ?_); (case side1 => repeat (first | exact (Kd.R_reads' HO142.out).2.2 | (with_reducible refine Kd.C_alloc ?_ _) | (with_reducible refine Kd.C_drewN ?_ _) | (with_reducible refine Kd.C_drew ?_))); (case side2 => exact (Kd.R_reads' HO142.out).2.1); rintro e w58 ⟨rfl, hb⟩; refine ⟨_, rfl, ?_⟩; replace HO138 := Aside0.mk (Kd.R_below (ownx HO138) hb); replace HO142 := Aside0.mk (Kd.R_below (ownx HO142) hb); replace HB := Aside0.mk (below_step bel hb); clear hb))
   go_ret
   exact ⟨ezz, bel⟩
 ·
  rw [if_neg c5] at H
  have c5b0 : (t135 == 0) = false := beq_eq_false_iff_ne.mpr c5
  have c5b1 : (t135 != 0) = true := bne_iff_ne.mpr c5
  obtain rfl := Option.some.inj H
  go_enter Tryz.func6, Tryz.ntmps6
  go_wp2_with (first | ((with_reducible refine gate_callee (f := 7) rfl ?_); refine goesL_ (some 10) rfl rfl Tryz.func7 (by kernel_rfl) rfl #[.int .i64 12345] rfl mapz ?_; (with_reducible refine (mast_FormatAt.calls 12345 t134 t135 _ (tbz HT) A1.out).mono ?_); rintro e w59 ⟨rfl, hb⟩; refine ⟨_, rfl, ?_⟩; replace HB := Aside0.mk (below_step bel hb); clear hb) | ((with_reducible refine gate_dst (N := 17) rfl ?_); refine Kd.R_lit k38 _ 38 ?hg (N := 17) ?hd (xs := ([(⟨5, 9⟩ : S38), (⟨0, 5⟩ : S38), (⟨20, 30⟩ : S38)] : List (S38))) (inner := [.int .i64 5, .int .i64 9, .int .i64 0, .int .i64 5, .int .i64 20, .int .i64 30]) (ok := fun _ => True) (okp := fun _ => True) ?hr ?hp (fun _ hk => hk) trivial (Below.refl _ _) (Nat.le_refl _) (by simp) ?_; (case hd => rfl); (case hg => rfl); (case hr => first | (go_simp; done) | (go_simp; rfl)); (case hp => exact (Reps.c2 (show Kd.M k38 _ _ _ (⟨5, 9⟩ : S38) [.int .i64 5, .int .i64 9] from (k38_mkM _ _ _ (⟨5, 9⟩ : S38) )) (Reps.c2 (show Kd.M k38 _ _ _ (⟨0, 5⟩ : S38) [.int .i64 0, .int .i64 5] from (k38_mkM _ _ _ (⟨0, 5⟩ : S38) )) (Reps.c2 (show Kd.M k38 _ _ _ (⟨20, 30⟩ : S38) [.int .i64 20, .int .i64 30] from (k38_mkM _ _ _ (⟨20, 30⟩ : S38) )) (Reps.none _ _))))); intro v137 w60 ho61 hb hg_ hnew_; clear hg_ hnew_; (first | rw [← Ny136.out] at ho61 | (simp only [Int.reduceToNat] at ho61; rw [← Ny136.out] at ho61)); have HO138 := Aside0.mk (Kd.R_lower ho61 (below_size bel)); replace HB := Aside0.mk (below_step bel hb); clear hb ho61; obtain ⟨Ao62, co62, eo62⟩ := Kd.R_slice HO138.out; subst eo62) | ((with_reducible refine gate_callee (f := 19) rfl ?_); refine goesL_ (some 18) rfl rfl Tryz.func19 (by kernel_rfl) rfl #[.slice Ao62 y136.length co62] rfl mapz ?_; (with_reducible refine (mast_Clean.calls _ _ y136 t139 t140 _ ?side1 ?side2 A2.out).mono ?_); (case side1 => repeat (first | exact (Kd.R_reads' HO138.out).2.2 | (with_reducible refine Kd.C_alloc ?_ _) | (with_reducible refine Kd.C_drewN ?_ _) | (with_reducible refine Kd.C_drew ?_))); (case side2 => exact (Kd.R_reads' HO138.out).2.1); rintro e w63 ⟨v141, rfl, ho0, hb⟩; refine ⟨_, rfl, ?_⟩; have HO142 := Aside0.mk (Kd.R_lower (Kd.R_new' ho0 (Kd.R_lt (ownx HO138))) (below_size bel)); replace HO138 := Aside0.mk (Kd.R_elder' (ownx HO138) (Kd.R_base ho0) hb); replace HB := Aside0.mk (below_step bel hb); (try clear hb); (try clear hb2); (try clear hk); (try clear hi); (try clear ho0); obtain ⟨Ao64, co64, eo64⟩ := Kd.R_slice HO142.out; subst eo64) | ((with_reducible refine gate_callee (f := 12) rfl ?_); refine goesL_ (some 23) rfl rfl Tryz.func12 (by kernel_rfl) rfl #[.slice Ao64 t139.length co64] rfl mapz ?_; (with_reducible refine (mast_Format.calls k _ _ t139 t143 t144 _ ?side1 ?side2 (tbz HT) A3.out).mono ?_); (case side1 => repeat (first | exact (Kd.R_reads' HO142.out).2.2 | (with_reducible refine Kd.C_alloc ?_ _) | (with_reducible refine Kd.C_drewN ?_ _) | (with_reducible refine Kd.C_drew ?_))); (case side2 => exact (Kd.R_reads' HO142.out).2.1); rintro e w65 ⟨rfl, hb⟩; refine ⟨_, rfl, ?_⟩; replace HO138 := Aside0.mk (Kd.R_below (ownx HO138) hb); replace HO142 := Aside0.mk (Kd.R_below (ownx HO142) hb); replace HB := Aside0.mk (below_step bel hb); clear hb) | ((with_reducible refine gate_callee (f := 20) rfl ?_); refine goesL_ (some 28) rfl rfl Tryz.func20 (by kernel_rfl) rfl #[.slice Ao64 t139.length co64, .int .i64 15] rfl mapz ?_; (with_reducible refine (mast_Near.calls k _ _ t139 15 t145 t146 _ ?side1 ?side2 A4.out).mono ?_); (case side1 => repeat (first | exact (Kd.R_reads' HO142.out).2.2 | (with_reducible refine Kd.C_alloc ?_ _) | (with_reducible refine Kd.C_drewN ?_ _) | (with_reducible refine Kd.C_drew ?_))); (case side2 => exact (Kd.R_reads' HO142.out).2.1); rintro e w66 ⟨rfl, hb⟩; refine ⟨_, rfl, ?_⟩; replace HO138 := Aside0.mk (Kd.R_below (ownx HO138) hb); replace HO142 := Aside0.mk (Kd.R_below (ownx HO142) hb); replace HB := Aside0.mk (below_step bel hb); clear hb))
  go_ret
  exact ⟨ezz, bel⟩

/-! ### dropperref01_isAt: function 23 -/
def dropperref01_isAt.f (a0 : Int) : Option (Bool) := if a0 ≥ 0 then (some (decide (a0 ≤ 100000))) else (some false)
set_option maxHeartbeats 8000000 in
set_option maxRecDepth 100000 in
theorem dropperref01_isAt.calls (a0 : Int) (r : Bool) (w : World) (h : dropperref01_isAt.f a0 = some r) :
  Calls Tryz.prog 23 #[.int .i64 a0] w fun e w' => e = .returned (.bool r) ∧ Drawn0 w w' := by
 have H : (if a0 ≥ 0 then (some (decide (a0 ≤ 100000))) else (some false)) = some r := h
 clear h
 by_cases c2 : a0 ≥ 0
 ·
  rw [if_pos c2] at H
  have c2b0 : decide (0 ≤ a0) = true := decide_eq_true c2
  clear c2
  obtain rfl := Option.some.inj H
  go_enter Tryz.func23, Tryz.ntmps23
  go_wp2
  go_ret
  exact ⟨by first | rfl | (simp; done) | (simp [*]; done), drz⟩
 ·
  rw [if_neg c2] at H
  have c2b0 : decide (0 ≤ a0) = false := decide_eq_false c2
  clear c2
  obtain rfl := Option.some.inj H
  go_enter Tryz.func23, Tryz.ntmps23
  go_wp2
  go_ret
  exact ⟨by first | rfl | (simp; done) | (simp [*]; done), drz⟩

/-! ### dropperref01_Dec: function 36 -/
def dropperref01_Dec.dg : Nat → Int → List UInt8
 | 0, _ => []
 | k + 1, n => if n < 10 then [UInt8.ofNat (48 + n.toNat)] else dropperref01_Dec.dg k (n / 10) ++ [UInt8.ofNat (48 + (n % 10).toNat)]
def dropperref01_Dec.txt (n : Int) : ByteArray := ⟨(dropperref01_Dec.dg 10 n).toArray⟩
def dropperref01_Dec.f (a0 : Int) : Option ByteArray := if 0 ≤ a0 ∧ a0 ≤ 1000000 then some (dropperref01_Dec.txt a0) else none
theorem dropperref01_Dec.enc (d : Int) (h0 : 0 ≤ d) (h1 : d ≤ 9) : Utf8.encode (48 + d) = ⟨#[UInt8.ofNat (48 + d.toNat)]⟩ := by
 have h : d = 0 ∨ d = 1 ∨ d = 2 ∨ d = 3 ∨ d = 4 ∨ d = 5 ∨ d = 6 ∨ d = 7 ∨ d = 8 ∨ d = 9 := by omega
 rcases h with rfl | rfl | rfl | rfl | rfl | rfl | rfl | rfl | rfl | rfl <;> rfl
theorem dropperref01_Dec.len : ∀ (k : Nat) (n : Int), (dropperref01_Dec.dg k n).length ≤ k
 | 0, _ => Nat.le_refl _
 | k + 1, n => by
  rw [dropperref01_Dec.dg]
  split
  ·
   simp
  ·
   have := dropperref01_Dec.len k (n / 10)
   rw [List.length_append, List.length_singleton]
   omega
set_option maxHeartbeats 2000000 in
set_option maxRecDepth 100000 in
theorem dropperref01_Dec.walk : ∀ (k : Nat) (n : Int) (w : World), 1 ≤ k → k ≤ 100 → 0 ≤ n → n ≤ 1000000 → n < 10 ^ k →
  Calls Tryz.prog 36 #[.int .i64 n] w fun e w' => e = .returned (.string ⟨(dropperref01_Dec.dg k n).toArray⟩) ∧ ∃ nd, w' = w.drewN nd
 | 0, n, w, hk1, _, _, _, _ => by omega
 | k + 1, n, w, _, hk0, h0, h1, h2 => by
  have hk : (10 : Int) ^ (k + 1) = 10 * (10 : Int) ^ k := by rw [Int.pow_succ, Int.mul_comm]
  rw [hk] at h2
  clear hk
  by_cases c : n < 10
  ·
   have d : decide (n < 10) = true := decide_eq_true c
   have e : wrap64 (48 + n) = 48 + n := by unfold wrap64; omega
   have D := Aside0.mk (show dropperref01_Dec.dg (k + 1) n = [UInt8.ofNat (48 + n.toNat)] by rw [dropperref01_Dec.dg, if_pos c])
   have E := Aside0.mk (dropperref01_Dec.enc n h0 (by omega))
   clear h1 h2
   go_enter Tryz.func36, Tryz.ntmps36
   go_wp2_with (fail)
   go_ret
   refine ⟨?_, 0, rfl⟩
   rw [D.out]
   exact congrArg (fun x => Ending.returned (.string x)) E.out
  ·
   have d : decide (n < 10) = false := decide_eq_false c
   have e1 : wrap64 (n.tdiv 10) = n / 10 := by rw [Int.tdiv_eq_ediv_of_nonneg h0]; unfold wrap64; omega
   have e2 : n.tmod 10 = n % 10 := Int.tmod_eq_emod_of_nonneg h0
   have e3 : wrap64 (48 + n % 10) = 48 + n % 10 := by unfold wrap64; omega
   have D := Aside0.mk (show dropperref01_Dec.dg (k + 1) n = dropperref01_Dec.dg k (n / 10) ++ [UInt8.ofNat (48 + (n % 10).toNat)] by rw [dropperref01_Dec.dg, if_neg c])
   have E := dropperref01_Dec.enc (n % 10) (by omega) (by omega)
   have hk1 : 1 ≤ k := by
    cases k with
    | zero => have e0 : (10 : Int) ^ 0 = 1 := rfl; rw [e0] at h2; omega
    | succ k => omega
   have IH0 := fun w => dropperref01_Dec.walk k (n / 10) w hk1 (by omega) (by omega) (by omega) (by omega)
   have hlen := dropperref01_Dec.len k (n / 10)
   obtain ⟨X, hX⟩ : ∃ X : ByteArray, X = ⟨(dropperref01_Dec.dg k (n / 10)).toArray⟩ := ⟨_, rfl⟩
   have hs : X.size ≤ 100 := by rw [hX]; show (dropperref01_Dec.dg k (n / 10)).toArray.size ≤ 100; rw [List.size_toArray]; omega
   rw [← hX] at IH0
   have IH := Aside0.mk IH0
   have HX := Aside0.mk hX
   have l1 : (9223372036854775807 < X.size + 1) = False := eq_false (by omega)
   have l2 : (9223372036854775807 < X.size + (Utf8.encode (48 + n % 10)).size) = False := by rw [E]; exact l1
   have EE := Aside0.mk E
   clear h1 h2 hX hlen IH0 hs E
   go_enter Tryz.func36, Tryz.ntmps36
   go_wp2_with (first | (go_at_call 36; (with_reducible refine (IH.out _).mono ?_); rintro e w1 ⟨rfl, ⟨nd, rfl⟩⟩))
   go_ret
   refine ⟨?_, nd, rfl⟩
   rw [D.out]
   refine congrArg (fun x => Ending.returned (.string x)) (a₁ := X ++ Utf8.encode (48 + n % 10)) ?_
   rw [EE.out, HX.out]
   apply ByteArray.ext
   simp
theorem dropperref01_Dec.calls (a0 : Int) (r : ByteArray) (w : World) (h : dropperref01_Dec.f a0 = some r) :
  Calls Tryz.prog 36 #[.int .i64 a0] w fun e w' => e = .returned (.string r) ∧ ∃ nd, w' = w.drewN nd := by
 unfold dropperref01_Dec.f at h
 by_cases hc : ¬ (0 ≤ a0 ∧ a0 ≤ 1000000)
 ·
  rw [if_neg hc] at h; cases h
 replace hc := Decidable.not_not.1 hc
 rw [if_pos hc] at h
 obtain rfl := Option.some.inj h
 exact dropperref01_Dec.walk 10 a0 w (by decide) (by decide) hc.1 hc.2 (by omega)

/-! ### dropperref01_at: function 24 -/
def dropperref01_at.f (a0 : Int) : Option (ByteArray) := (dropperref01_Dec.f (wrap64 (Int.tdiv a0 1000))).bind fun t147 => (if t147.size + 1 ≤ 9223372036854775807 then ((dropperref01_Dec.f (wrap64 (Int.tdiv (Int.tmod a0 1000) 100))).bind fun t148 => (if (t147 ++ (⟨#[43]⟩ : ByteArray)).size + t148.size ≤ 9223372036854775807 then ((dropperref01_Dec.f (Int.tmod (wrap64 (Int.tdiv (Int.tmod a0 1000) 10)) 10)).bind fun t149 => (if ((t147 ++ (⟨#[43]⟩ : ByteArray)) ++ t148).size + t149.size ≤ 9223372036854775807 then ((dropperref01_Dec.f (Int.tmod a0 10)).bind fun t150 => (if (((t147 ++ (⟨#[43]⟩ : ByteArray)) ++ t148) ++ t149).size + t150.size ≤ 9223372036854775807 then (some ((((t147 ++ (⟨#[43]⟩ : ByteArray)) ++ t148) ++ t149) ++ t150)) else (none))) else (none))) else (none))) else (none))
set_option maxHeartbeats 8000000 in
set_option maxRecDepth 100000 in
theorem dropperref01_at.calls (a0 : Int) (r : ByteArray) (w : World) (h : dropperref01_at.f a0 = some r) :
  Calls Tryz.prog 24 #[.int .i64 a0] w fun e w' => e = .returned (.string r) ∧ Drawn0 w w' := by
 have H : ((dropperref01_Dec.f (wrap64 (Int.tdiv a0 1000))).bind fun t147 => (if t147.size + 1 ≤ 9223372036854775807 then ((dropperref01_Dec.f (wrap64 (Int.tdiv (Int.tmod a0 1000) 100))).bind fun t148 => (if (t147 ++ (⟨#[43]⟩ : ByteArray)).size + t148.size ≤ 9223372036854775807 then ((dropperref01_Dec.f (Int.tmod (wrap64 (Int.tdiv (Int.tmod a0 1000) 10)) 10)).bind fun t149 => (if ((t147 ++ (⟨#[43]⟩ : ByteArray)) ++ t148).size + t149.size ≤ 9223372036854775807 then ((dropperref01_Dec.f (Int.tmod a0 10)).bind fun t150 => (if (((t147 ++ (⟨#[43]⟩ : ByteArray)) ++ t148) ++ t149).size + t150.size ≤ 9223372036854775807 then (some ((((t147 ++ (⟨#[43]⟩ : ByteArray)) ++ t148) ++ t149) ++ t150)) else (none))) else (none))) else (none))) else (none))) = some r := h
 clear h
 replace H := Option.bind_eq_some_iff.mp H
 obtain ⟨t147, A20, H⟩ := H
 try dsimp only at H
 have A2 := Aside0.mk A20
 clear A20
 by_cases c3 : t147.size + 1 ≤ 9223372036854775807
 ·
  rw [if_pos c3] at H
  have c3b0 := eq_true c3
  have c3b1 : decide (t147.size + 1 ≤ 9223372036854775807) = true := decide_eq_true c3
  try have c3b2 : (9223372036854775807 < t147.size + 1) = False := eq_false (Nat.not_lt.2 c3)
  replace H := Option.bind_eq_some_iff.mp H
  obtain ⟨t148, A40, H⟩ := H
  try dsimp only at H
  have A4 := Aside0.mk A40
  clear A40
  by_cases c5 : (t147 ++ (⟨#[43]⟩ : ByteArray)).size + t148.size ≤ 9223372036854775807
  ·
   rw [if_pos c5] at H
   have c5b0 := eq_true c5
   have c5b1 : decide ((t147 ++ (⟨#[43]⟩ : ByteArray)).size + t148.size ≤ 9223372036854775807) = true := decide_eq_true c5
   try have c5b2 : (9223372036854775807 < (t147 ++ (⟨#[43]⟩ : ByteArray)).size + t148.size) = False := eq_false (Nat.not_lt.2 c5)
   have c5b4 := c5b2
   try simp only [ByteArray.size_append, show (⟨#[43]⟩ : ByteArray).size = 1 from rfl] at c5b4
   have c5b4 := c5b2
   try simp only [ByteArray.size_append, show (⟨#[43]⟩ : ByteArray).size = 1 from rfl] at c5b4
   replace H := Option.bind_eq_some_iff.mp H
   obtain ⟨t149, A60, H⟩ := H
   try dsimp only at H
   have A6 := Aside0.mk A60
   clear A60
   by_cases c7 : ((t147 ++ (⟨#[43]⟩ : ByteArray)) ++ t148).size + t149.size ≤ 9223372036854775807
   ·
    rw [if_pos c7] at H
    have c7b0 := eq_true c7
    have c7b1 : decide (((t147 ++ (⟨#[43]⟩ : ByteArray)) ++ t148).size + t149.size ≤ 9223372036854775807) = true := decide_eq_true c7
    try have c7b2 : (9223372036854775807 < ((t147 ++ (⟨#[43]⟩ : ByteArray)) ++ t148).size + t149.size) = False := eq_false (Nat.not_lt.2 c7)
    have c7b4 := c7b2
    try simp only [ByteArray.size_append, show (⟨#[43]⟩ : ByteArray).size = 1 from rfl] at c7b4
    have c7b4 := c7b2
    try simp only [ByteArray.size_append, show (⟨#[43]⟩ : ByteArray).size = 1 from rfl] at c7b4
    replace H := Option.bind_eq_some_iff.mp H
    obtain ⟨t150, A80, H⟩ := H
    try dsimp only at H
    have A8 := Aside0.mk A80
    clear A80
    by_cases c9 : (((t147 ++ (⟨#[43]⟩ : ByteArray)) ++ t148) ++ t149).size + t150.size ≤ 9223372036854775807
    ·
     rw [if_pos c9] at H
     have c9b0 := eq_true c9
     have c9b1 : decide ((((t147 ++ (⟨#[43]⟩ : ByteArray)) ++ t148) ++ t149).size + t150.size ≤ 9223372036854775807) = true := decide_eq_true c9
     try have c9b2 : (9223372036854775807 < (((t147 ++ (⟨#[43]⟩ : ByteArray)) ++ t148) ++ t149).size + t150.size) = False := eq_false (Nat.not_lt.2 c9)
     have c9b4 := c9b2
     try simp only [ByteArray.size_append, show (⟨#[43]⟩ : ByteArray).size = 1 from rfl] at c9b4
     have c9b4 := c9b2
     try simp only [ByteArray.size_append, show (⟨#[43]⟩ : ByteArray).size = 1 from rfl] at c9b4
     obtain rfl := Option.some.inj H
     go_enter Tryz.func24, Tryz.ntmps24
     go_wp2_with (first | ((with_reducible refine gate_callee (f := 36) rfl ?_); refine goesL_ (some 8) rfl rfl Tryz.func36 (by kernel_rfl) rfl #[.int .i64 (wrap64 (Int.tdiv a0 1000))] rfl mapz ?_; (with_reducible refine (dropperref01_Dec.calls (wrap64 (Int.tdiv a0 1000)) t147 _ A2.out).mono ?_); rintro e w' ⟨rfl, ⟨nd, rfl⟩⟩; refine ⟨_, rfl, ?_⟩) | ((with_reducible refine gate_callee (f := 36) rfl ?_); refine goesL_ (some 12) rfl rfl Tryz.func36 (by kernel_rfl) rfl #[.int .i64 (wrap64 (Int.tdiv (Int.tmod a0 1000) 100))] rfl mapz ?_; (with_reducible refine (dropperref01_Dec.calls (wrap64 (Int.tdiv (Int.tmod a0 1000) 100)) t148 _ A4.out).mono ?_); rintro e w' ⟨rfl, ⟨nd, rfl⟩⟩; refine ⟨_, rfl, ?_⟩) | ((with_reducible refine gate_callee (f := 36) rfl ?_); refine goesL_ (some 17) rfl rfl Tryz.func36 (by kernel_rfl) rfl #[.int .i64 (Int.tmod (wrap64 (Int.tdiv (Int.tmod a0 1000) 10)) 10)] rfl mapz ?_; (with_reducible refine (dropperref01_Dec.calls (Int.tmod (wrap64 (Int.tdiv (Int.tmod a0 1000) 10)) 10) t149 _ A6.out).mono ?_); rintro e w' ⟨rfl, ⟨nd, rfl⟩⟩; refine ⟨_, rfl, ?_⟩) | ((with_reducible refine gate_callee (f := 36) rfl ?_); refine goesL_ (some 21) rfl rfl Tryz.func36 (by kernel_rfl) rfl #[.int .i64 (Int.tmod a0 10)] rfl mapz ?_; (with_reducible refine (dropperref01_Dec.calls (Int.tmod a0 10) t150 _ A8.out).mono ?_); rintro e w' ⟨rfl, ⟨nd, rfl⟩⟩; refine ⟨_, rfl, ?_⟩))
     go_ret
     exact ⟨by first | rfl | (simp; done) | (simp [*]; done), drz⟩
    ·
     rw [if_neg c9] at H
     exact absurd H (by simp)
   ·
    rw [if_neg c7] at H
    exact absurd H (by simp)
  ·
   rw [if_neg c5] at H
   exact absurd H (by simp)
 ·
  rw [if_neg c3] at H
  exact absurd H (by simp)

/-! ### dropperref01_FormatAt: function 8 -/
def dropperref01_FormatAt.f (a0 : Int) : Option (ByteArray × Int) := (dropperref01_isAt.f a0).bind fun t147 => (if t147 = true then ((dropperref01_at.f a0).bind fun t148 => (some (t148, 0))) else (some ((⟨#[]⟩ : ByteArray), 2)))
set_option maxHeartbeats 8000000 in
set_option maxRecDepth 100000 in
theorem dropperref01_FormatAt.calls (a0 : Int) (r1 : ByteArray) (r2 : Int) (w : World) (h : dropperref01_FormatAt.f a0 = some (r1, r2)) :
  Calls Tryz.prog 8 #[.int .i64 a0] w fun e w' => e = .returned (.tuple #[.string r1, .int .i64 r2]) ∧ Drawn0 w w' := by
 have H : ((dropperref01_isAt.f a0).bind fun t147 => (if t147 = true then ((dropperref01_at.f a0).bind fun t148 => (some (t148, 0))) else (some ((⟨#[]⟩ : ByteArray), 2)))) = some (r1, r2) := h
 clear h
 replace H := Option.bind_eq_some_iff.mp H
 obtain ⟨t147, A20, H⟩ := H
 try dsimp only at H
 have A2 := Aside0.mk A20
 clear A20
 by_cases c3 : t147 = true
 ·
  subst c3
  rw [if_pos rfl] at H
  replace H := Option.bind_eq_some_iff.mp H
  obtain ⟨t148, A40, H⟩ := H
  try dsimp only at H
  have A4 := Aside0.mk A40
  clear A40
  simp only [Option.some.injEq, Prod.mk.injEq] at H
  obtain ⟨rfl, rfl⟩ := H
  go_enter Tryz.func8, Tryz.ntmps8
  go_wp2_with (first | ((with_reducible refine gate_callee (f := 23) rfl ?_); refine goesL_ (some 5) rfl rfl Tryz.func23 (by kernel_rfl) rfl #[.int .i64 a0] rfl mapz ?_; (with_reducible refine (dropperref01_isAt.calls a0 true _ A2.out).mono ?_); rintro e w' ⟨rfl, ⟨nd, rfl⟩⟩; refine ⟨_, rfl, ?_⟩) | ((with_reducible refine gate_callee (f := 24) rfl ?_); refine goesL_ (some 8) rfl rfl Tryz.func24 (by kernel_rfl) rfl #[.int .i64 a0] rfl mapz ?_; (with_reducible refine (dropperref01_at.calls a0 t148 _ A4.out).mono ?_); rintro e w' ⟨rfl, ⟨nd, rfl⟩⟩; refine ⟨_, rfl, ?_⟩))
  go_ret2
  exact ⟨by first | rfl | (simp; done) | (simp [*]; done), drz⟩
 ·
  replace c3 := Bool.eq_false_iff.mpr c3
  subst c3
  rw [if_neg (show ¬ (false = true) by decide)] at H
  simp only [Option.some.injEq, Prod.mk.injEq] at H
  obtain ⟨rfl, rfl⟩ := H
  go_enter Tryz.func8, Tryz.ntmps8
  go_wp2_with (first | ((with_reducible refine gate_callee (f := 23) rfl ?_); refine goesL_ (some 5) rfl rfl Tryz.func23 (by kernel_rfl) rfl #[.int .i64 a0] rfl mapz ?_; (with_reducible refine (dropperref01_isAt.calls a0 false _ A2.out).mono ?_); rintro e w' ⟨rfl, ⟨nd, rfl⟩⟩; refine ⟨_, rfl, ?_⟩))
  go_ret2
  exact ⟨by first | rfl | (simp; done) | (simp [*]; done), drz⟩

/-! ### strings_Cut: function 25 -/
def strings_Cut.f (l0 l1 : ByteArray) : Option (ByteArray × ByteArray × Bool) := if l0.size ≤ 1000000 then some (⟨(Lib.cut l0.data.toList l1.data.toList).1.toArray⟩, ⟨(Lib.cut l0.data.toList l1.data.toList).2.1.toArray⟩, (Lib.cut l0.data.toList l1.data.toList).2.2) else none
theorem strings_Cut.calls (l0 l1 : ByteArray) (r1 r2 : ByteArray) (r3 : Bool) (w : World) (hT : Tab.Tabs w) (h : strings_Cut.f l0 l1 = some (r1, r2, r3)) :
  Calls Tryz.prog 25 #[.string l0, .string l1] w fun e w' => e = .returned (.tuple #[.string r1, .string r2, .bool r3]) ∧ ∃ n, w' = w.drewN n := by
 unfold strings_Cut.f at h
 by_cases hl : ¬ l0.size ≤ 1000000
 ·
  rw [if_neg hl] at h; cases h
 replace hl := Decidable.not_not.1 hl
 rw [if_pos hl] at h
 obtain ⟨m, hm⟩ := hT.2.1
 refine (Tryz.strings_Cut l0 l1 m w (by omega) hm).mono ?_
 rintro e w' ⟨rfl, hn⟩
 have e := Option.some.inj h
 refine ⟨?_, hn⟩
 have e1 : (⟨(Lib.cut l0.data.toList l1.data.toList).1.toArray⟩ : ByteArray) = r1 := congrArg Prod.fst e
 have e2 : (⟨(Lib.cut l0.data.toList l1.data.toList).2.1.toArray⟩ : ByteArray) = r2 := congrArg (fun x => x.2.1) e
 have e3 : (Lib.cut l0.data.toList l1.data.toList).2.2 = r3 := congrArg (fun x => x.2.2) e
 rw [← e1, ← e2, ← e3]

/-! ### mast_ParseAt: function 9 -/
def mast_ParseAt.A (s : ByteArray) : Option Int := match Lib.atoiAll s.data.toList with | .ok v => some v | _ => none
def mast_ParseAt.km (s : ByteArray) : ByteArray := ⟨(Lib.cut s.data.toList [43]).1.toArray⟩
def mast_ParseAt.rest (s : ByteArray) : ByteArray := ⟨(Lib.cut s.data.toList [43]).2.1.toArray⟩
def mast_ParseAt.two (s : ByteArray) (n m : Int) : Option (Int × Int) :=
 if n < 0 then some (0, 3) else if n > 100000 then some (0, 3) else if m < 0 then some (0, 3) else if m > 999 then some (0, 3) else
 (mast_isAt.f (wrap64 (wrap64 (n * 1000) + m))).bind fun b => if b = true then ((mast_at.f (wrap64 (wrap64 (n * 1000) + m))).bind fun t => if t.toList = s.toList then some (wrap64 (wrap64 (n * 1000) + m), 0) else some (0, 3)) else some (0, 3)
def mast_ParseAt.f (a0 : ByteArray) : Option (Int × Int) :=
 if a0.size ≤ 1000000 ∧ (mast_ParseAt.km a0).size ≤ 1000000 ∧ (mast_ParseAt.rest a0).size ≤ 1000000 then
  match mast_ParseAt.A (mast_ParseAt.km a0), mast_ParseAt.A (mast_ParseAt.rest a0) with
  | some n, some m => mast_ParseAt.two a0 n m
  | _, _ => some (0, 3)
 else none
theorem mast_ParseAt.atoi_some (s : ByteArray) (n : Int) (h : mast_ParseAt.A s = some n) (hs : s.size ≤ 1000000) (w : World) :
  Calls Tryz.prog 26 #[.string s] w fun e w' => e = .returned (.tuple #[.int .i64 n, .nilIface]) ∧ Below w.heap.size w w' := by
 unfold mast_ParseAt.A at h
 split at h
 ·
  next v hv =>
  obtain rfl := Option.some.inj h
  refine (Tryz.strconv_Atoi_ok s (by omega) v hv w).mono ?_
  rintro e w' ⟨rfl, rfl | ⟨t, rfl⟩⟩
  ·
   exact ⟨rfl, Below.refl _ _⟩
  ·
   exact ⟨rfl, Lib.bytesWorld_below _ _ _⟩
 ·
  cases h
theorem mast_ParseAt.atoi_none (s : ByteArray) (h : mast_ParseAt.A s = none) (hs : s.size ≤ 1000000) (w : World) (hT : Tab.Tabs w) :
  Calls Tryz.prog 26 #[.string s] w fun e w' => ∃ n t p, e = .returned (.tuple #[.int .i64 n, .iface t p]) ∧ Below w.heap.size w w' := by
 obtain ⟨_, _, ⟨t1, p1, h1⟩, t2, p2, h2⟩ := hT
 unfold mast_ParseAt.A at h
 rcases hv : Lib.atoiAll s.data.toList with v | _ | _
 ·
  rw [hv] at h; cases h
 ·
  refine (Any.strconv_Atoi_syntax Tryz.laysC172 s (by omega) hv _ w h1 (.inr ⟨_, _, rfl⟩)).mono ?_
  rintro e w' ⟨N, rfl, _, _, hb⟩
  exact ⟨_, _, _, rfl, hb⟩
 ·
  refine (Tryz.strconv_Atoi_range s (by omega) hv _ w h2 (.inr ⟨_, _, rfl⟩)).mono ?_
  rintro e w' ⟨N, rfl, _, _, hb⟩
  exact ⟨_, _, _, rfl, hb⟩
set_option maxHeartbeats 4000000 in
set_option maxRecDepth 100000 in
theorem mast_ParseAt.calls (a0 : ByteArray) (r1 r2 : Int) (w : World) (hT : Tab.Tabs w) (h : mast_ParseAt.f a0 = some (r1, r2)) :
  Calls Tryz.prog 9 #[.string a0] w fun e w' => e = .returned (.tuple #[.int .i64 r1, .int .i64 r2]) ∧ Below w.heap.size w w' := by
 have HT := Aside0.mk hT
 clear hT
 unfold mast_ParseAt.f at h
 by_cases hc : ¬ (a0.size ≤ 1000000 ∧ (mast_ParseAt.km a0).size ≤ 1000000 ∧ (mast_ParseAt.rest a0).size ≤ 1000000)
 ·
  rw [if_neg hc] at h; cases h
 replace hc := Decidable.not_not.1 hc
 rw [if_pos hc] at h
 have HC := Aside0.mk hc
 have hcut : strings_Cut.f a0 ⟨#[43]⟩ = some (mast_ParseAt.km a0, mast_ParseAt.rest a0, (Lib.cut a0.data.toList [43]).2.2) := by unfold strings_Cut.f; rw [if_pos hc.1]; rfl
 have HCut := Aside0.mk hcut
 clear hcut hc
 generalize mast_ParseAt.km a0 = km at *
 generalize mast_ParseAt.rest a0 = rest at *
 generalize (Lib.cut a0.data.toList [43]).2.2 = ok at *
 cases hA : mast_ParseAt.A km with
 | none =>
  have h' : (0, 3) = (r1, r2) := by rw [hA] at h; exact Option.some.inj h
  have H1 := Aside0.mk (congrArg Prod.fst h')
  have H2 := Aside0.mk (congrArg Prod.snd h')
  have HA := Aside0.mk hA
  clear h h' hA
  cases hB : mast_ParseAt.A rest with
  | none =>
   have HB := Aside0.mk hB
   clear hB
   go_enter Tryz.func9, Tryz.ntmps9
   go_wp2_with (first | (go_at_call 25; (with_reducible refine (strings_Cut.calls a0 ⟨#[43]⟩ km rest ok _ HT.out HCut.out).mono ?_); rintro e w1 ⟨rfl, hn1⟩; have hb1 := Aside0.mk (show Below w.heap.size w w1 by obtain ⟨nd, rfl⟩ := hn1; exact pw_below_drewN (Below.refl _ _) nd); clear hn1) | (go_at_call 26; (with_reducible refine (mast_ParseAt.atoi_none km HA.out HC.out.2.1 _ (Tab.Tabs.below HT.out hb1.out)).mono ?_); rintro e w2 ⟨n1, t1, p1, rfl, hb⟩; have hb2 := Aside0.mk (below_step hb1.out hb); clear hb) | (go_at_call 26; (with_reducible refine (mast_ParseAt.atoi_none rest HB.out HC.out.2.2 _ (Tab.Tabs.below HT.out hb2.out)).mono ?_); rintro e w3 ⟨n2, t2, p2, rfl, hb⟩; have hb3 := Aside0.mk (below_step hb2.out hb); clear hb))
   go_ret2
   exact ⟨by rw [← H1.out, ← H2.out]; rfl, hb3.out⟩
  | some m =>
   have HB := Aside0.mk hB
   clear hB
   go_enter Tryz.func9, Tryz.ntmps9
   go_wp2_with (first | (go_at_call 25; (with_reducible refine (strings_Cut.calls a0 ⟨#[43]⟩ km rest ok _ HT.out HCut.out).mono ?_); rintro e w1 ⟨rfl, hn1⟩; have hb1 := Aside0.mk (show Below w.heap.size w w1 by obtain ⟨nd, rfl⟩ := hn1; exact pw_below_drewN (Below.refl _ _) nd); clear hn1) | (go_at_call 26; (with_reducible refine (mast_ParseAt.atoi_none km HA.out HC.out.2.1 _ (Tab.Tabs.below HT.out hb1.out)).mono ?_); rintro e w2 ⟨n1, t1, p1, rfl, hb⟩; have hb2 := Aside0.mk (below_step hb1.out hb); clear hb) | (go_at_call 26; (with_reducible refine (mast_ParseAt.atoi_some rest m HB.out HC.out.2.2 _).mono ?_); rintro e w3 ⟨rfl, hb⟩; have hb3 := Aside0.mk (below_step hb2.out hb); clear hb))
   go_ret2
   exact ⟨by rw [← H1.out, ← H2.out]; rfl, hb3.out⟩
 | some n =>
  have HA := Aside0.mk hA
  cases hB : mast_ParseAt.A rest with
  | none =>
   have h' : (0, 3) = (r1, r2) := by rw [hA, hB] at h; exact Option.some.inj h
   have H1 := Aside0.mk (congrArg Prod.fst h')
   have H2 := Aside0.mk (congrArg Prod.snd h')
   have HB := Aside0.mk hB
   clear h h' hA hB
   go_enter Tryz.func9, Tryz.ntmps9
   go_wp2_with (first | (go_at_call 25; (with_reducible refine (strings_Cut.calls a0 ⟨#[43]⟩ km rest ok _ HT.out HCut.out).mono ?_); rintro e w1 ⟨rfl, hn1⟩; have hb1 := Aside0.mk (show Below w.heap.size w w1 by obtain ⟨nd, rfl⟩ := hn1; exact pw_below_drewN (Below.refl _ _) nd); clear hn1) | (go_at_call 26; (with_reducible refine (mast_ParseAt.atoi_some km n HA.out HC.out.2.1 _).mono ?_); rintro e w2 ⟨rfl, hb⟩; have hb2 := Aside0.mk (below_step hb1.out hb); clear hb) | (go_at_call 26; (with_reducible refine (mast_ParseAt.atoi_none rest HB.out HC.out.2.2 _ (Tab.Tabs.below HT.out hb2.out)).mono ?_); rintro e w3 ⟨n2, t2, p2, rfl, hb⟩; have hb3 := Aside0.mk (below_step hb2.out hb); clear hb))
   go_ret2
   exact ⟨by rw [← H1.out, ← H2.out]; rfl, hb3.out⟩
  | some m =>
   have h' : mast_ParseAt.two a0 n m = some (r1, r2) := by rw [hA, hB] at h; exact h
   have HB := Aside0.mk hB
   clear h hA hB
   unfold mast_ParseAt.two at h'
   by_cases c0 : n < 0
   ·
    rw [if_pos c0] at h'
    have d0 : decide (n < 0) = true := decide_eq_true c0
    clear c0
    have H1 := Aside0.mk (congrArg Prod.fst (Option.some.inj h'))
    have H2 := Aside0.mk (congrArg Prod.snd (Option.some.inj h'))
    clear h'
    go_enter Tryz.func9, Tryz.ntmps9
    go_wp2_with (first | (go_at_call 25; (with_reducible refine (strings_Cut.calls a0 ⟨#[43]⟩ km rest ok _ HT.out HCut.out).mono ?_); rintro e w1 ⟨rfl, hn1⟩; have hb1 := Aside0.mk (show Below w.heap.size w w1 by obtain ⟨nd, rfl⟩ := hn1; exact pw_below_drewN (Below.refl _ _) nd); clear hn1) | (go_at_call 26; (with_reducible refine (mast_ParseAt.atoi_some km n HA.out HC.out.2.1 _).mono ?_); rintro e w2 ⟨rfl, hb⟩; have hb2 := Aside0.mk (below_step hb1.out hb); clear hb) | (go_at_call 26; (with_reducible refine (mast_ParseAt.atoi_some rest m HB.out HC.out.2.2 _).mono ?_); rintro e w3 ⟨rfl, hb⟩; have hb3 := Aside0.mk (below_step hb2.out hb); clear hb))
    go_ret2
    exact ⟨by rw [← H1.out, ← H2.out]; rfl, hb3.out⟩
   rw [if_neg c0] at h'
   have d0 : decide (n < 0) = false := decide_eq_false c0
   clear c0
   by_cases c1 : n > 100000
   ·
    rw [if_pos c1] at h'
    have d1 : decide (n > 100000) = true := decide_eq_true c1
    clear c1
    have H1 := Aside0.mk (congrArg Prod.fst (Option.some.inj h'))
    have H2 := Aside0.mk (congrArg Prod.snd (Option.some.inj h'))
    clear h'
    go_enter Tryz.func9, Tryz.ntmps9
    go_wp2_with (first | (go_at_call 25; (with_reducible refine (strings_Cut.calls a0 ⟨#[43]⟩ km rest ok _ HT.out HCut.out).mono ?_); rintro e w1 ⟨rfl, hn1⟩; have hb1 := Aside0.mk (show Below w.heap.size w w1 by obtain ⟨nd, rfl⟩ := hn1; exact pw_below_drewN (Below.refl _ _) nd); clear hn1) | (go_at_call 26; (with_reducible refine (mast_ParseAt.atoi_some km n HA.out HC.out.2.1 _).mono ?_); rintro e w2 ⟨rfl, hb⟩; have hb2 := Aside0.mk (below_step hb1.out hb); clear hb) | (go_at_call 26; (with_reducible refine (mast_ParseAt.atoi_some rest m HB.out HC.out.2.2 _).mono ?_); rintro e w3 ⟨rfl, hb⟩; have hb3 := Aside0.mk (below_step hb2.out hb); clear hb))
    go_ret2
    exact ⟨by rw [← H1.out, ← H2.out]; rfl, hb3.out⟩
   rw [if_neg c1] at h'
   have d1 : decide (n > 100000) = false := decide_eq_false c1
   clear c1
   by_cases c2 : m < 0
   ·
    rw [if_pos c2] at h'
    have d2 : decide (m < 0) = true := decide_eq_true c2
    clear c2
    have H1 := Aside0.mk (congrArg Prod.fst (Option.some.inj h'))
    have H2 := Aside0.mk (congrArg Prod.snd (Option.some.inj h'))
    clear h'
    go_enter Tryz.func9, Tryz.ntmps9
    go_wp2_with (first | (go_at_call 25; (with_reducible refine (strings_Cut.calls a0 ⟨#[43]⟩ km rest ok _ HT.out HCut.out).mono ?_); rintro e w1 ⟨rfl, hn1⟩; have hb1 := Aside0.mk (show Below w.heap.size w w1 by obtain ⟨nd, rfl⟩ := hn1; exact pw_below_drewN (Below.refl _ _) nd); clear hn1) | (go_at_call 26; (with_reducible refine (mast_ParseAt.atoi_some km n HA.out HC.out.2.1 _).mono ?_); rintro e w2 ⟨rfl, hb⟩; have hb2 := Aside0.mk (below_step hb1.out hb); clear hb) | (go_at_call 26; (with_reducible refine (mast_ParseAt.atoi_some rest m HB.out HC.out.2.2 _).mono ?_); rintro e w3 ⟨rfl, hb⟩; have hb3 := Aside0.mk (below_step hb2.out hb); clear hb))
    go_ret2
    exact ⟨by rw [← H1.out, ← H2.out]; rfl, hb3.out⟩
   rw [if_neg c2] at h'
   have d2 : decide (m < 0) = false := decide_eq_false c2
   clear c2
   by_cases c3 : m > 999
   ·
    rw [if_pos c3] at h'
    have d3 : decide (m > 999) = true := decide_eq_true c3
    clear c3
    have H1 := Aside0.mk (congrArg Prod.fst (Option.some.inj h'))
    have H2 := Aside0.mk (congrArg Prod.snd (Option.some.inj h'))
    clear h'
    go_enter Tryz.func9, Tryz.ntmps9
    go_wp2_with (first | (go_at_call 25; (with_reducible refine (strings_Cut.calls a0 ⟨#[43]⟩ km rest ok _ HT.out HCut.out).mono ?_); rintro e w1 ⟨rfl, hn1⟩; have hb1 := Aside0.mk (show Below w.heap.size w w1 by obtain ⟨nd, rfl⟩ := hn1; exact pw_below_drewN (Below.refl _ _) nd); clear hn1) | (go_at_call 26; (with_reducible refine (mast_ParseAt.atoi_some km n HA.out HC.out.2.1 _).mono ?_); rintro e w2 ⟨rfl, hb⟩; have hb2 := Aside0.mk (below_step hb1.out hb); clear hb) | (go_at_call 26; (with_reducible refine (mast_ParseAt.atoi_some rest m HB.out HC.out.2.2 _).mono ?_); rintro e w3 ⟨rfl, hb⟩; have hb3 := Aside0.mk (below_step hb2.out hb); clear hb))
    go_ret2
    exact ⟨by rw [← H1.out, ← H2.out]; rfl, hb3.out⟩
   rw [if_neg c3] at h'
   have d3 : decide (m > 999) = false := decide_eq_false c3
   clear c3
   replace h' := Option.bind_eq_some_iff.mp h'
   obtain ⟨b, Ab0, h'⟩ := h'
   try dsimp only at h'
   have Ab := Aside0.mk Ab0
   clear Ab0
   by_cases cb : b = true
   ·
    subst cb
    rw [if_pos rfl] at h'
    replace h' := Option.bind_eq_some_iff.mp h'
    obtain ⟨t, At0, h'⟩ := h'
    try dsimp only at h'
    have At := Aside0.mk At0
    clear At0
    by_cases ct : t.toList = a0.toList
    ·
     rw [if_pos ct] at h'
     have dt : (t.toList == a0.toList) = true := beq_iff_eq.2 ct
     have dt2 : (t.toList != a0.toList) = false := bne_eq_false_iff_eq.2 ct
     have dt3 : decide (t.toList = a0.toList) = true := decide_eq_true ct
     clear ct
     have H1 := Aside0.mk (congrArg Prod.fst (Option.some.inj h'))
     have H2 := Aside0.mk (congrArg Prod.snd (Option.some.inj h'))
     clear h'
     go_enter Tryz.func9, Tryz.ntmps9
     go_wp2_with (first | (go_at_call 25; (with_reducible refine (strings_Cut.calls a0 ⟨#[43]⟩ km rest ok _ HT.out HCut.out).mono ?_); rintro e w1 ⟨rfl, hn1⟩; have hb1 := Aside0.mk (show Below w.heap.size w w1 by obtain ⟨nd, rfl⟩ := hn1; exact pw_below_drewN (Below.refl _ _) nd); clear hn1) | (go_at_call 26; (with_reducible refine (mast_ParseAt.atoi_some km n HA.out HC.out.2.1 _).mono ?_); rintro e w2 ⟨rfl, hb⟩; have hb2 := Aside0.mk (below_step hb1.out hb); clear hb) | (go_at_call 26; (with_reducible refine (mast_ParseAt.atoi_some rest m HB.out HC.out.2.2 _).mono ?_); rintro e w3 ⟨rfl, hb⟩; have hb3 := Aside0.mk (below_step hb2.out hb); clear hb) | (go_at_call 21; (with_reducible refine (mast_isAt.calls _ true _ Ab.out).mono ?_); rintro e w4 ⟨rfl, hn4⟩; have hb4 := Aside0.mk (show Below w.heap.size w w4 by first | (obtain ⟨nd, rfl⟩ := hn4; exact pw_below_drewN hb3.out nd) | (subst hn4; exact hb3.out)); clear hn4) | (go_at_call 22; (with_reducible refine (mast_at.calls _ t _ (Tab.Tabs.below HT.out hb4.out) At.out).mono ?_); rintro e w5 ⟨rfl, hb⟩; have hb5 := Aside0.mk (below_step hb4.out hb); clear hb))
     go_ret2
     exact ⟨by rw [← H1.out, ← H2.out]; rfl, hb5.out⟩
    ·
     rw [if_neg ct] at h'
     have dt : (t.toList == a0.toList) = false := beq_eq_false_iff_ne.2 ct
     have dt2 : (t.toList != a0.toList) = true := bne_iff_ne.2 ct
     have dt3 : decide (t.toList = a0.toList) = false := decide_eq_false ct
     clear ct
     have H1 := Aside0.mk (congrArg Prod.fst (Option.some.inj h'))
     have H2 := Aside0.mk (congrArg Prod.snd (Option.some.inj h'))
     clear h'
     go_enter Tryz.func9, Tryz.ntmps9
     go_wp2_with (first | (go_at_call 25; (with_reducible refine (strings_Cut.calls a0 ⟨#[43]⟩ km rest ok _ HT.out HCut.out).mono ?_); rintro e w1 ⟨rfl, hn1⟩; have hb1 := Aside0.mk (show Below w.heap.size w w1 by obtain ⟨nd, rfl⟩ := hn1; exact pw_below_drewN (Below.refl _ _) nd); clear hn1) | (go_at_call 26; (with_reducible refine (mast_ParseAt.atoi_some km n HA.out HC.out.2.1 _).mono ?_); rintro e w2 ⟨rfl, hb⟩; have hb2 := Aside0.mk (below_step hb1.out hb); clear hb) | (go_at_call 26; (with_reducible refine (mast_ParseAt.atoi_some rest m HB.out HC.out.2.2 _).mono ?_); rintro e w3 ⟨rfl, hb⟩; have hb3 := Aside0.mk (below_step hb2.out hb); clear hb) | (go_at_call 21; (with_reducible refine (mast_isAt.calls _ true _ Ab.out).mono ?_); rintro e w4 ⟨rfl, hn4⟩; have hb4 := Aside0.mk (show Below w.heap.size w w4 by first | (obtain ⟨nd, rfl⟩ := hn4; exact pw_below_drewN hb3.out nd) | (subst hn4; exact hb3.out)); clear hn4) | (go_at_call 22; (with_reducible refine (mast_at.calls _ t _ (Tab.Tabs.below HT.out hb4.out) At.out).mono ?_); rintro e w5 ⟨rfl, hb⟩; have hb5 := Aside0.mk (below_step hb4.out hb); clear hb))
     go_ret2
     exact ⟨by rw [← H1.out, ← H2.out]; rfl, hb5.out⟩
   ·
    rw [if_neg cb] at h'
    replace cb := Bool.eq_false_iff.mpr cb
    subst cb
    have H1 := Aside0.mk (congrArg Prod.fst (Option.some.inj h'))
    have H2 := Aside0.mk (congrArg Prod.snd (Option.some.inj h'))
    clear h'
    go_enter Tryz.func9, Tryz.ntmps9
    go_wp2_with (first | (go_at_call 25; (with_reducible refine (strings_Cut.calls a0 ⟨#[43]⟩ km rest ok _ HT.out HCut.out).mono ?_); rintro e w1 ⟨rfl, hn1⟩; have hb1 := Aside0.mk (show Below w.heap.size w w1 by obtain ⟨nd, rfl⟩ := hn1; exact pw_below_drewN (Below.refl _ _) nd); clear hn1) | (go_at_call 26; (with_reducible refine (mast_ParseAt.atoi_some km n HA.out HC.out.2.1 _).mono ?_); rintro e w2 ⟨rfl, hb⟩; have hb2 := Aside0.mk (below_step hb1.out hb); clear hb) | (go_at_call 26; (with_reducible refine (mast_ParseAt.atoi_some rest m HB.out HC.out.2.2 _).mono ?_); rintro e w3 ⟨rfl, hb⟩; have hb3 := Aside0.mk (below_step hb2.out hb); clear hb) | (go_at_call 21; (with_reducible refine (mast_isAt.calls _ false _ Ab.out).mono ?_); rintro e w4 ⟨rfl, hn4⟩; have hb4 := Aside0.mk (show Below w.heap.size w w4 by first | (obtain ⟨nd, rfl⟩ := hn4; exact pw_below_drewN hb3.out nd) | (subst hn4; exact hb3.out)); clear hn4))
    go_ret2
    exact ⟨by rw [← H1.out, ← H2.out]; rfl, hb4.out⟩

/-! ### dropperref01_ParseAt: function 10 -/
mutual
def dropperref01_ParseAt.l0 : Nat → ByteArray → Int → Int → Option (Int × Int)
 | 0, _, _, _ => none
 | k + 1, x0, x4, x5 => if x5 < (x0.size : Int) then (dropperref01_ParseAt.j1 k x0 x4 x5 (decide (x5 < 8))) else (dropperref01_ParseAt.j1 k x0 x4 x5 false)
def dropperref01_ParseAt.j1 : Nat → ByteArray → Int → Int → Bool → Option (Int × Int)
 | 0, _, _, _, _ => none
 | k + 1, x0, x4, x5, x13 => if x13 = true then (if 0 ≤ x5 then (if x5 < (x0.size : Int) then (if (bt x0 x5) ≥ 48 then (if (bt x0 x5) ≤ 57 then (dropperref01_ParseAt.l0 k x0 (wrap64 ((wrap64 (10 * x4)) + (((bt x0 x5) - 48) % 256))) (wrap64 (x5 + 1))) else (dropperref01_ParseAt.l0 k x0 x4 (wrap64 (x5 + 1)))) else (dropperref01_ParseAt.l0 k x0 x4 (wrap64 (x5 + 1)))) else (none)) else (none)) else ((dropperref01_isAt.f x4).bind fun t149 => (if t149 = true then ((dropperref01_at.f x4).bind fun t150 => (if t150.toList = x0.toList then (some (x4, 0)) else (some (0, 3)))) else (some (0, 3))))
end
def dropperref01_ParseAt.f (k : Nat) (a0 : ByteArray) : Option (Int × Int) := dropperref01_ParseAt.l0 k a0 0 0
theorem dropperref01_ParseAt.mono_l : ∀ k, (∀ y0 y1 y2, LeO (dropperref01_ParseAt.l0 k y0 y1 y2) (dropperref01_ParseAt.l0 (k + 1) y0 y1 y2)) ∧ (∀ y0 y1 y2 y3, LeO (dropperref01_ParseAt.j1 k y0 y1 y2 y3) (dropperref01_ParseAt.j1 (k + 1) y0 y1 y2 y3))
 | 0 => ⟨fun _ _ _ r h => by simp [dropperref01_ParseAt.l0] at h, fun _ _ _ _ r h => by simp [dropperref01_ParseAt.j1] at h⟩
 | k + 1 => by
  obtain ⟨ih0, ih1⟩ := dropperref01_ParseAt.mono_l k
  refine ⟨?_, ?_⟩
  ·
   intro y0 y1 y2
   unfold dropperref01_ParseAt.l0
   repeat' first
   | (with_reducible exact ih0 _ _ _)
   | (with_reducible exact ih1 _ _ _ _)
   | (with_reducible exact LeO.refl _)
   | (with_reducible exact LeO.none _)
   | (with_reducible refine LeO.ite ?_ ?_)
   | (with_reducible refine LeO.bind ?_ (fun _ => ?_))
   | exact ih0 _ _ _
   | exact ih1 _ _ _ _
   | exact LeO.none _
   | refine LeO.ite ?_ ?_
   | refine LeO.bind ?_ (fun _ => ?_)
  ·
   intro y0 y1 y2 y3
   unfold dropperref01_ParseAt.j1
   repeat' first
   | (with_reducible exact ih0 _ _ _)
   | (with_reducible exact ih1 _ _ _ _)
   | (with_reducible exact LeO.refl _)
   | (with_reducible exact LeO.none _)
   | (with_reducible refine LeO.ite ?_ ?_)
   | (with_reducible refine LeO.bind ?_ (fun _ => ?_))
   | exact ih0 _ _ _
   | exact ih1 _ _ _ _
   | exact LeO.none _
   | refine LeO.ite ?_ ?_
   | refine LeO.bind ?_ (fun _ => ?_)
theorem dropperref01_ParseAt.mono : ∀ a0 k, LeO (dropperref01_ParseAt.f k a0) (dropperref01_ParseAt.f (k + 1) a0) := by
 intro a0 k
 obtain ⟨ih0, ih1⟩ := dropperref01_ParseAt.mono_l k
 unfold dropperref01_ParseAt.f
 repeat' first
   | (with_reducible exact ih0 _ _ _)
   | (with_reducible exact ih1 _ _ _ _)
   | (with_reducible exact LeO.refl _)
   | (with_reducible exact LeO.none _)
   | (with_reducible refine LeO.ite ?_ ?_)
   | (with_reducible refine LeO.bind ?_ (fun _ => ?_))
   | exact ih0 _ _ _
   | exact ih1 _ _ _ _
   | exact LeO.none _
   | refine LeO.ite ?_ ?_
   | refine LeO.bind ?_ (fun _ => ?_)
set_option maxHeartbeats 8000000 in
set_option maxRecDepth 100000 in
theorem dropperref01_ParseAt.calls (k : Nat) (a0 : ByteArray) (r1 : Int) (r2 : Int) (w : World) (h : dropperref01_ParseAt.f k a0 = some (r1, r2)) :
  Calls Tryz.prog 10 #[.string a0] w fun e w' => e = .returned (.tuple #[.int .i64 r1, .int .i64 r2]) ∧ Drawn0 w w' := by
 have H : (dropperref01_ParseAt.l0 k a0 0 0) = some (r1, r2) := h
 clear h
 have H' := Aside0.mk H
 clear H
 go_enter Tryz.func10, Tryz.ntmps10
 go_wp2
 go_loopg [4, 5] k (fun kq v4 v5 w' => ∃ (x4_1 : Int) (x5_1 : Int), v4 = .int .i64 x4_1 ∧ v5 = .int .i64 x5_1 ∧ Aside0 (dropperref01_ParseAt.l0 kq a0 x4_1 x5_1 = some (r1, r2)) ∧ Aside0 (kq ≤ k) ∧ Drawn0 w w')
 case atStart => exact ⟨(0), (0), rsz, rsz, H', ⟨Nat.le_refl _⟩, drz⟩
 case round =>
  clear H'
  try clear c1
  obtain ⟨x4_1, x5_1, rfl, rfl, HA, HK1, ⟨m1, rfl⟩⟩ := hrel
  cases gk with
  | zero => exact absurd HA.out (by simp [dropperref01_ParseAt.l0])
  | succ k1 =>
   have H := HA.out
   clear HA
   simp only [dropperref01_ParseAt.l0] at H
   have HC2 := Aside0.mk H
   clear H
   go_upto_region 3 with (fail)
   go_cut [13] (fun v13 wc => ∃ (kq : Nat) (x13_1 : Bool), v13 = .bool x13_1 ∧ Aside0 (dropperref01_ParseAt.j1 kq a0 x4_1 x5_1 x13_1 = some (r1, r2)) ∧ Aside0 (kq ≤ k1) ∧ Drawn0 w wc)
   case first =>
    have H := HC2.out
    clear HC2
    by_cases c3 : x5_1 < (a0.size : Int)
    ·
     rw [if_pos c3] at H
     have c3b0 : decide (x5_1 < (a0.size : Int)) = true := decide_eq_true c3
     clear c3
     (first | rw [c3b0] | (simp only [i64_w, i32_w]; rw [c3b0]) | skip)
     have H' := Aside0.mk H
     clear H
     go_wp2
     go_meet
     case rel => exact ⟨_, (decide (x5_1 < 8)), rsz, H', ⟨by have := HK1.out; first | omega | exact Nat.le_refl _⟩, drz⟩
    ·
     rw [if_neg c3] at H
     have c3b0 : decide (x5_1 < (a0.size : Int)) = false := decide_eq_false c3
     clear c3
     (first | rw [c3b0] | (simp only [i64_w, i32_w]; rw [c3b0]) | skip)
     have H' := Aside0.mk H
     clear H
     go_wp2
     go_meet
     case rel => exact ⟨_, (false), rsz, H', ⟨by have := HK1.out; first | omega | exact Nat.le_refl _⟩, drz⟩
   case rest =>
    clear HC2
    (try clear c1); (try clear p2); (try clear c3); (try clear c3b0)
    obtain ⟨kq, x13_1, rfl, HA, HJ1, ⟨mc1, rfl⟩⟩ := hcut
    cases kq with
    | zero => exact absurd HA.out (by simp [dropperref01_ParseAt.j1])
    | succ kj1 =>
     have H := HA.out
     clear HA
     simp only [dropperref01_ParseAt.j1] at H
     by_cases c4 : x13_1 = true
     ·
      subst c4
      rw [if_pos rfl] at H
      by_cases c5 : 0 ≤ x5_1
      ·
       rw [if_pos c5] at H
       have c5b0 : decide (0 ≤ x5_1) = true := decide_eq_true c5
       clear c5
       by_cases c6 : x5_1 < (a0.size : Int)
       ·
        rw [if_pos c6] at H
        have c6b0 : decide (x5_1 < (a0.size : Int)) = true := decide_eq_true c6
        clear c6
        by_cases c8 : (bt a0 x5_1) ≥ 48
        ·
         rw [if_pos c8] at H
         have c8b0 : decide (48 ≤ (bt a0 x5_1)) = true := decide_eq_true c8
         clear c8
         by_cases c10 : (bt a0 x5_1) ≤ 57
         ·
          rw [if_pos c10] at H
          have c10b0 : decide ((bt a0 x5_1) ≤ 57) = true := decide_eq_true c10
          clear c10
          have H' := Aside0.mk H
          clear H
          have p7 : 0 ≤ (x5_1 : Int) := of_decide_eq_true asz
          have q7 : x5_1 < (a0.size : Int) := of_decide_eq_true asz
          have hx7 := bt_at a0 x5_1
          replace p7 := eq_true p7
          replace q7 := eq_true q7
          have p9 : 0 ≤ (x5_1 : Int) := of_decide_eq_true asz
          have q9 : x5_1 < (a0.size : Int) := of_decide_eq_true asz
          have hx9 := bt_at a0 x5_1
          replace p9 := eq_true p9
          replace q9 := eq_true q9
          have p11 : 0 ≤ (x5_1 : Int) := of_decide_eq_true asz
          have q11 : x5_1 < (a0.size : Int) := of_decide_eq_true asz
          have hx11 := bt_at a0 x5_1
          replace p11 := eq_true p11
          replace q11 := eq_true q11
          go_wp2
          go_roundg kj1
          case measure => have := HK1.out; have := HJ1.out; omega
          case rel => exact ⟨(wrap64 ((wrap64 (10 * x4_1)) + (((bt a0 x5_1) - 48) % 256))), (wrap64 (x5_1 + 1)), rsz, rsz, H', ⟨by have := HK1.out; have := HJ1.out; omega⟩, drz⟩
         ·
          rw [if_neg c10] at H
          have c10b0 : decide ((bt a0 x5_1) ≤ 57) = false := decide_eq_false c10
          clear c10
          have H' := Aside0.mk H
          clear H
          have p7 : 0 ≤ (x5_1 : Int) := of_decide_eq_true asz
          have q7 : x5_1 < (a0.size : Int) := of_decide_eq_true asz
          have hx7 := bt_at a0 x5_1
          replace p7 := eq_true p7
          replace q7 := eq_true q7
          have p9 : 0 ≤ (x5_1 : Int) := of_decide_eq_true asz
          have q9 : x5_1 < (a0.size : Int) := of_decide_eq_true asz
          have hx9 := bt_at a0 x5_1
          replace p9 := eq_true p9
          replace q9 := eq_true q9
          go_wp2
          go_roundg kj1
          case measure => have := HK1.out; have := HJ1.out; omega
          case rel => exact ⟨(x4_1), (wrap64 (x5_1 + 1)), rsz, rsz, H', ⟨by have := HK1.out; have := HJ1.out; omega⟩, drz⟩
        ·
         rw [if_neg c8] at H
         have c8b0 : decide (48 ≤ (bt a0 x5_1)) = false := decide_eq_false c8
         clear c8
         have H' := Aside0.mk H
         clear H
         have p7 : 0 ≤ (x5_1 : Int) := of_decide_eq_true asz
         have q7 : x5_1 < (a0.size : Int) := of_decide_eq_true asz
         have hx7 := bt_at a0 x5_1
         replace p7 := eq_true p7
         replace q7 := eq_true q7
         go_wp2
         go_roundg kj1
         case measure => have := HK1.out; have := HJ1.out; omega
         case rel => exact ⟨(x4_1), (wrap64 (x5_1 + 1)), rsz, rsz, H', ⟨by have := HK1.out; have := HJ1.out; omega⟩, drz⟩
       ·
        rw [if_neg c6] at H
        exact absurd H (by simp)
      ·
       rw [if_neg c5] at H
       exact absurd H (by simp)
     ·
      replace c4 := Bool.eq_false_iff.mpr c4
      subst c4
      rw [if_neg (show ¬ (false = true) by decide)] at H
      replace H := Option.bind_eq_some_iff.mp H
      obtain ⟨t149, A120, H⟩ := H
      try dsimp only at H
      have A12 := Aside0.mk A120
      clear A120
      by_cases c13 : t149 = true
      ·
       subst c13
       rw [if_pos rfl] at H
       replace H := Option.bind_eq_some_iff.mp H
       obtain ⟨t150, A140, H⟩ := H
       try dsimp only at H
       have A14 := Aside0.mk A140
       clear A140
       by_cases c15 : t150.toList = a0.toList
       ·
        rw [if_pos c15] at H
        have c15b0 : (t150.toList == a0.toList) = true := beq_iff_eq.mpr c15
        have c15b1 : (t150.toList != a0.toList) = false := bne_eq_false_iff_eq.mpr c15
        clear c15
        simp only [Option.some.injEq, Prod.mk.injEq] at H
        obtain ⟨rfl, rfl⟩ := H
        go_wp2_with (first | ((with_reducible refine gate_callee (f := 23) rfl ?_); refine goesL_ (some 35) rfl rfl Tryz.func23 (by kernel_rfl) rfl #[.int .i64 x4_1] rfl mapz ?_; (with_reducible refine (dropperref01_isAt.calls x4_1 true _ A12.out).mono ?_); rintro e w' ⟨rfl, ⟨nd, rfl⟩⟩; refine ⟨_, rfl, ?_⟩) | (go_at_call 24; (with_reducible refine (dropperref01_at.calls x4_1 t150 _ A14.out).mono ?_); rintro e w' ⟨rfl, ⟨nd, rfl⟩⟩))
        go_ret2
        exact ⟨by first | rfl | (simp; done) | (simp [*]; done), drz⟩
       ·
        rw [if_neg c15] at H
        have c15b0 : (t150.toList == a0.toList) = false := beq_eq_false_iff_ne.mpr c15
        have c15b1 : (t150.toList != a0.toList) = true := bne_iff_ne.mpr c15
        simp only [Option.some.injEq, Prod.mk.injEq] at H
        obtain ⟨rfl, rfl⟩ := H
        go_wp2_with (first | ((with_reducible refine gate_callee (f := 23) rfl ?_); refine goesL_ (some 35) rfl rfl Tryz.func23 (by kernel_rfl) rfl #[.int .i64 x4_1] rfl mapz ?_; (with_reducible refine (dropperref01_isAt.calls x4_1 true _ A12.out).mono ?_); rintro e w' ⟨rfl, ⟨nd, rfl⟩⟩; refine ⟨_, rfl, ?_⟩) | (go_at_call 24; (with_reducible refine (dropperref01_at.calls x4_1 t150 _ A14.out).mono ?_); rintro e w' ⟨rfl, ⟨nd, rfl⟩⟩))
        go_ret2
        exact ⟨by first | rfl | (simp; done) | (simp [*]; done), drz⟩
      ·
       replace c13 := Bool.eq_false_iff.mpr c13
       subst c13
       rw [if_neg (show ¬ (false = true) by decide)] at H
       simp only [Option.some.injEq, Prod.mk.injEq] at H
       obtain ⟨rfl, rfl⟩ := H
       go_wp2_with (first | ((with_reducible refine gate_callee (f := 23) rfl ?_); refine goesL_ (some 35) rfl rfl Tryz.func23 (by kernel_rfl) rfl #[.int .i64 x4_1] rfl mapz ?_; (with_reducible refine (dropperref01_isAt.calls x4_1 false _ A12.out).mono ?_); rintro e w' ⟨rfl, ⟨nd, rfl⟩⟩; refine ⟨_, rfl, ?_⟩))
       go_ret2
       exact ⟨by first | rfl | (simp; done) | (simp [*]; done), drz⟩

/-! ### dropperlaw01_MastChainages: function 3 -/
def dropperlaw01_MastChainages.f (k : Nat) (a0 : Int) (a1 : ByteArray) : Option (Bool) := if (a1.size : Int) > 100 then ((dropperlaw01_First.f k).bind fun t151 => (some t151)) else ((mast_FormatAt.f a0).bind fun bt152 => ((dropperref01_FormatAt.f a0).bind fun bt154 => ((mast_ParseAt.f a1).bind fun bt156 => ((dropperref01_ParseAt.f k a1).bind fun bt158 => (if bt152.1.toList = bt154.1.toList then (if bt152.2 = bt154.2 then (if bt156.1 = bt158.1 then (if bt156.2 = bt158.2 then ((dropperlaw01_First.f k).bind fun t160 => (some t160)) else (none)) else (none)) else (none)) else (none))))))
theorem dropperlaw01_MastChainages.mono : ∀ a0 a1 k, LeO (dropperlaw01_MastChainages.f k a0 a1) (dropperlaw01_MastChainages.f (k + 1) a0 a1) := by
 intro a0 a1 k
 unfold dropperlaw01_MastChainages.f
 repeat' first
   | (with_reducible exact dropperlaw01_First.mono _)
   | (with_reducible exact dropperref01_ParseAt.mono _ _)
   | (with_reducible exact LeO.refl _)
   | (with_reducible exact LeO.none _)
   | (with_reducible refine LeO.ite ?_ ?_)
   | (with_reducible refine LeO.bind ?_ (fun _ => ?_))
   | exact dropperlaw01_First.mono _
   | exact dropperref01_ParseAt.mono _ _
   | exact LeO.none _
   | refine LeO.ite ?_ ?_
   | refine LeO.bind ?_ (fun _ => ?_)
set_option maxHeartbeats 8000000 in
set_option maxRecDepth 100000 in
theorem dropperlaw01_MastChainages.calls (k : Nat) (a0 : Int) (a1 : ByteArray) (r : Bool) (w : World) (hT : Tab.Tabs w) (h : dropperlaw01_MastChainages.f k a0 a1 = some r) :
  Calls Tryz.prog 3 #[.int .i64 a0, .string a1] w fun e w' => e = .returned (.bool r) ∧ Below w.heap.size w w' := by
 have HT := Aside0.mk hT
 clear hT
 have HB := Aside0.mk (Below.refl w.heap.size w)
 have H : (if (a1.size : Int) > 100 then ((dropperlaw01_First.f k).bind fun t151 => (some t151)) else ((mast_FormatAt.f a0).bind fun bt152 => ((dropperref01_FormatAt.f a0).bind fun bt154 => ((mast_ParseAt.f a1).bind fun bt156 => ((dropperref01_ParseAt.f k a1).bind fun bt158 => (if bt152.1.toList = bt154.1.toList then (if bt152.2 = bt154.2 then (if bt156.1 = bt158.1 then (if bt156.2 = bt158.2 then ((dropperlaw01_First.f k).bind fun t160 => (some t160)) else (none)) else (none)) else (none)) else (none))))))) = some r := h
 clear h
 by_cases c3 : (a1.size : Int) > 100
 ·
  rw [if_pos c3] at H
  have c3b0 : decide (100 < (a1.size : Int)) = true := decide_eq_true c3
  have c3b1 : decide (100 < a1.size) = true := decide_eq_true (by omega)
  clear c3
  replace H := Option.bind_eq_some_iff.mp H
  obtain ⟨t151, A40, H⟩ := H
  try dsimp only at H
  have A4 := Aside0.mk A40
  clear A40
  obtain rfl := Option.some.inj H
  go_enter Tryz.func3, Tryz.ntmps3
  go_wp2_with (first | ((with_reducible refine gate_callee (f := 6) rfl ?_); refine goesL_ (some 16) rfl rfl Tryz.func6 (by kernel_rfl) rfl #[] rfl mapz ?_; (with_reducible refine (dropperlaw01_First.calls k  t151 _ (tbz HT) A4.out).mono ?_); rintro e w5 ⟨rfl, hb⟩; refine ⟨_, rfl, ?_⟩; replace HB := Aside0.mk (below_step bel hb); clear hb))
  go_ret
  exact ⟨ezz, bel⟩
 ·
  rw [if_neg c3] at H
  have c3b0 : decide (100 < (a1.size : Int)) = false := decide_eq_false c3
  have c3b1 : decide (100 < a1.size) = false := decide_eq_false (by omega)
  clear c3
  replace H := Option.bind_eq_some_iff.mp H
  obtain ⟨⟨t152, t153⟩, A60, H⟩ := H
  try dsimp only at H
  have A6 := Aside0.mk A60
  clear A60
  replace H := Option.bind_eq_some_iff.mp H
  obtain ⟨⟨t154, t155⟩, A70, H⟩ := H
  try dsimp only at H
  have A7 := Aside0.mk A70
  clear A70
  replace H := Option.bind_eq_some_iff.mp H
  obtain ⟨⟨t156, t157⟩, A80, H⟩ := H
  try dsimp only at H
  have A8 := Aside0.mk A80
  clear A80
  replace H := Option.bind_eq_some_iff.mp H
  obtain ⟨⟨t158, t159⟩, A90, H⟩ := H
  try dsimp only at H
  have A9 := Aside0.mk A90
  clear A90
  by_cases c10 : t152.toList = t154.toList
  ·
   rw [if_pos c10] at H
   have c10b0 : (t152.toList == t154.toList) = true := beq_iff_eq.mpr c10
   have c10b1 : (t152.toList != t154.toList) = false := bne_eq_false_iff_eq.mpr c10
   clear c10
   by_cases c11 : t153 = t155
   ·
    rw [if_pos c11] at H
    have c11b0 : (t153 == t155) = true := beq_iff_eq.mpr c11
    have c11b1 : (t153 != t155) = false := bne_eq_false_iff_eq.mpr c11
    clear c11
    by_cases c12 : t156 = t158
    ·
     rw [if_pos c12] at H
     have c12b0 : (t156 == t158) = true := beq_iff_eq.mpr c12
     have c12b1 : (t156 != t158) = false := bne_eq_false_iff_eq.mpr c12
     clear c12
     by_cases c13 : t157 = t159
     ·
      rw [if_pos c13] at H
      have c13b0 : (t157 == t159) = true := beq_iff_eq.mpr c13
      have c13b1 : (t157 != t159) = false := bne_eq_false_iff_eq.mpr c13
      clear c13
      replace H := Option.bind_eq_some_iff.mp H
      obtain ⟨t160, A140, H⟩ := H
      try dsimp only at H
      have A14 := Aside0.mk A140
      clear A140
      obtain rfl := Option.some.inj H
      go_enter Tryz.func3, Tryz.ntmps3
      go_wp2_with (first | ((with_reducible refine gate_callee (f := 7) rfl ?_); refine goesL_ (some 19) rfl rfl Tryz.func7 (by kernel_rfl) rfl #[.int .i64 a0] rfl mapz ?_; (with_reducible refine (mast_FormatAt.calls a0 t152 t153 _ (tbz HT) A6.out).mono ?_); rintro e w15 ⟨rfl, hb⟩; refine ⟨_, rfl, ?_⟩; replace HB := Aside0.mk (below_step bel hb); clear hb) | ((with_reducible refine gate_callee (f := 8) rfl ?_); refine goesL_ (some 24) rfl rfl Tryz.func8 (by kernel_rfl) rfl #[.int .i64 a0] rfl mapz ?_; (with_reducible refine (dropperref01_FormatAt.calls a0 t154 t155 _ A7.out).mono ?_); rintro e w' ⟨rfl, ⟨nd, rfl⟩⟩; refine ⟨_, rfl, ?_⟩) | ((with_reducible refine gate_callee (f := 9) rfl ?_); refine goesL_ (some 29) rfl rfl Tryz.func9 (by kernel_rfl) rfl #[.string a1] rfl mapz ?_; (with_reducible refine (mast_ParseAt.calls a1 t156 t157 _ (tbz HT) A8.out).mono ?_); rintro e w16 ⟨rfl, hb⟩; refine ⟨_, rfl, ?_⟩; replace HB := Aside0.mk (below_step bel hb); clear hb) | ((with_reducible refine gate_callee (f := 10) rfl ?_); refine goesL_ (some 34) rfl rfl Tryz.func10 (by kernel_rfl) rfl #[.string a1] rfl mapz ?_; (with_reducible refine (dropperref01_ParseAt.calls k a1 t158 t159 _ A9.out).mono ?_); rintro e w' ⟨rfl, ⟨nd, rfl⟩⟩; refine ⟨_, rfl, ?_⟩) | (go_at_call 6; (with_reducible refine (dropperlaw01_First.calls k  t160 _ (tbz HT) A14.out).mono ?_); rintro e w17 ⟨rfl, hb⟩; replace HB := Aside0.mk (below_step bel hb); clear hb))
      go_ret
      exact ⟨ezz, bel⟩
     ·
      rw [if_neg c13] at H
      exact absurd H (by simp)
    ·
     rw [if_neg c12] at H
     exact absurd H (by simp)
   ·
    rw [if_neg c11] at H
    exact absurd H (by simp)
  ·
   rw [if_neg c10] at H
   exact absurd H (by simp)


end Go.Proofs.YtcmdcgghpkcchaaGreatDoor.XMast
-- Written by wip/xprint.py of this repo, over the kit's print.py: out of the translation; the oracles in it are by hand. Not trusted: Lean checks it.
namespace Go.Proofs.YtcmdcgghpkcchaaGreatDoor.XMast
open Go.RowKit Go.Proofs.YtcmdcgghpkcchaaGreatDoor.XMast Go.Proofs.YtcmdcgghpkcchaaGreatDoorW.PrintWords Go.Proofs.YtcmdcgghpkcchaaGreatDoorW.PrintLast Go.Proofs.YtcmdcgghpkcchaaGreatDoorW.PrintMore
def dropperlaw01_MastChainages.Pure : Prop := ∀ (a0 : Int) (a1 : ByteArray), ((Lit.int .i64 a0).wf = true) → (a1.size ≤ maxLen) → ∃ k, dropperlaw01_MastChainages.f k a0 a1 = some true
end Go.Proofs.YtcmdcgghpkcchaaGreatDoor.XMast


/- Which lists are lays, as the program and the reference say it. -/
namespace Go.Proofs.YtcmdcgghpkcchaaGreatDoor.Lay
set_option linter.unusedVariables false
set_option linter.unusedSimpArgs false
open Go.RowKit Go.Proofs.YtcmdcgghpkcchaaGreatDoor.XMast Go.Proofs.YtcmdcgghpkcchaaGreatDoorW.PrintWords Go.Proofs.YtcmdcgghpkcchaaGreatDoorW.PrintLast Go.Proofs.YtcmdcgghpkcchaaGreatDoorW.PrintMore
theorem ev_const {α : Type} {o : Option α} {r : α} (h : o = some r) : Ev (fun _ => o) r := ⟨0, fun _ _ => h⟩
theorem ev_pos {α : Type} {c : Prop} [Decidable c] {a b : Nat → Option α} {r : α} (hc : c) (h : Ev a r) : Ev (fun k => if c then a k else b k) r := Ev.congr (fun k => if_pos hc) h
theorem ev_neg {α : Type} {c : Prop} [Decidable c] {a b : Nat → Option α} {r : α} (hc : ¬ c) (h : Ev b r) : Ev (fun k => if c then a k else b k) r := Ev.congr (fun k => if_neg hc) h
theorem ev_some {α β : Type} {a : α} {f : Nat → α → Option β} {r : β} (h : Ev (fun k => f k a) r) : Ev (fun k => (some a).bind (f k)) r := h
theorem ev_one {α : Type} {g : Nat → Option α} {r s : α} {k : Nat} (hg : ∀ k, LeO (g k) (g (k + 1))) (h : Ev g r) (h' : g k = some s) : s = r := by
 obtain ⟨K, hK⟩ := h
 obtain ⟨K', hK'⟩ := Ev.of hg h'
 have h1 := hK (max K K') (Nat.le_max_left _ _)
 have h2 := hK' (max K K') (Nat.le_max_right _ _)
 exact Option.some.inj (h2.symm.trans h1)
theorem wrap_id {x : Int} (h0 : -9223372036854775808 ≤ x) (h1 : x ≤ 9223372036854775807) : wrap64 x = x := by unfold wrap64; omega
theorem wrap_succ {i n : Nat} (h : i < n) (hn : n ≤ 9223372036854775807) : wrap64 ((i : Int) + 1) = ((i + 1 : Nat) : Int) := by rw [wrap_id] <;> omega
theorem rdSt (l : List St) (i : Nat) (h : i < l.length) : rd_T38 l (i : Int) = l[i] := by simp [rd_T38, List.getD_eq_getElem?_getD, h]
open Classical in
noncomputable def okB (l : List St) : Bool := decide (Norm l ∧ l.length ≤ 60)
theorem okB_iff (l : List St) : okB l = true ↔ Norm l ∧ l.length ≤ 60 := by unfold okB; exact @decide_eq_true_iff _ (_)
theorem okB_no {l : List St} (h : ¬ Norm l) : okB l = false := by rw [Bool.eq_false_iff]; intro h'; exact h ((okB_iff l).1 h').1
open Classical in
theorem okB_len {l : List St} (h : Norm l) : okB l = decide ((l.length : Int) ≤ 60) := by
 rw [Bool.eq_iff_iff, okB_iff, decide_eq_true_iff]
 exact ⟨fun ⟨_, h⟩ => by omega, fun h' => ⟨h, by omega⟩⟩
instance (s : St) : Decidable (isSt s) := inferInstanceAs (Decidable (_ ∧ _))
theorem mst (a b : Int) : mast_isStretch.f a b = some (decide (isSt ⟨a, b⟩)) := by
 unfold mast_isStretch.f mast_isAt.f isSt
 by_cases c1 : a ≥ 0 <;> by_cases c2 : a ≤ 100000 <;> by_cases c3 : b ≥ 0 <;> by_cases c4 : b ≤ 100000 <;> simp [c1, c2, c3, c4]
theorem Norm.at_ {l : List St} (h : Norm l) (i : Nat) (hi : i < l.length) : Lay.isSt l[i] := h.isSt _ (List.getElem_mem hi)
theorem Norm.gap {l : List St} (h : Norm l) (i : Nat) (hi : i + 1 < l.length) : l[i].f1 < l[i + 1].f0 := List.pairwise_iff_getElem.1 h.1 i (i + 1) (by omega) hi (by omega)
theorem norm_step {l : List St} {i : Nat} (hi : i < l.length) (h : Norm (l.take i)) (hs : isSt l[i]) (hg : ∀ h : 0 < i, l[i - 1].f1 < l[i].f0) : Norm (l.take (i + 1)) := by
 rw [List.take_succ_eq_append_getElem hi]
 refine Norm.snoc h (fun u hu => ?_) hs.1 hs.2.2.2.2 hs.2.2.2.1
 rcases Nat.eq_zero_or_pos i with h0 | h0
 ·
  subst h0; simp at hu
 ·
  have h1 := hg h0
  obtain ⟨j, hj, rfl⟩ := List.mem_iff_getElem.1 hu
  simp only [List.length_take] at hj
  rw [List.getElem_take]
  by_cases hji : j = i - 1
  ·
   subst hji; exact h1
  ·
   have h2 := List.pairwise_iff_getElem.1 h.1 j (i - 1) (by simp; omega) (by simp; omega) (by omega)
   rw [List.getElem_take, List.getElem_take] at h2
   have h3 := h.2 l[i - 1] (by rw [List.mem_take_iff_getElem]; exact ⟨i - 1, by omega, rfl⟩)
   omega
theorem mvalid (l : List St) (hl : l.length ≤ 9223372036854775806) : Ev (fun k => mast_Valid.f k l) (okB l) := by
 have H : ∀ (d i : Nat), i + d = l.length → Norm (l.take i) → Ev (fun k => mast_Valid.l0 k l l (l.length : Int) (i : Int)) (okB l) := by
  intro d
  induction d with
  | zero =>
   intro i hi hn
   refine Ev.step (fun k => by rw [mast_Valid.l0]) ?_
   refine ev_neg (by omega) (ev_const ?_)
   rw [List.take_of_length_le (by omega)] at hn
   rw [okB_len hn]
  | succ d ih =>
   intro i hi hn
   have hil : i < l.length := by omega
   refine Ev.step (fun k => by rw [mast_Valid.l0]) ?_
   refine ev_pos (by omega) (ev_pos (by omega) (ev_pos (by omega) ?_))
   rw [rdSt l i hil, mst]
   refine ev_some ?_
   by_cases hs : isSt l[i]
   ·
    refine ev_pos (by simpa using hs) ?_
    have hw := wrap_succ hil (by omega)
    by_cases hi0 : 0 < i
    ·
     have e : wrap64 ((i : Int) - 1) = ((i - 1 : Nat) : Int) := by rw [wrap_id] <;> omega
     rw [e, hw, rdSt l (i - 1) (by omega)]
     refine ev_pos (by omega) (ev_pos (by omega) (ev_pos (by omega) ?_))
     by_cases hg : l[i].f0 ≤ l[i - 1].f1
     ·
      refine ev_pos hg (ev_const ?_)
      rw [okB_no]
      intro h
      have h2 := h.gap (i - 1) (by omega)
      have h3 : l[i - 1 + 1] = l[i] := by congr 1; omega
      rw [h3] at h2
      omega
     ·
      exact ev_neg hg (ih (i + 1) (by omega) (norm_step hil hn hs (fun _ => by omega)))
    ·
     refine ev_neg (by omega) ?_
     rw [hw]
     exact ih (i + 1) (by omega) (norm_step hil hn hs (fun h => absurd h hi0))
   ·
    refine ev_neg (by simpa using hs) (ev_const ?_)
    rw [okB_no]
    intro h
    exact hs (h.at_ i hil)
 exact H l.length 0 (by omega) (by simpa using Norm.nil)
theorem mvalid_one {k : Nat} {l : List St} {r : Bool} (hl : l.length ≤ 9223372036854775806) (h : mast_Valid.f k l = some r) : r = okB l := ev_one (mast_Valid.mono l) (mvalid l hl) h
end Go.Proofs.YtcmdcgghpkcchaaGreatDoor.Lay


/- First, the chapter's examples (what it takes of MPlain and MPure, for the seat that does not print the reference). -/
namespace Go.Proofs.YtcmdcgghpkcchaaGreatDoor.Lay
set_option linter.unusedVariables false
set_option linter.unusedSimpArgs false
open Go.RowKit Go.Proofs.YtcmdcgghpkcchaaGreatDoor.XMast Go.Proofs.YtcmdcgghpkcchaaGreatDoorW.PrintWords Go.Proofs.YtcmdcgghpkcchaaGreatDoorW.PrintLast Go.Proofs.YtcmdcgghpkcchaaGreatDoorW.PrintMore
theorem ev_bind1 {α β : Type} {g : Nat → Option α} {f : Nat → α → Option β} {a : α} {r : β} (h : Ev g a) (k : Ev (fun n => f n a) r) : Ev (fun n => (g n).bind (f n)) r := Ev.bind h k
theorem ev_val {α β : Type} {g : Option α} {f : Nat → α → Option β} {a : α} {r : β} (h : g = some a) (k : Ev (fun n => f n a) r) : Ev (fun n => g.bind (f n)) r := by subst h; exact k
def rawOk (l : List St) : Prop := l.length ≤ 200 ∧ ∀ s ∈ l, isSt s
theorem bad_st (x : St) : mast_raw.bad x = !decide (isSt x) := by
 unfold mast_raw.bad
 rw [mst]
 cases decide (isSt x) <;> rfl
theorem mraw (l : List St) : (rawOk l ∧ mast_raw.f l = some 0) ∨ (¬ rawOk l ∧ mast_raw.f l = some 2) := by
 unfold mast_raw.f rawOk
 by_cases h1 : (l.length : Int) > 200
 ·
  exact .inr ⟨fun h => by omega, by rw [if_pos h1]⟩
 ·
  rw [if_neg h1]
  by_cases h2 : l.any mast_raw.bad = true
  ·
   rw [if_pos h2]
   refine .inr ⟨fun h => ?_, rfl⟩
   obtain ⟨x, hx, h3⟩ := List.any_eq_true.1 h2
   rw [bad_st] at h3
   simp [h.2 x hx] at h3
  ·
   rw [if_neg h2]
   refine .inl ⟨⟨by omega, fun s hs => ?_⟩, rfl⟩
   by_cases h3 : isSt s
   ·
    exact h3
   ·
    exact absurd (List.any_eq_true.2 ⟨s, hs, by rw [bad_st]; simp [h3]⟩) h2
theorem Good.perm {ys zs : List Ch} (h : Good ys) (hp : zs.Perm ys) : Good zs := ⟨by rw [hp.length_eq]; exact h.1, fun c hc => h.2 c (hp.mem_iff.1 hc)⟩
theorem good_chg {l : List St} (h : rawOk l) : Good (chg 1 l) := ⟨by rw [chg_length]; have := h.1; omega, fun c hc => chg_mem (.inl rfl) h.2 c hc⟩
def IsLay (Q : Int → Prop) (o : List St) : Prop := Norm o ∧ ∀ x, cov o x ↔ (0 ≤ x ∧ x < 100000 ∧ Q x)
theorem IsLay.same {Q R : Int → Prop} {o o' : List St} (h : IsLay Q o) (h' : IsLay R o') (hq : ∀ x, 0 ≤ x → x < 100000 → (Q x ↔ R x)) : o = o' :=
 Norm.unique h.1 h'.1 fun x => by
  rw [h.2, h'.2]
  constructor
  ·
   rintro ⟨a, b, c⟩; exact ⟨a, b, (hq x a b).1 c⟩
  ·
   rintro ⟨a, b, c⟩; exact ⟨a, b, (hq x a b).2 c⟩
theorem swept_lay (p : Int → Bool) {ys : List Ch} (hg : Good ys) : IsLay (fun x => p (lev ys x) = true) (swept p (srt ys)) := by
 obtain ⟨a, b⟩ := swept_spec p (srt ys) (srt_sorted ys) (hg.perm (srt_perm ys))
 refine ⟨a, fun x => (b x).trans ?_⟩
 rw [lev_perm (srt_perm ys)]
def oftenL (l : List St) (n : Int) : List St := swept (fun lv => decide (n ≤ lv)) (srt (chg 1 l))
theorem often_lay {l : List St} (h : rawOk l) (n : Int) : IsLay (fun x => n ≤ cnt l x) (oftenL l n) := by
 obtain ⟨a, b⟩ := swept_lay (fun lv => decide (n ≤ lv)) (good_chg h)
 refine ⟨a, fun x => (b x).trans ?_⟩
 show (_ ∧ _ ∧ decide (n ≤ lev (chg 1 l) x) = true) ↔ (_ ∧ _ ∧ n ≤ cnt l x)
 rw [lev_chg 1 l x h.2, Int.one_mul, decide_eq_true_iff]
theorem clean_first : mast_Clean.f [⟨5, 9⟩, ⟨0, 5⟩, ⟨20, 30⟩] = some ([⟨0, 9⟩, ⟨20, 30⟩], 0) := by
 have hr : rawOk [⟨5, 9⟩, ⟨0, 5⟩, ⟨20, 30⟩] := ⟨by decide, fun s hs => by
  simp only [List.mem_cons, List.not_mem_nil, or_false] at hs
  rcases hs with rfl | rfl | rfl <;> (unfold isSt; decide)⟩
 have e : oftenL [⟨5, 9⟩, ⟨0, 5⟩, ⟨20, 30⟩] 1 = [⟨0, 9⟩, ⟨20, 30⟩] := by
  refine (often_lay hr 1).same (R := fun x => 1 ≤ cnt [⟨5, 9⟩, ⟨0, 5⟩, ⟨20, 30⟩] x) ⟨?_, fun x => ?_⟩ (fun _ _ _ => Iff.rfl)
  ·
   refine Norm.cons.2 ⟨Norm.cons.2 ⟨Norm.nil, (fun _ h => by cases h), by decide, by decide, by decide⟩, fun u hu => ?_, by decide, by decide, by decide⟩
   rw [List.mem_singleton] at hu
   subst hu
   decide
  ·
   show _ ↔ (_ ∧ _ ∧ 0 < cnt _ x)
   rw [cnt_pos]
   simp only [cov_cons]
   have h := cov_nil x
   constructor
   ·
    rintro (h1 | h1 | h1)
    ·
     refine ⟨by omega, by omega, ?_⟩
     by_cases h2 : x < 5
     ·
      exact .inr (.inl ⟨by omega, by omega⟩)
     ·
      exact .inl ⟨by omega, by omega⟩
    ·
     exact ⟨by omega, by omega, .inr (.inr (.inl h1))⟩
    ·
     exact absurd h1 h
   ·
    rintro ⟨h2, h3, h1 | h1 | h1 | h1⟩
    ·
     exact .inl ⟨by omega, by omega⟩
    ·
     exact .inl ⟨by omega, by omega⟩
    ·
     exact .inr (.inl h1)
    ·
     exact absurd h1 h
 unfold mast_Clean.f mast_Often.f
 rcases mraw [⟨5, 9⟩, ⟨0, 5⟩, ⟨20, 30⟩] with ⟨h, e2⟩ | ⟨h, e2⟩
 ·
  rw [e2]
  show some ((fin (oftenL [⟨5, 9⟩, ⟨0, 5⟩, ⟨20, 30⟩] 1)).1, (fin (oftenL [⟨5, 9⟩, ⟨0, 5⟩, ⟨20, 30⟩] 1)).2) = _
  rw [e]
  rfl
 ·
  exact absurd hr h
theorem first_at : mast_FormatAt.f 12345 = some (⟨#[49, 50, 43, 51, 52, 53]⟩, 0) := by kernel_rfl
theorem first_form : mast_Format.f 10 [⟨0, 9⟩, ⟨20, 30⟩] = some (⟨#[48, 43, 48, 48, 48, 45, 48, 43, 48, 48, 57, 32, 48, 43, 48, 50, 48, 45, 48, 43, 48, 51, 48]⟩, 0) := by kernel_rfl
theorem first_near : mast_Near.f 10 [⟨0, 9⟩, ⟨20, 30⟩] 15 = some (20, 0) := by kernel_rfl
theorem first_ev : Ev (fun k => dropperlaw01_First.f k) true := by
 unfold dropperlaw01_First.f
 refine ev_val first_at (ev_val clean_first (Ev.bind (Ev.of (mast_Format.mono _) first_form) (Ev.bind (Ev.of (mast_Near.mono _ _) first_near) ?_)))
 refine ev_pos rfl (ev_pos rfl (ev_pos rfl (ev_pos rfl (ev_pos ?_ (ev_pos ?_ (Ev.now _))))))
 ·
  exact ByteArray.toList_eq _
 ·
  exact ByteArray.toList_eq _
end Go.Proofs.YtcmdcgghpkcchaaGreatDoor.Lay


/- Chainages: both write the same text, and read back the same number. -/
namespace Go.Proofs.YtcmdcgghpkcchaaGreatDoor.Chain
set_option linter.unusedVariables false
set_option linter.unusedSimpArgs false
open Go.RowKit Go.Proofs.YtcmdcgghpkcchaaGreatDoor.XMast Go.Proofs.YtcmdcgghpkcchaaGreatDoorW.PrintWords Go.Proofs.YtcmdcgghpkcchaaGreatDoorW.PrintLast Go.Proofs.YtcmdcgghpkcchaaGreatDoorW.PrintMore Go.Proofs.YtcmdcgghpkcchaaGreatDoor.Lay
abbrev dg := dropperref01_Dec.dg 10
def three (m : Int) : List UInt8 := dg (m / 100) ++ dg (m / 10 % 10) ++ dg (m % 10)
def atL (n : Int) : List UInt8 := dg (n / 1000) ++ 43 :: three (n % 1000)
def stp (x : Int) (c : UInt8) : Int := if 48 ≤ c.toNat ∧ c.toNat ≤ 57 then wrap64 (wrap64 (10 * x) + (((c.toNat : Int) - 48) % 256)) else x
def kmOk (q : Nat) : Bool := decide (Lib.itoa (Int.ofNat q) = dg (Int.ofNat q)) && decide (mast_ParseAt.A ⟨(dg (Int.ofNat q)).toArray⟩ = some (Int.ofNat q)) && decide ((43 : UInt8) ∉ dg (Int.ofNat q)) && decide ((dg (Int.ofNat q)).length ≤ 3) && decide ((dg (Int.ofNat q)).foldl stp 0 = Int.ofNat q)
def mOk (m : Nat) : Bool := decide ((Lib.itoa (Int.ofNat (1000 + m))).drop 1 = three (Int.ofNat m)) && decide ((Lib.itoa (Int.ofNat (1000 + m))).length = 4) && decide (mast_ParseAt.A ⟨(three (Int.ofNat m)).toArray⟩ = some (Int.ofNat m)) && decide (three (Int.ofNat m) = [UInt8.ofNat (48 + m / 100), UInt8.ofNat (48 + m / 10 % 10), UInt8.ofNat (48 + m % 10)])
theorem tabK : (List.range 101).all kmOk = true := by kernel_rfl
theorem tabM : (List.range 1000).all mOk = true := by kernel_rfl
theorem kmF (q : Int) (h0 : 0 ≤ q) (h1 : q ≤ 100) : Lib.itoa q = dg q ∧ mast_ParseAt.A ⟨(dg q).toArray⟩ = some q ∧ (43 : UInt8) ∉ dg q ∧ (dg q).length ≤ 3 ∧ (dg q).foldl stp 0 = q := by
 obtain ⟨k, rfl⟩ := Int.eq_ofNat_of_zero_le h0
 have h := List.all_eq_true.1 tabK k (List.mem_range.2 (by omega))
 simp only [kmOk, Bool.and_eq_true, decide_eq_true_eq] at h
 exact ⟨h.1.1.1.1, h.1.1.1.2, h.1.1.2, h.1.2, h.2⟩
theorem mF (m : Nat) (h1 : m < 1000) : (Lib.itoa (1000 + (m : Int))).drop 1 = three m ∧ (Lib.itoa (1000 + (m : Int))).length = 4 ∧ mast_ParseAt.A ⟨(three m).toArray⟩ = some (m : Int) ∧ three m = [UInt8.ofNat (48 + m / 100), UInt8.ofNat (48 + m / 10 % 10), UInt8.ofNat (48 + m % 10)] := by
 have h := List.all_eq_true.1 tabM m (List.mem_range.2 h1)
 simp only [mOk, Bool.and_eq_true, decide_eq_true_eq] at h
 have e : (1000 : Int) + (m : Int) = Int.ofNat (1000 + m) := by simp
 rw [e]
 exact ⟨h.1.1.1, h.1.1.2, h.1.2, h.2⟩
theorem ba {a b : ByteArray} (h : a.data.toList = b.data.toList) : a = b := by
 apply ByteArray.ext
 exact Array.toList_inj.1 h
theorem mat (n : Int) (h0 : 0 ≤ n) (h1 : n ≤ 100000) : mast_at.f n = some ⟨(atL n).toArray⟩ := by
 obtain ⟨k1, k2, k3, k4, k5⟩ := kmF (n / 1000) (by omega) (by omega)
 obtain ⟨m, hm⟩ := Int.eq_ofNat_of_zero_le (show 0 ≤ n % 1000 by omega)
 obtain ⟨m1, m2, m3, m4⟩ := mF m (by omega)
 have s1 : (mast_at.txt (n / 1000)).size ≤ 3 := by
  show (Lib.itoa (n / 1000)).toArray.size ≤ 3
  rw [List.size_toArray, k1]; exact k4
 have s2 : (mast_at.txt (1000 + n % 1000)).size = 4 := by
  show (Lib.itoa (1000 + n % 1000)).toArray.size = 4
  rw [List.size_toArray, hm]; exact m2
 unfold mast_at.f
 rw [if_pos ⟨h0, by omega, by omega, by omega, by omega⟩]
 congr 1
 apply ba
 rw [s2]
 show ((mast_at.txt (n / 1000) ++ (⟨#[43]⟩ : ByteArray)) ++ (mast_at.txt (1000 + n % 1000)).extract 1 4).data.toList = (atL n).toArray.toList
 have e1 : ((mast_at.txt (1000 + n % 1000)).extract 1 4).data.toList = three (n % 1000) := by
  rw [ByteArray.data_extract, Array.toList_extract]
  show ((Lib.itoa (1000 + n % 1000)).toArray.toList).extract 1 4 = _
  rw [hm]
  show ((Lib.itoa (1000 + (m : Int))).drop 1).take (4 - 1) = three m
  rw [List.take_of_length_le (by rw [List.length_drop]; omega)]
  exact m1
 rw [ByteArray.data_append, ByteArray.data_append, Array.toList_append, Array.toList_append, e1]
 show ((Lib.itoa (n / 1000)).toArray.toList ++ [43]) ++ three (n % 1000) = _
 rw [k1]
 simp [atL]
theorem dec (a : Int) (h0 : 0 ≤ a) (h1 : a ≤ 1000000) : dropperref01_Dec.f a = some ⟨(dg a).toArray⟩ := by
 unfold dropperref01_Dec.f
 rw [if_pos ⟨h0, h1⟩]
 rfl
theorem dlen (a : Int) : (⟨(dg a).toArray⟩ : ByteArray).size ≤ 10 := by
 show (dg a).toArray.size ≤ 10
 rw [List.size_toArray]
 exact dropperref01_Dec.len 10 a
theorem rat (n : Int) (h0 : 0 ≤ n) (h1 : n ≤ 100000) : dropperref01_at.f n = some ⟨(atL n).toArray⟩ := by
 have e1 : wrap64 (n.tdiv 1000) = n / 1000 := by rw [Int.tdiv_eq_ediv_of_nonneg h0]; unfold wrap64; omega
 have e0 : n.tmod 1000 = n % 1000 := Int.tmod_eq_emod_of_nonneg h0
 have e2 : wrap64 ((n % 1000).tdiv 100) = n % 1000 / 100 := by rw [Int.tdiv_eq_ediv_of_nonneg (by omega)]; unfold wrap64; omega
 have e3 : (wrap64 ((n % 1000).tdiv 10)).tmod 10 = n % 1000 / 10 % 10 := by
  rw [Int.tdiv_eq_ediv_of_nonneg (by omega), show wrap64 (n % 1000 / 10) = n % 1000 / 10 by unfold wrap64; omega]
  exact Int.tmod_eq_emod_of_nonneg (by omega)
 have e4 : n.tmod 10 = n % 1000 % 10 := by rw [Int.tmod_eq_emod_of_nonneg h0]; omega
 have l1 := dlen (n / 1000)
 have l2 := dlen (n % 1000 / 100)
 have l3 := dlen (n % 1000 / 10 % 10)
 have l4 := dlen (n % 1000 % 10)
 have l0 : (⟨#[43]⟩ : ByteArray).size = 1 := rfl
 unfold dropperref01_at.f
 rw [e1, e0, e2, e3, e4, dec _ (by omega) (by omega), Option.bind_some, if_pos (by omega), dec _ (by omega) (by omega), Option.bind_some, if_pos (by rw [ByteArray.size_append]; omega), dec _ (by omega) (by omega), Option.bind_some, if_pos (by rw [ByteArray.size_append, ByteArray.size_append]; omega), dec _ (by omega) (by omega), Option.bind_some, if_pos (by rw [ByteArray.size_append, ByteArray.size_append, ByteArray.size_append]; omega)]
 congr 1
 apply ba
 simp [atL, three, ByteArray.data_append]
/-! ### reading -/
theorem stp_dot (x : Int) : stp x 43 = x := by unfold stp; rw [if_neg (by decide)]
theorem stp_dig (x : Int) (d : Nat) (hd : d ≤ 9) (h0 : 0 ≤ x) (h1 : x ≤ 1000000) : stp x (UInt8.ofNat (48 + d)) = 10 * x + d := by
 have e : (UInt8.ofNat (48 + d)).toNat = 48 + d := by rw [UInt8.toNat_ofNat']; omega
 unfold stp
 rw [e, if_pos ⟨by omega, by omega⟩, wrap_id (x := 10 * x) (by omega) (by omega)]
 unfold wrap64
 omega
theorem val_at (n : Int) (h0 : 0 ≤ n) (h1 : n ≤ 100000) : (atL n).foldl stp 0 = n ∧ (atL n).length ≤ 7 := by
 obtain ⟨k1, k2, k3, k4, k5⟩ := kmF (n / 1000) (by omega) (by omega)
 obtain ⟨m, hm⟩ := Int.eq_ofNat_of_zero_le (show 0 ≤ n % 1000 by omega)
 obtain ⟨m1, m2, m3, m4⟩ := mF m (by omega)
 have hm' : n % 1000 = (m : Int) := hm
 have s1 := stp_dig (n / 1000) (m / 100) (by omega) (by omega) (by omega)
 have s2 := stp_dig (10 * (n / 1000) + ((m / 100 : Nat) : Int)) (m / 10 % 10) (by omega) (by omega) (by omega)
 have s3 := stp_dig (10 * (10 * (n / 1000) + ((m / 100 : Nat) : Int)) + ((m / 10 % 10 : Nat) : Int)) (m % 10) (by omega) (by omega) (by omega)
 unfold atL
 rw [hm', m4]
 constructor
 ·
  rw [List.foldl_append, List.foldl_cons, k5, stp_dot, List.foldl_cons, List.foldl_cons, List.foldl_cons, List.foldl_nil, s1, s2, s3]
  omega
 ·
  simp
  omega
/-! ### FormatAt -/
theorem mis (x : Int) : mast_isAt.f x = some (decide (0 ≤ x ∧ x ≤ 100000)) := by
 unfold mast_isAt.f
 by_cases h : x ≥ 0
 ·
  rw [if_pos h]; congr 1; by_cases h2 : x ≤ 100000
  ·
   rw [decide_eq_true h2, decide_eq_true ⟨h, h2⟩]
  ·
   rw [decide_eq_false h2, decide_eq_false (fun h3 => h2 h3.2)]
 ·
  rw [if_neg h, decide_eq_false (fun h3 => h h3.1)]
theorem ris (x : Int) : dropperref01_isAt.f x = some (decide (0 ≤ x ∧ x ≤ 100000)) := by
 unfold dropperref01_isAt.f
 by_cases h : x ≥ 0
 ·
  rw [if_pos h]; congr 1; by_cases h2 : x ≤ 100000
  ·
   rw [decide_eq_true h2, decide_eq_true ⟨h, h2⟩]
  ·
   rw [decide_eq_false h2, decide_eq_false (fun h3 => h2 h3.2)]
 ·
  rw [if_neg h, decide_eq_false (fun h3 => h h3.1)]
theorem format (n : Int) : ∃ r, mast_FormatAt.f n = some r ∧ dropperref01_FormatAt.f n = some r := by
 unfold mast_FormatAt.f dropperref01_FormatAt.f
 rw [mis, ris, Option.bind_some, Option.bind_some]
 by_cases h : 0 ≤ n ∧ n ≤ 100000
 ·
  rw [if_pos (decide_eq_true h), if_pos (decide_eq_true h), mat n h.1 h.2, rat n h.1 h.2]
  exact ⟨_, rfl, rfl⟩
 ·
  rw [if_neg (by simpa using h), if_neg (by simpa using h)]
  exact ⟨_, rfl, rfl⟩
/-! ### ParseAt -/
def reads (s : ByteArray) (r : Int × Int) : Prop := (∃ n, 0 ≤ n ∧ n ≤ 100000 ∧ atL n = s.data.toList ∧ r = (n, 0)) ∨ ((∀ n, 0 ≤ n → n ≤ 100000 → atL n ≠ s.data.toList) ∧ r = (0, 3))
theorem reads.unique {s : ByteArray} {r r' : Int × Int} (h : reads s r) (h' : reads s r') : r = r' := by
 rcases h with ⟨n, a, b, c, rfl⟩ | ⟨a, rfl⟩ <;> rcases h' with ⟨n', a', b', c', rfl⟩ | ⟨a', rfl⟩
 ·
  have h1 := (val_at n a b).1
  have h2 := (val_at n' a' b').1
  rw [c] at h1
  rw [c'] at h2
  rw [← h1, ← h2]
 ·
  exact absurd c (a' n a b)
 ·
  exact absurd c' (a n' a' b')
 ·
  rfl
theorem evV {α β : Type} {g : Option α} {f : Nat → α → Option β} {a : α} {r : β} (h : g = some a) (k : Ev (fun n => f n a) r) : Ev (fun n => g.bind (f n)) r := by subst h; exact k
theorem idx : ∀ (x y : List UInt8), (43 : UInt8) ∉ x → Lib.index (x ++ 43 :: y) [43] = (x.length : Int)
 | [], y, _ => by
  rw [List.nil_append, Lib.index, if_pos (by simp [List.isPrefixOf])]
  rfl
 | b :: x, y, h => by
  have hb : b ≠ 43 := fun e => h (by rw [e]; exact List.mem_cons_self)
  have ih := idx x y (fun e => h (List.mem_cons_of_mem _ e))
  have h1 : ¬ ([43].isPrefixOf (b :: (x ++ 43 :: y)) = true) := by
   simp [List.isPrefixOf]
   exact fun e => hb e.symm
  rw [List.cons_append, Lib.index, if_neg h1, ih, if_neg (by simp), List.length_cons]
  omega
theorem cut_dot (x y : List UInt8) (h : (43 : UInt8) ∉ x) : Lib.cut (x ++ 43 :: y) [43] = (x, y, true) := by
 unfold Lib.cut
 rw [idx x y h, if_pos (by omega)]
 have e : ((x.length : Int)).toNat = x.length := by omega
 rw [e, List.take_left']
 ·
  congr 2
  show (x ++ 43 :: y).drop (x.length + 1) = y
  rw [← List.drop_drop, List.drop_left']
  ·
   rfl
  ·
   rfl
 ·
  rfl
theorem cut_len (l : List UInt8) : (Lib.cut l [43]).1.length ≤ l.length ∧ (Lib.cut l [43]).2.1.length ≤ l.length := by
 unfold Lib.cut
 split
 ·
  constructor
  ·
   show (l.take _).length ≤ _
   rw [List.length_take]; omega
  ·
   show (l.drop _).length ≤ _
   rw [List.length_drop]; omega
 ·
  simp
theorem of_list (l : List UInt8) : (⟨l.toArray⟩ : ByteArray).data.toList = l := by simp
theorem mast_reads (s : ByteArray) (hs : s.size ≤ 100) : ∃ r, mast_ParseAt.f s = some r ∧ reads s r := by
 have hl := cut_len s.data.toList
 have hsz : s.data.toList.length = s.size := Array.length_toList
 have k1 : (mast_ParseAt.km s).size ≤ 1000000 := by
  show (Lib.cut s.data.toList [43]).1.toArray.size ≤ 1000000
  rw [List.size_toArray]; omega
 have k2 : (mast_ParseAt.rest s).size ≤ 1000000 := by
  show (Lib.cut s.data.toList [43]).2.1.toArray.size ≤ 1000000
  rw [List.size_toArray]; omega
 unfold mast_ParseAt.f
 rw [if_pos ⟨by omega, k1, k2⟩]
 by_cases hx : ∃ n, 0 ≤ n ∧ n ≤ 100000 ∧ atL n = s.data.toList
 ·
  obtain ⟨n, h0, h1, h2⟩ := hx
  obtain ⟨a1, a2, a3, a4, a5⟩ := kmF (n / 1000) (by omega) (by omega)
  obtain ⟨m, hm⟩ := Int.eq_ofNat_of_zero_le (show 0 ≤ n % 1000 by omega)
  obtain ⟨m1, m2, m3, m4⟩ := mF m (by omega)
  have hc : Lib.cut s.data.toList [43] = (dg (n / 1000), three (n % 1000), true) := by rw [← h2]; exact cut_dot _ _ a3
  have e1 : mast_ParseAt.km s = ⟨(dg (n / 1000)).toArray⟩ := by unfold mast_ParseAt.km; rw [hc]
  have e2 : mast_ParseAt.rest s = ⟨(three (m : Int)).toArray⟩ := by unfold mast_ParseAt.rest; rw [hc, hm]
  rw [e1, e2, a2, m3]
  refine ⟨(n, 0), ?_, .inl ⟨n, h0, h1, h2, rfl⟩⟩
  show mast_ParseAt.two s (n / 1000) (m : Int) = _
  have ev : wrap64 (wrap64 (n / 1000 * 1000) + (m : Int)) = n := by rw [wrap_id (x := n / 1000 * 1000) (by omega) (by omega), wrap_id (by omega) (by omega)]; omega
  unfold mast_ParseAt.two
  rw [if_neg (by omega), if_neg (by omega), if_neg (by omega), if_neg (by omega), ev, mis, Option.bind_some, if_pos (decide_eq_true ⟨h0, h1⟩), mat n h0 h1, Option.bind_some, if_pos]
  rw [ByteArray.toList_eq, ByteArray.toList_eq, of_list]
  exact h2
 ·
  have no : ∀ n, 0 ≤ n → n ≤ 100000 → atL n ≠ s.data.toList := fun n a b c => hx ⟨n, a, b, c⟩
  refine ⟨(0, 3), ?_, .inr ⟨no, rfl⟩⟩
  cases hA : mast_ParseAt.A (mast_ParseAt.km s) with
  | none => rfl
  | some q =>
   cases hB : mast_ParseAt.A (mast_ParseAt.rest s) with
   | none => rfl
   | some m =>
    show mast_ParseAt.two s q m = some (0, 3)
    unfold mast_ParseAt.two
    by_cases c1 : q < 0
    ·
     rw [if_pos c1]
    by_cases c2 : q > 100000
    ·
     rw [if_neg c1, if_pos c2]
    by_cases c3 : m < 0
    ·
     rw [if_neg c1, if_neg c2, if_pos c3]
    by_cases c4 : m > 999
    ·
     rw [if_neg c1, if_neg c2, if_neg c3, if_pos c4]
    rw [if_neg c1, if_neg c2, if_neg c3, if_neg c4, mis, Option.bind_some]
    generalize wrap64 (wrap64 (q * 1000) + m) = v
    by_cases hv : 0 ≤ v ∧ v ≤ 100000
    ·
     rw [if_pos (decide_eq_true hv), mat v hv.1 hv.2, Option.bind_some, if_neg]
     rw [ByteArray.toList_eq, ByteArray.toList_eq, of_list]
     exact no v hv.1 hv.2
    ·
     rw [if_neg (by simpa using hv)]
theorem ref_end (s : ByteArray) (v : Int) (hv : ∀ n, 0 ≤ n → n ≤ 100000 → atL n = s.data.toList → v = n) (i : Int) : ∃ r, Ev (fun k => dropperref01_ParseAt.j1 k s v i false) r ∧ reads s r := by
 by_cases h : 0 ≤ v ∧ v ≤ 100000
 ·
  by_cases ht : atL v = s.data.toList
  ·
   refine ⟨(v, 0), ?_, .inl ⟨v, h.1, h.2, ht, rfl⟩⟩
   refine Ev.step (fun k => by rw [dropperref01_ParseAt.j1]) (ev_neg (by simp) (evV (ris v) (ev_pos (decide_eq_true h) (evV (rat v h.1 h.2) (ev_pos ?_ (Ev.now _))))))
   rw [ByteArray.toList_eq, ByteArray.toList_eq, of_list]
   exact ht
  ·
   refine ⟨(0, 3), ?_, .inr ⟨fun n a b c => ht (by rw [hv n a b c]; exact c), rfl⟩⟩
   refine Ev.step (fun k => by rw [dropperref01_ParseAt.j1]) (ev_neg (by simp) (evV (ris v) (ev_pos (decide_eq_true h) (evV (rat v h.1 h.2) (ev_neg ?_ (Ev.now _))))))
   rw [ByteArray.toList_eq, ByteArray.toList_eq, of_list]
   exact ht
 ·
  refine ⟨(0, 3), ?_, .inr ⟨fun n a b c => h (by rw [hv n a b c]; exact ⟨a, b⟩), rfl⟩⟩
  exact Ev.step (fun k => by rw [dropperref01_ParseAt.j1]) (ev_neg (by simp) (evV (ris v) (ev_neg (fun e => h (of_decide_eq_true e)) (Ev.now _))))
theorem bt_list (s : ByteArray) (i : Nat) (h : i < s.data.toList.length) : bt s (i : Int) = (s.data.toList[i].toNat : Int) := by
 have h' : (i : Int).toNat < s.size := by
  rw [Array.length_toList] at h
  exact h
 rw [← bt_at s (i : Int) h']
 rfl
theorem ref_reads (s : ByteArray) (hs : s.size ≤ 100) : ∃ r, Ev (fun k => dropperref01_ParseAt.f k s) r ∧ reads s r := by
 have hsz : s.data.toList.length = s.size := Array.length_toList
 have hv : ∀ n, 0 ≤ n → n ≤ 100000 → atL n = s.data.toList → (s.data.toList.take 8).foldl stp 0 = n := fun n a b c => by
  obtain ⟨h1, h2⟩ := val_at n a b
  rw [← c, List.take_of_length_le (by omega)]
  exact h1
 obtain ⟨r, hr, hrr⟩ := ref_end s ((s.data.toList.take 8).foldl stp 0) hv ((min s.data.toList.length 8 : Nat) : Int)
 refine ⟨r, ?_, hrr⟩
 unfold dropperref01_ParseAt.f
 have H : ∀ (d i : Nat), i + d = min s.data.toList.length 8 → Ev (fun k => dropperref01_ParseAt.l0 k s (((s.data.toList.take 8).take i).foldl stp 0) (i : Int)) r := by
  intro d
  induction d with
  | zero =>
   intro i hi
   have e : i = min s.data.toList.length 8 := by omega
   subst e
   rw [List.take_of_length_le (l := s.data.toList.take 8) (by rw [List.length_take]; omega)]
   refine Ev.step (fun k => by rw [dropperref01_ParseAt.l0]) ?_
   by_cases hc : ((min s.data.toList.length 8 : Nat) : Int) < (s.size : Int)
   ·
    refine ev_pos hc ?_
    rw [decide_eq_false (by omega)]
    exact hr
   ·
    exact ev_neg hc hr
  | succ d ih =>
   intro i hi
   have hil : i < s.data.toList.length := by omega
   have hi8 : i < 8 := by omega
   have ih1 := ih (i + 1) (by omega)
   have hT : i < (s.data.toList.take 8).length := by rw [List.length_take]; omega
   rw [List.take_succ_eq_append_getElem hT, List.foldl_append, List.getElem_take] at ih1
   refine Ev.step (fun k => by rw [dropperref01_ParseAt.l0]) (ev_pos (by omega) ?_)
   rw [decide_eq_true (show (i : Int) < 8 by omega)]
   refine Ev.step (fun k => by rw [dropperref01_ParseAt.j1]) (ev_pos rfl (ev_pos (by omega) (ev_pos (by omega) ?_)))
   rw [bt_list s i hil, wrap_succ (n := s.size) (by omega) (by omega)]
   generalize ((s.data.toList.take 8).take i).foldl stp 0 = X at ih1 ⊢
   generalize s.data.toList[i] = c at ih1 ⊢
   rw [List.foldl_cons, List.foldl_nil] at ih1
   unfold stp at ih1
   by_cases c1 : (c.toNat : Int) ≥ 48
   ·
    by_cases c2 : (c.toNat : Int) ≤ 57
    ·
     rw [if_pos (by omega)] at ih1
     exact ev_pos c1 (ev_pos c2 ih1)
    ·
     rw [if_neg (by omega)] at ih1
     exact ev_pos c1 (ev_neg c2 ih1)
   ·
    rw [if_neg (by omega)] at ih1
    exact ev_neg c1 ih1
 exact H (min s.data.toList.length 8) 0 (by omega)
theorem parse (s : ByteArray) (hs : s.size ≤ 100) : ∃ r, mast_ParseAt.f s = some r ∧ Ev (fun k => dropperref01_ParseAt.f k s) r := by
 obtain ⟨r, h1, h2⟩ := mast_reads s hs
 obtain ⟨r', h3, h4⟩ := ref_reads s hs
 obtain rfl := h2.unique h4
 exact ⟨r, h1, h3⟩
end Go.Proofs.YtcmdcgghpkcchaaGreatDoor.Chain


/- The text of a chainage, and the chainage of any text: program and reference answer the same. -/
namespace Go.Proofs.YtcmdcgghpkcchaaGreatDoor.Pure
set_option linter.unusedVariables false
set_option linter.unusedSimpArgs false
open Go.RowKit Go.Proofs.YtcmdcgghpkcchaaGreatDoor.XMast Go.Proofs.YtcmdcgghpkcchaaGreatDoorW.PrintWords Go.Proofs.YtcmdcgghpkcchaaGreatDoorW.PrintLast Go.Proofs.YtcmdcgghpkcchaaGreatDoorW.PrintMore
open Go.Proofs.YtcmdcgghpkcchaaGreatDoor.Lay
theorem MastChainages : dropperlaw01_MastChainages.Pure := by
 intro n s _ _
 refine Ev.rounds (r := true) (g := fun k => dropperlaw01_MastChainages.f k n s) ?_
 unfold dropperlaw01_MastChainages.f
 by_cases h : (s.size : Int) > 100
 ·
  exact ev_pos h (Ev.bind first_ev (Ev.now _))
 obtain ⟨r, r1, r2⟩ := Chain.format n
 obtain ⟨t, t1, t2⟩ := Chain.parse s (by omega)
 exact ev_neg h (ev_val r1 (ev_val r2 (ev_val t1 (Ev.bind t2 (ev_pos rfl (ev_pos rfl (ev_pos rfl (ev_pos rfl (Ev.bind first_ev (Ev.now _)))))))))) 
end Go.Proofs.YtcmdcgghpkcchaaGreatDoor.Pure

namespace Go.Proofs.YtcmdcgghpkcchaaGreatDoor.Open
open Go.RowKit Go.Proofs.YtcmdcgghpkcchaaGreatDoorW.PrintWords Go.Proofs.YtcmdcgghpkcchaaGreatDoorW.PrintLast Go.Proofs.YtcmdcgghpkcchaaGreatDoorW.PrintMore
set_option linter.unusedVariables false
set_option linter.unusedSimpArgs false
/-! What an argument of a type reads as, in the print's kinds. -/
def Opens {α : Type} (P : Program) (t : TypeId) (kd : Kd α) (G : α → Prop) : Prop :=
 ∀ (H : Type) (enc : TypeId × Value → H) (W : World) (fuel : Nat) (cs : List Value) (x : DataW H × List MemPlace), DataW.trod enc P W 0 (fun _ => true) true fuel t cs = some x → ∃ a, kd.K W a cs ∧ G a
section
variable {P : Program} {t e : TypeId} {α β : Type} {kd : Kd α} {G : α → Prop}
theorem opens_int {k : IntKind} (hu : P.underlying t = some (.int k)) : Opens P t (Kd.int k) (fun n => (Lit.int k n).wf = true) := by
 intro H enc W fuel cs x h
 obtain ⟨n, rfl, _, hw⟩ := DataW.trod_int hu h
 exact ⟨n, rfl, hw⟩
theorem opens_bool (hu : P.underlying t = some .bool) : Opens P t Kd.bool (fun _ => True) := by
 intro H enc W fuel cs x h
 obtain ⟨b, rfl, _⟩ := DataW.trod_bool hu h
 exact ⟨b, rfl, trivial⟩
theorem opens_string (hu : P.underlying t = some .string) : Opens P t Kd.string (fun s => s.size ≤ maxLen) := by
 intro H enc W fuel cs x h
 obtain ⟨s, rfl, _, hs⟩ := DataW.trod_string hu h
 exact ⟨s, rfl, hs⟩
theorem exists_list {Q : Nat → α → Prop} : ∀ n, (∀ i, i < n → ∃ x, Q i x) → ∃ xs : List α, xs.length = n ∧ ∀ i x, xs[i]? = some x → Q i x := by
 intro n
 induction n with
 | zero => intro _; exact ⟨[], rfl, fun i x h => by simp at h⟩
 | succ n ih =>
  intro h
  obtain ⟨xs, hl, hq⟩ := ih (fun i hi => h i (by omega))
  obtain ⟨x, hx⟩ := h n (by omega)
  refine ⟨xs ++ [x], by simp [hl], fun i y hy => ?_⟩
  by_cases hi : i < n
  ·
   rw [List.getElem?_append_left (by omega)] at hy
   exact hq i y hy
  ·
   rw [List.getElem?_append_right (by omega)] at hy
   have : i - xs.length = 0 := by
    have := (List.getElem?_eq_some_iff.1 hy).1
    simp at this; omega
   rw [this] at hy
   have hin : i = n := by omega
   subst hin
   simp at hy
   subst hy
   exact hx
theorem add_add (a : Addr) (m n : Nat) : (a.add m).add n = a.add (m + n) := by
 unfold Addr.add
 by_cases h1 : m = 0
 ·
  subst h1; simp
 ·
  by_cases h2 : n = 0
  ·
   subst h2; simp [h1]
  ·
   have : ¬ m + n = 0 := by omega
   simp [h1, h2, this, Nat.add_assoc]
theorem opens_slice (hu : P.underlying t = some (.slice e)) (he : Opens P e kd G) (hc : P.cellsOf e = kd.sz) : Opens P t (Kd.slice e kd) (fun l => l.length ≤ 9223372036854775807 ∧ ∀ x ∈ l, G x) := by
 intro H enc W fuel cs x h
 rcases DataW.trod_slice hu h with ⟨rfl, _⟩ | ⟨a, len, cap, elems, rest, n, _, rfl, _, hb, hl, hm, hlen, hel, _, _⟩
 ·
  exact ⟨[], ⟨none, 0, rfl, Nat.le_refl _, rfl, by simp, fun h => absurd h (by simp)⟩, by simp, fun x hx => by simp at hx⟩
 ·
  have hx : ∀ i, i < len → ∃ y : α, (∃ c, c.length = kd.sz ∧ kd.K W y c ∧ ∀ j u, c[j]? = some u → W.cell? (a.add (i * kd.sz + j)) = some u) ∧ G y := by
   intro i hi
   have h1 := hel i hi
   rw [List.getElem?_eq_getElem (by omega)] at h1
   obtain ⟨c, hc1, hc2⟩ := Option.bind_eq_some_iff.1 h1
   obtain ⟨y, hk, hg⟩ := he H enc W n c _ hc2
   obtain ⟨_, hcl, hcell⟩ := World.cells?_some hc1
   refine ⟨y, ⟨c, kd.K_len hk, hk, fun j u hj => ?_⟩, hg⟩
   rw [hc] at hcell
   have := hcell j (by have := (List.getElem?_eq_some_iff.1 hj).1; have := kd.K_len hk; omega)
   rw [← add_add, this, hj]
  obtain ⟨xs, hxl, hxq⟩ := exists_list len hx
  have hmax : len ≤ 9223372036854775807 := by unfold maxLen at hm; omega
  refine ⟨xs, ⟨some a, cap, by rw [hxl], by omega, rfl, by omega, fun _ => ⟨a, rfl, fun j p hj => (hxq j p hj).1⟩⟩, by omega, fun y hy => ?_⟩
  obtain ⟨i, hi, rfl⟩ := List.mem_iff_getElem.1 hy
  exact (hxq i xs[i] (List.getElem?_eq_getElem hi)).2
def OpensF (P : Program) (fs : List Field) (off : Nat) (kd : Kd α) (G : α → Prop) : Prop :=
 ∀ (H : Type) (enc : TypeId × Value → H) (W : World) (fuel : Nat) (cs : List Value) (xs : List (DataW H × List MemPlace)), xs.length = fs.length → cs.length = off + kd.sz →
  (∀ (i : Nat) (f : Field), fs[i]? = some f → DataW.trod enc P W 0 (fun _ => true) true fuel f.type ((cs.drop f.offset).take (P.cellsOf f.type)) = xs[i]?) → ∃ a, kd.K W a (cs.drop off) ∧ G a
theorem opensF_one {f : Field} {off : Nat} (ho : f.offset = off) (hc : P.cellsOf f.type = kd.sz) (h : Opens P f.type kd G) : OpensF P [f] off kd G := by
 intro H enc W fuel cs xs hl hcs hx
 have h0 := hx 0 f rfl
 rw [List.getElem?_eq_getElem (by rw [hl]; simp), ho, hc, List.take_of_length_le (by rw [List.length_drop]; omega)] at h0
 exact h H enc W fuel _ _ h0
theorem opensF_cons {f : Field} {fs : List Field} {off : Nat} {ka : Kd α} {kb : Kd β} {Ga : α → Prop} {Gb : β → Prop} (ho : f.offset = off) (hc : P.cellsOf f.type = ka.sz) (h : Opens P f.type ka Ga) (hr : OpensF P fs (off + ka.sz) kb Gb) :
  OpensF P (f :: fs) off (Kd.pair ka kb) (fun p => Ga p.1 ∧ Gb p.2) := by
 intro H enc W fuel cs xs hl hcs hx
 have hcs' : cs.length = off + (ka.sz + kb.sz) := hcs
 match xs, hl with
 | x0 :: xs', hl =>
  have h0 := hx 0 f rfl
  rw [ho, hc] at h0
  obtain ⟨a, ha, hga⟩ := h H enc W fuel _ x0 h0
  obtain ⟨b, hb, hgb⟩ := hr H enc W fuel cs xs' (by simpa using hl) (by omega) (fun i f' hf' => hx (i + 1) f' (by simpa using hf'))
  refine ⟨(a, b), ⟨_, _, ?_, ha, hb⟩, hga, hgb⟩
  rw [← List.drop_drop, List.take_append_drop]
theorem opens_struct {fs : Array Field} (hu : P.underlying t = some (.struct fs)) (hc : P.cellsOf t = kd.sz) (h : OpensF P fs.toList 0 kd G) : Opens P t kd G := by
 intro H enc W fuel cs x hx
 obtain ⟨xs, n, _, _, hl, hxl, hf⟩ := DataW.trod_struct hu hx
 obtain ⟨a, ha, hg⟩ := h H enc W n cs xs (by rw [hxl]; simp) (by omega) (fun i f hf' => hf i f (by simpa using hf'))
 exact ⟨a, ha, hg⟩
theorem opens_iso {f : β → α} (g : α → β) (hfg : ∀ y, f (g y) = y) (h : Opens P t kd G) : Opens P t (Kd.iso kd f) (fun b => G (f b)) := by
 intro H enc W fuel cs x hx
 obtain ⟨a, ha, hg⟩ := h H enc W fuel cs x hx
 exact ⟨g a, by show kd.K W (f (g a)) cs; rw [hfg]; exact ha, by show G (f (g a)); rw [hfg]; exact hg⟩
theorem okWide_array {n : Nat} {w : World} {r : Reach} {base : Nat} {v : Value} (ht : P.underlying t = some (.array n e)) (h : Value.okWide P w r base t v) : ∃ cs, v = .agg cs ∧ cs.size = P.cellsOf t := by
 simp only [Value.okWide, ht] at h
 obtain ⟨cs, h1, h2, _⟩ := h
 exact ⟨cs, h1, h2⟩
theorem agg_of {cs : Array Value} {l : List Value} (h : (Value.agg cs).cells.toList = l) : cs = l.toArray := by
 have h' : cs.toList = l := h
 rw [← h']
theorem opens_two (hu : P.underlying t = some (.array 2 e)) (hce : P.cellsOf e = kd.sz) (hc : P.cellsOf t = kd.sz + kd.sz) (h : Opens P e kd G) : Opens P t (Kd.pair kd kd) (fun p => G p.1 ∧ G p.2) := by
 intro H enc W fuel cs x hx
 obtain ⟨xs, n, _, _, hl, hxl, hf⟩ := DataW.trod_array hu hx
 have h0 := hf 0 (by omega)
 have h1 := hf 1 (by omega)
 rw [hce] at h0 h1
 rw [List.getElem?_eq_getElem (by omega)] at h0 h1
 obtain ⟨a, ha, ga⟩ := h H enc W n _ _ h0
 obtain ⟨b, hb, gb⟩ := h H enc W n _ _ h1
 refine ⟨(a, b), ⟨_, _, ?_, ha, hb⟩, ga, gb⟩
 rw [Nat.zero_mul, List.drop_zero, Nat.one_mul, List.take_of_length_le (l := cs.drop kd.sz) (by rw [List.length_drop]; omega), List.take_append_drop]
end
end Go.Proofs.YtcmdcgghpkcchaaGreatDoor.Open


/- From the rows' condition on the laid tables and the world's shape to what the walks ask of the library's variables. -/
namespace Go.Proofs.YtcmdcgghpkcchaaGreatDoor.Laid
set_option linter.unusedVariables false
set_option linter.unusedSimpArgs false
open Go.ChangeShapes Go.WideShapes Go.ChangeAt Go.WideMaps Go.WideElems Go.RowKit Go.Proofs.YtcmdcgghpkcchaaGreatDoor

abbrev laid2 : List (String × DataW Unit) := [("math/bits.deBruijn32tab", Rows.laid_math_bits_deBruijn32tab), ("math/bits.deBruijn64tab", Rows.laid_math_bits_deBruijn64tab), ("internal/strconv.uint64pow10", Rows.laid_internal_strconv_uint64pow10), ("strconv.ErrRange", Rows.laid_strconv_ErrRange), ("strconv.ErrSyntax", Rows.laid_strconv_ErrSyntax)]
theorem ifc {W : World} {fuel : Nat} {t : TypeId} {ms : Array (String × TypeId)} {cs : List Value} {nm : String} {d : DataW Unit} {p : List MemPlace} (hu : Tryz.prog.underlying t = some (.interface ms))
  (h : DataW.trod (fun _ => ()) Tryz.prog W 0 (fun _ => true) false fuel t cs = some (.iface nm d, p)) : ∃ u v, cs = [.iface u v] := by
 cases fuel with
 | zero => simp [DataW.trod] at h
 | succ n =>
  unfold DataW.trod at h
  rw [hu] at h
  split at h
  all_goals first
   | exact ⟨_, _, rfl⟩
   | (exfalso; simp at *; done)
   | (exfalso; simp_all; done)
theorem te1 : (Tryz.prog.globals[1]?).map (·.type) = some 45 := by kernel_rfl
theorem te2 : (Tryz.prog.globals[2]?).map (·.type) = some 45 := by kernel_rfl
theorem tp : (Tryz.prog.globals[5]?).map (·.type) = some 132 := by kernel_rfl
theorem door_met (os : Os) (args : Array Value) : laidMetH Tryz.prog laid2 ((World.doorLaid Tryz.prog 4000 os).forCall (fun _ _ => 0) ⟨#[], args, []⟩).memory :=
 laidMetH_of_parts3 (fuel := 100) (laidMet_of_run' 100 (by kernel_rfl) (by kernel_rfl)) (by kernel_rfl) (by kernel_rfl)
theorem tabs_of {W : World} (h : laidMetH Tryz.prog laid2 W) (hs : W.ShapedOpen Tryz.prog) : Tab.Tabs W := by
 rw [MakeChecks.laidMetH_plain _ _ _ (by kernel_rfl)] at h
 obtain ⟨ps, ⟨g0, t0, cs0, f0, p0, q0, hg0, ht0, hv0, hd0, ⟨g1, t1, cs1, f1, p1, q1, hg1, ht1, hv1, hd1, ⟨g2, t2, cs2, f2, p2, q2, hg2, ht2, hv2, hd2, ⟨g3, t3, cs3, f3, p3, q3, hg3, ht3, hv3, hd3, ⟨g4, t4, cs4, f4, p4, q4, hg4, ht4, hv4, hd4, _, _⟩, _⟩, _⟩, _⟩, _⟩, _, _⟩ := h
 obtain rfl := Option.some.inj (Tab.gpow.symm.trans hg2)
 obtain rfl := Option.some.inj (tp.symm.trans ht2)
 obtain rfl := Option.some.inj (Tab.grng.symm.trans hg3)
 obtain rfl := Option.some.inj (Tab.gsyn.symm.trans hg4)
 refine ⟨?_, ?_, ?_, ?_⟩
 ·
  have hT : (Rows.laid_internal_strconv_uint64pow10 : DataW Unit) = Lib.tabData .u64 Lib.pow10Tab := rfl
  rw [hT] at hd2
  unfold Lib.TabIs
  rw [hv2, ← Lib.cells_of_tab Tryz.underlying132 Tryz.underlying93 (by kernel_rfl) (by kernel_rfl) hd2]
 ·
  exact Go.Proofs.cell_of_shapedOpen_int (zero := #[.int .i64 0]) (t := 3) hs (of_decide_eq_true (by kernel_rfl)) (by kernel_rfl) rfl (by kernel_rfl) (by kernel_rfl) Tryz.underlying3
 ·
  obtain rfl := Option.some.inj (te1.symm.trans ht4)
  obtain ⟨u, v, e⟩ := ifc Tryz.underlying45 hd4
  refine ⟨u, v, ?_⟩
  rw [var?_cell Tab.gsyn hv4 0, ← Array.getElem?_toList, e]
  rfl

 ·
  obtain rfl := Option.some.inj (te2.symm.trans ht3)
  obtain ⟨u, v, e⟩ := ifc Tryz.underlying45 hd3
  refine ⟨u, v, ?_⟩
  rw [var?_cell Tab.grng hv3 0, ← Array.getElem?_toList, e]
  rfl
section
variable {H : Type} {enc : TypeId × Value → H}
theorem and_shaped {a : Assume} {C : Checked} {os : Os} {f : FuncId} {fn : Func} {s : ChangeSpec} {conds : List PathCond} {apart fresh handsOn again : Bool} {X : World → Array Value → Prop}
  (hX : ∀ (w w' : World) (args : Array Value), w.heap = w'.heap → X w args → X w' args)
  (own : ownKnob C.prog.godebug = none) (started : os.Started) (noInit : C.prog.inits.idxOf? f = none) (hfn : C.prog.funcs[f]? = some fn)
  (witness : ∃ (w : World) (tape : Tape) (i : Input), w.os = os ∧ (w.forCall tape i).Shaped C.prog ∧ i.vars = [] ∧ Input.okWide C.prog (w.forCall tape i) .any w.heap.size f i ∧
   ((s.pre enc C.prog fn conds apart (w.forCall tape i).memory i.args ∧ X (w.forCall tape i).memory i.args) ∧ sizedMet enc C.prog fn (OpenSpec.ofChange s) apart (w.forCall tape i).memory i.args) ∧ a.holds C.prog (lone (Frame.enter C.prog f i.args .normal) [] (w.forCall tape i)))
  (contract : ∀ (W : World) (base : Nat) (args : Array Value) (ds gs : List (DataW H)) (before : List MemPlace),
   (∀ (j : Nat) t v, fn.params[j]? = some t → args[j]? = some v → Value.okWide C.prog W .any base t v) →
   DataW.Whole enc C.prog fn.params.toList s.vars apart W args.toList ds gs before →
   conds.all (PathCond.test C.prog ⟨fn.params.toList, ds, s.plain.varTypes C.prog, gs⟩) = true →
   (DataW.weightsEach C.prog (fn.params.toList ++ s.plain.varTypes C.prog) (ds ++ gs)).all (· ≤ reachBytes) = true → X W args → W.ShapedOpen C.prog →
   a.holds C.prog (lone (Frame.enter C.prog f args .normal) [] W) →
   Calls C.prog f args W fun e W' => ∃ v, e = .returned v ∧ s.post enc C.prog fn apart fresh handsOn again W args v W') :
  ReturnsInHanded a C os f .any (fun w args => (s.pre enc C.prog fn conds apart w args ∧ X w args) ∧ sizedMet enc C.prog fn (OpenSpec.ofChange s) apart w args) (s.post enc C.prog fn apart fresh handsOn again) := by
 refine returnsInHanded_of_calls own started noInit witness ?_
 intro w tape i _ hsh _ hok hpre hholds
 obtain ⟨_, _, _, fn', hfn', _, _, _, _, hval⟩ := hok
 obtain rfl : fn' = fn := Option.some.inj (hfn'.symm.trans hfn)
 obtain ⟨⟨⟨ds, gs, before, hw, hc⟩, hx⟩, hz⟩ := hpre
 refine (contract (w.forCall tape i) w.heap.size i.args ds gs before hval (DataW.Whole.of_heap (w' := w.forCall tape i) (by rfl) hw) hc (hz.weights hw) (hX _ _ _ (by rfl) hx) hsh hholds).mono fun e W' ⟨v, he, hp⟩ => ?_
 subst he
 exact ChangeSpec.post_blind hp
end
end Go.Proofs.YtcmdcgghpkcchaaGreatDoor.Laid

-- Written by wip/xprint.py of this repo, over the kit's print.py: out of the translation; the oracles in it are by hand. Not trusted: Lean checks it.
namespace Go.Proofs.YtcmdcgghpkcchaaGreatDoor.mastChainages
open Go.ChangeShapes Go.WideShapes Go.ChangeAt Go.RowKit Go.Proofs.YtcmdcgghpkcchaaGreatDoor.Open Go.Proofs.YtcmdcgghpkcchaaGreatDoor.XMast Go.Proofs.YtcmdcgghpkcchaaGreatDoorW.PrintWords Go.Proofs.YtcmdcgghpkcchaaGreatDoorW.PrintLast Go.Proofs.YtcmdcgghpkcchaaGreatDoorW.PrintMore
open Go.ChangeMaps (open_string shut_string)
set_option linter.unusedVariables false
set_option linter.unusedSimpArgs false
theorem own : ownKnob Tryz.prog.godebug = none := by kernel_rfl
theorem laidOut : laidOutB Tryz.prog = true := by kernel_rfl
set_option maxRecDepth 100000 in
theorem lifted (os : Os) (started : os.Started) (H : Type) (enc : TypeId × Value → H) :
  ReturnsInHanded {} Tryz.checked os 3 .any (fun w args => (Rows.mastChainagesSpec.pre enc Tryz.prog Tryz.f3 [] false w args ∧ laidMetH Tryz.prog Laid.laid2 w) ∧ sizedMet enc Tryz.prog Tryz.f3 (OpenSpec.ofChange Rows.mastChainagesSpec) false w args) (Rows.mastChainagesSpec.post enc Tryz.prog Tryz.f3 false true false false) := by
 refine Laid.and_shaped (C := Tryz.checked) (X := fun w _ => laidMetH Tryz.prog Laid.laid2 w) (fun _ _ _ hh h => h.of_heap hh) own started (by kernel_rfl) Tryz.func3
  (ChangeSpec.witness_shaped (enc := enc) (C := Tryz.checked) (os := os) (X := fun w _ => laidMetH Tryz.prog Laid.laid2 w) false (World.doorLaid Tryz.prog 4000 os) #[.int .i64 0, .string ByteArray.empty] 8 rfl (World.shaped_of_RefB (by kernel_rfl) (by kernel_rfl)) (by kernel_rfl) (by kernel_rfl) (by kernel_rfl) (Laid.door_met os _)) ?_
 intro W base args ds gs before hval0 hW hcnd hsz0 hL hSh _
 have hval : ∀ (j : Nat) t v, Tryz.f3.params[j]? = some t → args[j]? = some v → Value.okWide Tryz.prog W .any base t v := hval0
 have hW' := hW
 obtain ⟨p, q, hA0, hV, rfl, hfz, hnd⟩ := hW
 have hA : DataW.TrodAll enc Tryz.prog W 0 (fun _ => true) true Tryz.f3.params.toList args.toList ds p := hA0
 rw [Tryz.params3] at hA hval
 obtain ⟨v0, vs0, d0, ds0, p0, q0, hargs, rfl, rfl, h0, r0⟩ := trodAll_cons hA
 obtain ⟨v1, vs1, d1, ds1, p1, q1, rfl, rfl, rfl, h1, r1⟩ := trodAll_cons r0
 obtain ⟨rfl, rfl, rfl⟩ := trodAll_nil r1
 obtain rfl : args = #[v0, v1] := by cases args; simp_all
 obtain ⟨rfl, rfl⟩ := trodVars_none hV
 obtain ⟨a0, rfl, rfl, rfl, w0⟩ := open_int Tryz.underlying3 (hval 0 3 v0 rfl rfl) h0
 obtain ⟨a1, rfl, rfl, rfl, y1⟩ := open_string Tryz.underlying9 (hval 1 9 v1 rfl rfl) h1
 clear hA0 hval0 hsz0
 obtain ⟨k, h⟩ := Pure.MastChainages a0 a1 w0 y1
 refine (dropperlaw01_MastChainages.calls k a0 a1 true W  (Laid.tabs_of hL hSh) h).mono fun e W' ⟨he, bel0⟩ => ?_
 have bel : Below W.heap.size W W' := bel0
 subst he
 exact ⟨_, rfl, _, _, _, [], _, [], hW', trodAll_mk1 (shut_bool Tryz.underlying4 _), (trodAll_cons_mk (shut_int Tryz.underlying3 w0) (trodAll_cons_mk (shut_string Tryz.underlying9 y1) trodAll_mk0)), rfl, bel.frame _, fun h => by cases h⟩
theorem over : Rows.mastChainagesRow.holds Tryz.pinned (OpenSpec.ofChange Rows.mastChainagesSpec) :=
 OpenClaim.holds_of_wide 3 Tryz.f3 rfl rfl rfl rfl rfl rfl rfl ⟨rfl, rfl, rfl, rfl, rfl⟩ rfl rfl rfl rfl rfl (by kernel_rfl) Tryz.func3 (by kernel_rfl)
  (of_decide_eq_true (by kernel_rfl)) (by unfold Func.isWrapper; first | (rw [if_pos (by decide +kernel)]; kernel_rfl) | (rw [if_neg (by decide +kernel)]; exact ⟨rfl, rfl⟩))
  (fun os started H enc _ => lifted os started H enc)
theorem card_holds : Rows.MastChainagesCardSaid :=
 Claim7.holds_tied_plain_at .later [] [.data, .data, .data, .sentinel, .sentinel] true (true, "79c178ec4cbd16cc474998518bff8e1aad91fae56a706dab5ef249d6464d663d") true
  over (fun _ h => by cases h) (by kernel_rfl) (fun _ h => by cases h) mastChainages_row_tie rfl ⟨rfl, rfl⟩ (by kernel_rfl) rfl
  (fun f fn hf hfn => by
   obtain rfl : f = 3 := Option.some.inj ((show Tryz.prog.funcNamed "dropper/dropperlaw01.MastChainages" = some 3 by kernel_rfl).symm.trans hf) |>.symm
   obtain rfl : fn = Tryz.f3 := (Option.some.inj (Tryz.func3.symm.trans hfn)).symm
   exact ⟨by kernel_rfl, fun j t ht => by
    rw [Tryz.params3] at ht
    have hall : ∀ t ∈ (#[3, 9] : Array TypeId), Tryz.prog.wantsStandIn t = false := by decide +kernel
    exact hall t (Array.mem_of_getElem? ht)⟩)
  (by kernel_rfl)
#print axioms card_holds
end Go.Proofs.YtcmdcgghpkcchaaGreatDoor.mastChainages
namespace Go.Proofs.YtcmdcgghpkcchaaGreatDoor
theorem mastChainages_holds : Rows.MastChainagesCardSaid := mastChainages.card_holds
end Go.Proofs.YtcmdcgghpkcchaaGreatDoor
