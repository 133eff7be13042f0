-- Written by wip/pack.py of this repo: texts of this claim, put together.
import Derived.DataReads
import Derived.OpenShut
import Derived.ChangeArms
import Derived.Test.YtcmdcgghpkcchaaDoorRows
import Derived.ProofKit
import Derived.LaidMore
import Derived.Stop.Joined
import Derived.Lib.LaidTab
import Derived.Test.YtcmdcgghpkcchaaDoorTie
import Derived.Test.YtcmdcgghpkcchaaDoorCards
import Derived.SevenTiedAt
import Derived.WalkKit
import Derived.ShutString
import Derived.ChangeOld
import Derived.Below
import Derived.SizedLaws
import Derived.Test.YtcmdcgghpkcchaaDoorKMastCleansc
namespace Go.Proofs.YtcmdcgghpkcchaaDoor.XMast
open Go.RowKit Go.Proofs.YtcmdcgghpkcchaaDoorW.PrintWords Go.Proofs.YtcmdcgghpkcchaaDoorW.PrintLast Go.Proofs.YtcmdcgghpkcchaaDoorW.PrintMore
attribute [local go_sem] max2_int min2_int max_two min_two max_three min_three max_four min_four   -- for this text's walks alone
set_option linter.unusedVariables false
set_option linter.unusedSimpArgs false
/-! ### dropperref01_made: function 67 -/
def dropperref01_made.l0 : Nat → List Int → List Bool → List (S46) → Int → Option ((List (S46)) × Int)
 | 0, _, _, _, _ => none
 | k + 1, x0, x1, x6, x7 => if (wrap64 (x7 + 1)) < (x0.length : Int) then (if 0 ≤ x7 then (if x7 < (x1.length : Int) then (if rdOf false x1 x7 = true then (if (x6.length : Int) > 0 then (if 0 ≤ (wrap64 ((x6.length : Int) - 1)) then (if (wrap64 ((x6.length : Int) - 1)) < (x6.length : Int) then (if x7 < (x0.length : Int) then (if ((rd_T46 x6 (wrap64 ((x6.length : Int) - 1))).f1) = (rd x0 x7) then (if 0 ≤ (wrap64 (x7 + 1)) then (dropperref01_made.l0 k x0 x1 (x6.set ((wrap64 ((x6.length : Int) - 1)) : Int).toNat (⟨(rd_T46 x6 (wrap64 ((x6.length : Int) - 1))).f0, rd x0 (wrap64 (x7 + 1))⟩ : S46)) (wrap64 (x7 + 1))) else (none)) else (if 0 ≤ (wrap64 (x7 + 1)) then (if x6.length < 8796093022208 then (dropperref01_made.l0 k x0 x1 (x6 ++ [(⟨rd x0 x7, rd x0 (wrap64 (x7 + 1))⟩ : S46)]) (wrap64 (x7 + 1))) else (none)) else (none))) else (none)) else (none)) else (none)) else (if x7 < (x0.length : Int) then (if 0 ≤ (wrap64 (x7 + 1)) then (if x6.length < 8796093022208 then (dropperref01_made.l0 k x0 x1 (x6 ++ [(⟨rd x0 x7, rd x0 (wrap64 (x7 + 1))⟩ : S46)]) (wrap64 (x7 + 1))) else (none)) else (none)) else (none))) else (dropperref01_made.l0 k x0 x1 x6 (wrap64 (x7 + 1)))) else (none)) else (none)) else (if (x6.length : Int) > 60 then (some (([] : List (S46)), 4)) else (some (x6, 0)))
def dropperref01_made.f (k : Nat) (l0 : List Int) (l1 : List Bool) : Option ((List (S46)) × Int) := dropperref01_made.l0 k l0 l1 ([] : List (S46)) 0
def dropperref01_made.T5 : Bool × List (List Nat × List Nat) := (true, [([], []), ([], []), ([], []), ([1, 2], [1, 2]), ([3], [3]), ([], []), ([], []), ([6], [6]), ([5, 7], [5, 7]), ([8], [8]), ([4, 9], [4, 9]), ([10], [10]), ([0, 11], [0, 11]), ([12, 12, 0, 1, 2, 3, 4, 5, 6, 7, 8, 9, 10, 11, 12], [0, 12])])
def dropperref01_made.B5 : List Nat := [0, 0, 0, 6, 14, 0, 0, 64, 224, 480, 1022, 2046, 4095, 8191]
theorem dropperref01_made.tab5 : rtab .any (opsOf Tryd.f67 5) = dropperref01_made.T5 := by kernel_rfl
theorem dropperref01_made.bits5 : waitsOk dropperref01_made.T5.2 dropperref01_made.B5 = true := by kernel_rfl
def dropperref01_made.T7 : Bool × List (List Nat × List Nat) := (true, [([], []), ([0], [0]), ([1], [1]), ([2], [2]), ([3], [3]), ([3], [3]), ([5, 3], [3, 5]), ([6, 3], [3, 6]), ([4, 7, 3], [3, 4, 7]), ([8, 3], [3, 8]), ([9, 3], [3, 9]), ([3], [3]), ([3], [3]), ([11, 12, 3], [3, 11, 12]), ([13, 3], [3, 13]), ([10, 14, 3], [3, 10, 14]), ([3, 15], [3, 15]), ([16, 3], [16])])
def dropperref01_made.B7 : List Nat := [0, 1, 3, 7, 15, 15, 47, 111, 255, 511, 1023, 15, 15, 6159, 14351, 32767, 65535, 131071]
theorem dropperref01_made.tab7 : rtab .any (opsOf Tryd.f67 7) = dropperref01_made.T7 := by kernel_rfl
theorem dropperref01_made.bits7 : waitsOk dropperref01_made.T7.2 dropperref01_made.B7 = true := by kernel_rfl
set_option maxHeartbeats 8000000 in
set_option maxRecDepth 100000 in
theorem dropperref01_made.calls (k : Nat) (A0 : Option Addr) (c0 : Nat) (l0 : List Int) (A1 : Option Addr) (c1 : Nat) (l1 : List Bool) (r1 : List (S46)) (r2 : Int) (w : World) (hr0 : Kd.C (Kd.int .i64) w A0 l0.length l0) (hc0 : l0.length ≤ c0) (hr1 : Kd.C Kd.bool w A1 l1.length l1) (hc1 : l1.length ≤ c1) (h : dropperref01_made.f k l0 l1 = some (r1, r2)) :
  Calls Tryd.prog 67 #[.slice A0 l0.length c0, .slice A1 l1.length c1] w fun e w' => ∃ v0_ : Value, e = .returned (.tuple #[v0_, .int .i64 r2]) ∧ Kd.R k46 46 w' w.heap.size (fun _ => True) v0_ r1 ∧ Below w.heap.size w w' := by
 have hu46 := Tryd.underlying46
 have HR0 := Aside0.mk hr0
 have HC0 := Aside0.mk hc0
 clear hr0 hc0
 have HR1 := Aside0.mk hr1
 have HC1 := Aside0.mk hc1
 clear hr1 hc1
 have HB := Aside0.mk (Below.refl w.heap.size w)
 have H : (dropperref01_made.l0 k l0 l1 ([] : List (S46)) 0) = some (r1, r2) := h
 clear h
 have H' := Aside0.mk H
 clear H
 go_enter Tryd.func67, Tryd.ntmps67
 go_wp2
 go_loopg [6, 7] k (fun kq v6 v7 w' => ∃ (x6_1 : List (S46)) (x7_1 : Int), v7 = .int .i64 x7_1 ∧ Aside0 (dropperref01_made.l0 kq l0 l1 x6_1 x7_1 = some (r1, r2)) ∧ Aside0 (kq ≤ k) ∧ Aside0 (Kd.R k46 46 w' w.heap.size (fun _ => True) v6 x6_1) ∧ Aside0 (Below w.heap.size w w'))
 case atStart => exact ⟨(([] : List (S46))), (0), rsz, H', ⟨Nat.le_refl _⟩, ⟨by first | exact Kd.R_nil _ _ _ _ _ | exact Kd.N_nil _ _ _ _ _ | exact Kd.V_nil _ _ _ _ _ | exact Kd.Q_nil _ _ _ _ _ | exact Kd.S_nil _ _ _ _ _⟩, ⟨bel⟩⟩
 case round =>
  clear H'
  (try clear c1); (try clear p2)
  obtain ⟨x6_1, x7_1, rfl, HA, HK1, HO_6, HB⟩ := hrel
  cases gk with
  | zero => exact absurd HA.out (by simp [dropperref01_made.l0])
  | succ k1 =>
   have H := HA.out
   clear HA
   simp only [dropperref01_made.l0] at H
   by_cases c3 : (wrap64 (x7_1 + 1)) < (l0.length : Int)
   ·
    rw [if_pos c3] at H
    have c3b0 : decide ((wrap64 (x7_1 + 1)) < (l0.length : Int)) = true := decide_eq_true c3
    clear c3
    by_cases c4 : 0 ≤ x7_1
    ·
     rw [if_pos c4] at H
     have c4b0 : decide (0 ≤ x7_1) = true := decide_eq_true c4
     clear c4
     by_cases c5 : x7_1 < (l1.length : Int)
     ·
      rw [if_pos c5] at H
      have c5b0 : decide (x7_1 < (l1.length : Int)) = true := decide_eq_true c5
      clear c5
      obtain ⟨bq6, hbq6⟩ : ∃ b_ : Bool, b_ = (rdOf false l1 x7_1) := ⟨_, rfl⟩
      replace H : (if bq6 = true then (if (x6_1.length : Int) > 0 then (if 0 ≤ (wrap64 ((x6_1.length : Int) - 1)) then (if (wrap64 ((x6_1.length : Int) - 1)) < (x6_1.length : Int) then (if x7_1 < (l0.length : Int) then (if ((rd_T46 x6_1 (wrap64 ((x6_1.length : Int) - 1))).f1) = (rd l0 x7_1) then (if 0 ≤ (wrap64 (x7_1 + 1)) then (dropperref01_made.l0 k1 l0 l1 (x6_1.set ((wrap64 ((x6_1.length : Int) - 1)) : Int).toNat (⟨(rd_T46 x6_1 (wrap64 ((x6_1.length : Int) - 1))).f0, rd l0 (wrap64 (x7_1 + 1))⟩ : S46)) (wrap64 (x7_1 + 1))) else (none)) else (if 0 ≤ (wrap64 (x7_1 + 1)) then (if x6_1.length < 8796093022208 then (dropperref01_made.l0 k1 l0 l1 (x6_1 ++ [(⟨rd l0 x7_1, rd l0 (wrap64 (x7_1 + 1))⟩ : S46)]) (wrap64 (x7_1 + 1))) else (none)) else (none))) else (none)) else (none)) else (none)) else (if x7_1 < (l0.length : Int) then (if 0 ≤ (wrap64 (x7_1 + 1)) then (if x6_1.length < 8796093022208 then (dropperref01_made.l0 k1 l0 l1 (x6_1 ++ [(⟨rd l0 x7_1, rd l0 (wrap64 (x7_1 + 1))⟩ : S46)]) (wrap64 (x7_1 + 1))) else (none)) else (none)) else (none))) else (dropperref01_made.l0 k1 l0 l1 x6_1 (wrap64 (x7_1 + 1)))) = some (r1, r2) := by rw [← hbq6] at H; exact H
      have Nbq6 := Aside0.mk hbq6
      clear hbq6
      by_cases c7 : bq6 = true
      ·
       subst c7
       rw [if_pos rfl] at H
       by_cases c8 : (x6_1.length : Int) > 0
       ·
        rw [if_pos c8] at H
        have c8b0 : decide (0 < (x6_1.length : Int)) = true := decide_eq_true c8
        have c8b1 : decide (0 < x6_1.length) = true := decide_eq_true (by omega)
        clear c8
        obtain ⟨ji9, hji9⟩ : ∃ j_ : Int, (wrap64 ((x6_1.length : Int) - 1)) = j_ := ⟨_, rfl⟩
        replace H : (if 0 ≤ (ji9) then (if (ji9) < (x6_1.length : Int) then (if x7_1 < (l0.length : Int) then (if ((rd_T46 x6_1 (ji9)).f1) = (rd l0 x7_1) then (if 0 ≤ (wrap64 (x7_1 + 1)) then (dropperref01_made.l0 k1 l0 l1 (x6_1.set ((ji9) : Int).toNat (⟨(rd_T46 x6_1 (ji9)).f0, rd l0 (wrap64 (x7_1 + 1))⟩ : S46)) (wrap64 (x7_1 + 1))) else (none)) else (if 0 ≤ (wrap64 (x7_1 + 1)) then (if x6_1.length < 8796093022208 then (dropperref01_made.l0 k1 l0 l1 (x6_1 ++ [(⟨rd l0 x7_1, rd l0 (wrap64 (x7_1 + 1))⟩ : S46)]) (wrap64 (x7_1 + 1))) else (none)) else (none))) else (none)) else (none)) else (none)) = some (r1, r2) := by first | (rw [hji9] at H; exact H) | (simp only [hji9] at H ⊢; exact H)
        have hji9w : (IntKind.i64.wrap ((x6_1.length : Int) - 1)) = ji9 := (i64_w _).trans hji9
        by_cases c10 : 0 ≤ (ji9)
        ·
         rw [if_pos c10] at H
         have c10b0 : decide (0 ≤ (ji9)) = true := decide_eq_true c10
         clear c10
         by_cases c11 : (ji9) < (x6_1.length : Int)
         ·
          rw [if_pos c11] at H
          have c11b0 : decide ((ji9) < (x6_1.length : Int)) = true := decide_eq_true c11
          clear c11
          by_cases c12 : x7_1 < (l0.length : Int)
          ·
           rw [if_pos c12] at H
           have c12b0 : decide (x7_1 < (l0.length : Int)) = true := decide_eq_true c12
           clear c12
           by_cases c13 : ((rd_T46 x6_1 (ji9)).f1) = (rd l0 x7_1)
           ·
            rw [if_pos c13] at H
            have c13b0 : (((rd_T46 x6_1 (ji9)).f1) == (rd l0 x7_1)) = true := beq_iff_eq.mpr c13
            have c13b1 : (((rd_T46 x6_1 (ji9)).f1) != (rd l0 x7_1)) = false := bne_eq_false_iff_eq.mpr c13
            clear c13
            obtain ⟨ji14, hji14⟩ : ∃ j_ : Int, (wrap64 (x7_1 + 1)) = j_ := ⟨_, rfl⟩
            replace H : (if 0 ≤ (ji14) then (dropperref01_made.l0 k1 l0 l1 (x6_1.set ((ji9) : Int).toNat (⟨(rd_T46 x6_1 (ji9)).f0, rd l0 (ji14)⟩ : S46)) ji14) else (none)) = some (r1, r2) := by first | (rw [hji14] at H; exact H) | (simp only [hji14] at H ⊢; exact H)
            (try rw [hji14] at c3b0)
            have hji14w : (IntKind.i64.wrap (x7_1 + 1)) = ji14 := (i64_w _).trans hji14
            by_cases c15 : 0 ≤ (ji14)
            ·
             rw [if_pos c15] at H
             have c15b0 : decide (0 ≤ (ji14)) = true := decide_eq_true c15
             clear c15
             obtain ⟨y158, hy158⟩ : ∃ y_ : List (S46), y_ = (x6_1.set ((ji9) : Int).toNat (⟨(rd_T46 x6_1 (ji9)).f0, rd l0 (ji14)⟩ : S46)) := ⟨_, rfl⟩
             replace H : (dropperref01_made.l0 k1 l0 l1 y158 ji14) = some (r1, r2) := by first | (rw [hy158]; with_reducible exact H) | (have H2_ := (Option.bind_some _ _).symm.trans H; rw [hy158]; with_reducible exact H2_) | (have H2_ := (Option.bind_some _ _).symm.trans H; with_reducible exact H2_) | with_reducible exact H | (rw [hy158]; exact H) | exact H
             have Ny158 := Aside0.mk hy158
             clear hy158
             have H' := Aside0.mk H
             clear H
             have p154 : 0 ≤ (x7_1 : Int) := of_decide_eq_true asz
             have q154 : x7_1 < (l1.length : Int) := of_decide_eq_true asz
             obtain ⟨ad154, e154, hx154_0⟩ := Kd.at_bool HR1.out x7_1 p154 q154
             (try rw [← Nbq6.out] at hx154_0)
             cases e154
             replace hx154_0 := (HB.out.cell (World.block_lt_of_cell? w _ hx154_0)).trans hx154_0
             replace p154 := eq_true p154
             replace q154 := eq_true q154
             try go_wp2
             have n0_ := Aside0.mk (Kd.R_drew HO_6.out)
             have n1_ := Aside0.mk (below_drew1 HB.out)
             clear HO_6
             clear HB
             have HO_6 := n0_
             have HB := n1_
             clear n0_ n1_
             obtain ⟨Ao18, co18, eo18⟩ := Kd.R_slice HO_6.out
             (first | subst eo18 | (injection eo18 with f1_ f2_ f3_; have f4_ := f1_.symm; have f5_ := f3_.symm; clear f1_ f2_ f3_; subst f4_; subst f5_))
             have p155 : 0 ≤ ((ji9) : Int) := of_decide_eq_true asz
             have q155 : (ji9) < (x6_1.length : Int) := of_decide_eq_true asz
             obtain ⟨ad155, e155, hx155_0, hx155_1⟩ := at_T46 (Kd.R_reads' HO_6.out).2.2 (ji9) p155 q155
             cases e155
             replace p155 := eq_true p155
             replace q155 := eq_true q155
             have p156 : 0 ≤ (x7_1 : Int) := of_decide_eq_true asz
             have q156 : x7_1 < (l0.length : Int) := of_decide_eq_true asz
             obtain ⟨ad156, e156, hx156_0⟩ := Kd.at_int HR0.out x7_1 p156 q156
             have hw156_0 := hx156_0
             cases e156
             replace hx156_0 := (HB.out.cell (World.block_lt_of_cell? w _ hx156_0)).trans hx156_0
             replace p156 := eq_true p156
             replace q156 := eq_true q156
             refine start_ (n := 18) (S := fun w' => w'.cell? (ad155.add (((ji9)).toNat * 2)) = some (.int .i64 ((rd_T46 x6_1 (ji9)).f0)) ∧ w'.cell? ⟨(ad155.add (((ji9)).toNat * 2)).block, (ad155.add (((ji9)).toNat * 2)).off + 1, none⟩ = some (.int .i64 ((rd_T46 x6_1 (ji9)).f1)) ∧ w'.cell? (ad156.add (x7_1).toNat) = some (.int .i64 (rd l0 x7_1))) (ds := []) #[false, false, false, false, false, false, false, false, false, false, false, false, false, false, false, false, false, false] (by kernel_rfl) rfl rfl ⟨hx155_0, hx155_1, ((HB.out.cell (World.block_lt_of_cell? w _ hw156_0)).trans hw156_0)⟩ (fun hHeld => ?_); refine with_tabW dropperref01_made.tab7 dropperref01_made.bits7 (fun HT_ HW_ => ?_)
             generalize wr.drew = w17 at HO_6 HB hx155_0 hx155_1 hx156_0 hHeld ⊢
             refine pst (i := 0) (N := some 35) (bz 18 1) (any_of HT_.out (by kernel_rfl)) ?_
             refine pst (i := 1) (N := some 36) (bz 18 3) (any_of HT_.out (by kernel_rfl)) ?_
             refine pst (i := 2) (N := some 37) (bz 18 7) (any_of HT_.out (by kernel_rfl)) ?_
             refine pst (i := 3) (N := some 38) (bz 18 15) (any_of HT_.out (by kernel_rfl)) ?_
             refine pst (i := 4) (N := some 39) (bz 18 31) (any_of HT_.out (by kernel_rfl)) ?_
             refine pst (i := 5) (N := some 40) (bz 18 63) (any_of HT_.out (by kernel_rfl)) ?_
             refine pst (i := 6) (N := some 41) (bz 18 127) (any_of HT_.out (by kernel_rfl)) ?_
             refine pst (i := 7) (N := some 42) (bz 18 255) (any_of HT_.out (by kernel_rfl)) ?_
             refine pst (i := 8) (N := some 43) (bz 18 511) (any_of HT_.out (by kernel_rfl)) ?_
             refine pst (i := 9) (N := some 44) (bz 18 1023) (any_of HT_.out (by kernel_rfl)) ?_
             refine pst (i := 11) (N := some 46) (bz 18 3071) (any_of HT_.out (by kernel_rfl)) ?_
             refine pst (i := 12) (N := some 47) (bz 18 7167) (any_of HT_.out (by kernel_rfl)) ?_
             refine pst (i := 13) (N := some 48) (bz 18 15359) (any_of HT_.out (by kernel_rfl)) ?_
             refine tst3 (i := 10) (N := some 45) (bz 18 16383) (take_ofW HT_.out HW_.out (by kernel_rfl)) hHeld ?_
             refine tst3 (i := 14) (N := some 49) (bz 18 32767) (take_ofW HT_.out HW_.out (by kernel_rfl)) hHeld ?_
             refine pst (i := 15) (N := some 50) (bz 18 65535) (any_of HT_.out (by kernel_rfl)) ?_
             refine pst (i := 16) (N := some 51) (bz 18 131071) (any_of HT_.out (by kernel_rfl)) ?_
             refine pst (i := 17) (N := some 34) (bz 18 262143) (any_of HT_.out (by kernel_rfl)) ?_
             refine done_ (done_of HT_.out (by kernel_rfl)) ?_
             have p157 : 0 ≤ ((ji14) : Int) := of_decide_eq_true asz
             have q157 : (ji14) < (l0.length : Int) := of_decide_eq_true asz
             obtain ⟨ad157, e157, hx157_0⟩ := Kd.at_int HR0.out (ji14) p157 q157
             obtain rfl : ad156 = ad157 := (by injection e157)
             replace hx157_0 := (HB.out.cell (World.block_lt_of_cell? w _ hx157_0)).trans hx157_0
             replace p157 := eq_true p157
             replace q157 := eq_true q157
             have p16 : 0 ≤ ((ji9) : Int) := of_decide_eq_true asz
             have q16 : ((ji9) : Int) < ((x6_1.length : Int) : Int) := of_decide_eq_true asz
             obtain ⟨go16, co16, eo16, gb16, gl16, cl16, HG16⟩ := Kd.R_form HO_6.out (by omega)
             (first | cases eo16 | (injection eo16 with ea_ en_ ec_; (first | subst ea_ | (injection ea_ with ea_; subst ea_)); subst ec_; clear en_))
             have GB16 := Aside0.mk gb16
             have GG16 := Aside0.mk HG16
             clear gb16 gl16 HG16
             (first | simp only [add_plain] at hx155_0 | skip)
             (first | simp only [add_plain] at hx155_1 | skip)
             obtain ⟨ce16, hcl16, hM16, hcc16, hfr16⟩ := Kd.R_elem HO_6.out z46 ((ji9) : Int) p16 q16
             obtain rfl := k46_openM hM16
             have hx16_0 : w17.cell? ⟨go16, ((ji9) : Int).toNat * 2, none⟩ = some (.int .i64 ((rd_T46 x6_1 (ji9)).f0)) := hcc16 0 _ rfl
             have hx16_1 : w17.cell? ⟨go16, ((ji9) : Int).toNat * 2 + 1, none⟩ = some (.int .i64 ((rd_T46 x6_1 (ji9)).f1)) := hcc16 1 _ rfl
             have hf16_0 : w17.frozen? ⟨go16, ((ji9) : Int).toNat * 2, none⟩ = false := hfr16 0
             have hf16_1 : w17.frozen? ⟨go16, ((ji9) : Int).toNat * 2 + 1, none⟩ = false := hfr16 1
             clear hcl16 hcc16 hfr16 hM16
             replace p16 := eq_true p16
             replace q16 := eq_true q16
             have HX19 := Aside0.mk (show Kd.R k46 46 w17 w.heap.size (fun _ => True) (.slice (some ⟨go16, 0, none⟩) x6_1.length co18) x6_1 from (ownx HO_6))
             obtain ⟨ce19, hcl19, hM19, hcc19, hfr19⟩ := Kd.R_elem HX19.out z46 ((ji9) : Int) (of_decide_eq_true asz) (by have h_ : ((ji9) : Int) < ((x6_1.length : Int) : Int) := of_decide_eq_true asz; first | exact h_ | (have e_ := (Kd.R_reads' HO_6.out).1; omega) | simpa using h_)
             obtain rfl := k46_openM hM19
             have HP19 := Kd.R_seg HX19.out ((ji9) : Int) (of_decide_eq_true asz) (by have h_ : ((ji9) : Int) < ((x6_1.length : Int) : Int) := of_decide_eq_true asz; first | exact h_ | (have e_ := (Kd.R_reads' HO_6.out).1; omega) | simpa using h_) (seg := [.int .i64 (rd l0 (ji14))]) (j := 1) hcl19 hcc19 (show 2 ≤ 2 from by decide) (x' := (⟨(rd_T46 x6_1 (ji9)).f0, rd l0 (ji14)⟩ : S46)) (k46_mkM _ _ _ (⟨(rd_T46 x6_1 (ji9)).f0, rd l0 (ji14)⟩ : S46) ) (fun _ hk => hk)
             have hx19_1 := hcc19 1 _ rfl
             (try simp only [show (k46).sz = 2 from rfl, Nat.mul_one, Nat.add_zero] at hx19_1)
             have hf19_1 := hfr19 1
             (try simp only [show (k46).sz = 2 from rfl, Nat.mul_one, Nat.add_zero] at hf19_1)
             clear hcl19 hcc19 hfr19 hM19
             try go_wp2_with (first | ((with_reducible refine gate_store (t := 3) (p := 62) rfl ?_); refine store_event (t := 3) (p := 62) (v := ?vo_w20) (w1 := (w17.setCell ⟨go16, ((ji9) : Int).toNat * 2 + 1, none⟩ (.int .i64 (rd l0 (ji14))))) ?hg ?ho ?hn ?hr ?_; (case ho => rfl); (case hg => rfl); (case hn => rfl); (case hr => first | (go_simp; done) | (go_simp; rfl)); intro w20 hw; have hg : w17.grownBy w20 (some go16) := (by rw [hw]; exact HP19.2); have hp_ : Kd.R k46 46 w20 w.heap.size (fun _ => True) (.slice (some ⟨go16, 0, none⟩) x6_1.length co18) y158 := (by rw [hw, Ny158.out]; exact HP19.1); clear HP19; replace HO_6 := Aside0.mk (hp_); replace HB := Aside0.mk ((by rw [hw]; exact below_set (HB.out) GB16.out : Below w.heap.size w w20)); clear hg hw hp_))
             go_roundg k1
             case measure => have := HK1.out; omega
             case rel => exact ⟨(y158), (ji14), (by first | rfl | (simp; done) | (simp only [← hji14] <;> (first | rfl | simp)) | (simp [*]; done)), H', ⟨by have := HK1.out; omega⟩, ⟨by (with_reducible repeat (first | apply Kd.R_alloc | apply Kd.R_drewN | apply Kd.R_drew)); exact HO_6.out⟩, ⟨bel⟩⟩
            ·
             rw [if_neg c15] at H
             exact absurd H (by simp)
           ·
            rw [if_neg c13] at H
            have c13b0 : (((rd_T46 x6_1 (ji9)).f1) == (rd l0 x7_1)) = false := beq_eq_false_iff_ne.mpr c13
            have c13b1 : (((rd_T46 x6_1 (ji9)).f1) != (rd l0 x7_1)) = true := bne_iff_ne.mpr c13
            obtain ⟨ji21, hji21⟩ : ∃ j_ : Int, (wrap64 (x7_1 + 1)) = j_ := ⟨_, rfl⟩
            replace H : (if 0 ≤ (ji21) then (if x6_1.length < 8796093022208 then (dropperref01_made.l0 k1 l0 l1 (x6_1 ++ [(⟨rd l0 x7_1, rd l0 (ji21)⟩ : S46)]) ji21) else (none)) else (none)) = some (r1, r2) := by first | (rw [hji21] at H; exact H) | (simp only [hji21] at H ⊢; exact H)
            (try rw [hji21] at c3b0)
            have hji21w : (IntKind.i64.wrap (x7_1 + 1)) = ji21 := (i64_w _).trans hji21
            by_cases c22 : 0 ≤ (ji21)
            ·
             rw [if_pos c22] at H
             have c22b0 : decide (0 ≤ (ji21)) = true := decide_eq_true c22
             clear c22
             by_cases c23 : x6_1.length < 8796093022208
             ·
              rw [if_pos c23] at H
              have LMc23 := Aside0.mk c23
              clear c23
              obtain ⟨y161, hy161⟩ : ∃ y_ : List (S46), y_ = (x6_1 ++ [(⟨rd l0 x7_1, rd l0 (ji21)⟩ : S46)]) := ⟨_, rfl⟩
              replace H : (dropperref01_made.l0 k1 l0 l1 y161 ji21) = some (r1, r2) := by first | (rw [hy161]; with_reducible exact H) | (have H2_ := (Option.bind_some _ _).symm.trans H; rw [hy161]; with_reducible exact H2_) | (have H2_ := (Option.bind_some _ _).symm.trans H; with_reducible exact H2_) | with_reducible exact H | (rw [hy161]; exact H) | exact H
              have Ny161 := Aside0.mk hy161
              clear hy161
              have H' := Aside0.mk H
              clear H
              have p154 : 0 ≤ (x7_1 : Int) := of_decide_eq_true asz
              have q154 : x7_1 < (l1.length : Int) := of_decide_eq_true asz
              obtain ⟨ad154, e154, hx154_0⟩ := Kd.at_bool HR1.out x7_1 p154 q154
              (try rw [← Nbq6.out] at hx154_0)
              cases e154
              replace hx154_0 := (HB.out.cell (World.block_lt_of_cell? w _ hx154_0)).trans hx154_0
              replace p154 := eq_true p154
              replace q154 := eq_true q154
              try go_wp2
              have n0_ := Aside0.mk (Kd.R_drew HO_6.out)
              have n1_ := Aside0.mk (below_drew1 HB.out)
              clear HO_6
              clear HB
              have HO_6 := n0_
              have HB := n1_
              clear n0_ n1_
              obtain ⟨Ao25, co25, eo25⟩ := Kd.R_slice HO_6.out
              (first | subst eo25 | (injection eo25 with f1_ f2_ f3_; have f4_ := f1_.symm; have f5_ := f3_.symm; clear f1_ f2_ f3_; subst f4_; subst f5_))
              have p155 : 0 ≤ ((ji9) : Int) := of_decide_eq_true asz
              have q155 : (ji9) < (x6_1.length : Int) := of_decide_eq_true asz
              obtain ⟨ad155, e155, hx155_0, hx155_1⟩ := at_T46 (Kd.R_reads' HO_6.out).2.2 (ji9) p155 q155
              cases e155
              replace p155 := eq_true p155
              replace q155 := eq_true q155
              have p156 : 0 ≤ (x7_1 : Int) := of_decide_eq_true asz
              have q156 : x7_1 < (l0.length : Int) := of_decide_eq_true asz
              obtain ⟨ad156, e156, hx156_0⟩ := Kd.at_int HR0.out x7_1 p156 q156
              have hw156_0 := hx156_0
              cases e156
              replace hx156_0 := (HB.out.cell (World.block_lt_of_cell? w _ hx156_0)).trans hx156_0
              replace p156 := eq_true p156
              replace q156 := eq_true q156
              refine start_ (n := 18) (S := fun w' => w'.cell? (ad155.add (((ji9)).toNat * 2)) = some (.int .i64 ((rd_T46 x6_1 (ji9)).f0)) ∧ w'.cell? ⟨(ad155.add (((ji9)).toNat * 2)).block, (ad155.add (((ji9)).toNat * 2)).off + 1, none⟩ = some (.int .i64 ((rd_T46 x6_1 (ji9)).f1)) ∧ w'.cell? (ad156.add (x7_1).toNat) = some (.int .i64 (rd l0 x7_1))) (ds := []) #[false, false, false, false, false, false, false, false, false, false, false, false, false, false, false, false, false, false] (by kernel_rfl) rfl rfl ⟨hx155_0, hx155_1, ((HB.out.cell (World.block_lt_of_cell? w _ hw156_0)).trans hw156_0)⟩ (fun hHeld => ?_); refine with_tabW dropperref01_made.tab7 dropperref01_made.bits7 (fun HT_ HW_ => ?_)
              generalize wr.drew = w24 at HO_6 HB hx155_0 hx155_1 hx156_0 hHeld ⊢
              refine pst (i := 0) (N := some 35) (bz 18 1) (any_of HT_.out (by kernel_rfl)) ?_
              refine pst (i := 1) (N := some 36) (bz 18 3) (any_of HT_.out (by kernel_rfl)) ?_
              refine pst (i := 2) (N := some 37) (bz 18 7) (any_of HT_.out (by kernel_rfl)) ?_
              refine pst (i := 3) (N := some 38) (bz 18 15) (any_of HT_.out (by kernel_rfl)) ?_
              refine pst (i := 4) (N := some 39) (bz 18 31) (any_of HT_.out (by kernel_rfl)) ?_
              refine pst (i := 5) (N := some 40) (bz 18 63) (any_of HT_.out (by kernel_rfl)) ?_
              refine pst (i := 6) (N := some 41) (bz 18 127) (any_of HT_.out (by kernel_rfl)) ?_
              refine pst (i := 7) (N := some 42) (bz 18 255) (any_of HT_.out (by kernel_rfl)) ?_
              refine pst (i := 8) (N := some 43) (bz 18 511) (any_of HT_.out (by kernel_rfl)) ?_
              refine pst (i := 9) (N := some 44) (bz 18 1023) (any_of HT_.out (by kernel_rfl)) ?_
              refine pst (i := 11) (N := some 46) (bz 18 3071) (any_of HT_.out (by kernel_rfl)) ?_
              refine pst (i := 12) (N := some 47) (bz 18 7167) (any_of HT_.out (by kernel_rfl)) ?_
              refine pst (i := 13) (N := some 48) (bz 18 15359) (any_of HT_.out (by kernel_rfl)) ?_
              refine tst3 (i := 10) (N := some 45) (bz 18 16383) (take_ofW HT_.out HW_.out (by kernel_rfl)) hHeld ?_
              refine tst3 (i := 14) (N := some 49) (bz 18 32767) (take_ofW HT_.out HW_.out (by kernel_rfl)) hHeld ?_
              refine pst (i := 15) (N := some 50) (bz 18 65535) (any_of HT_.out (by kernel_rfl)) ?_
              refine pst (i := 16) (N := some 51) (bz 18 131071) (any_of HT_.out (by kernel_rfl)) ?_
              refine pst (i := 17) (N := some 34) (bz 18 262143) (any_of HT_.out (by kernel_rfl)) ?_
              refine done_ (done_of HT_.out (by kernel_rfl)) ?_
              try go_wp2
              have n0_ := Aside0.mk (Kd.R_drew HO_6.out)
              have n1_ := Aside0.mk (below_drew1 HB.out)
              clear HO_6
              clear HB
              have HO_6 := n0_
              have HB := n1_
              clear n0_ n1_
              have p159 : 0 ≤ (x7_1 : Int) := of_decide_eq_true asz
              have q159 : x7_1 < (l0.length : Int) := of_decide_eq_true asz
              obtain ⟨ad159, e159, hx159_0⟩ := Kd.at_int HR0.out x7_1 p159 q159
              have hw159_0 := hx159_0
              obtain rfl : ad156 = ad159 := (by injection e159)
              replace hx159_0 := (HB.out.cell (World.block_lt_of_cell? w _ hx159_0)).trans hx159_0
              replace p159 := eq_true p159
              replace q159 := eq_true q159
              have p160 : 0 ≤ ((ji21) : Int) := of_decide_eq_true asz
              have q160 : (ji21) < (l0.length : Int) := of_decide_eq_true asz
              obtain ⟨ad160, e160, hx160_0⟩ := Kd.at_int HR0.out (ji21) p160 q160
              have hw160_0 := hx160_0
              obtain rfl : ad156 = ad160 := (by injection e160)
              replace hx160_0 := (HB.out.cell (World.block_lt_of_cell? w _ hx160_0)).trans hx160_0
              replace p160 := eq_true p160
              replace q160 := eq_true q160
              refine start_ (n := 14) (S := fun w' => w'.cell? (ad156.add (x7_1).toNat) = some (.int .i64 (rd l0 x7_1)) ∧ w'.cell? (ad156.add ((ji21)).toNat) = some (.int .i64 (rd l0 (ji21)))) (ds := []) #[false, false, false, false, false, false, false, false, false, false, false, false, false, false] (by kernel_rfl) rfl rfl ⟨((HB.out.cell (World.block_lt_of_cell? w _ hw159_0)).trans hw159_0), ((HB.out.cell (World.block_lt_of_cell? w _ hw160_0)).trans hw160_0)⟩ (fun hHeld => ?_); refine with_tabW dropperref01_made.tab5 dropperref01_made.bits5 (fun HT_ HW_ => ?_)
              generalize w24.drew = w26 at HO_6 HB hx159_0 hx160_0 hHeld ⊢
              refine pst (i := 0) (N := some 15) (bz 14 1) (any_of HT_.out (by kernel_rfl)) ?_
              refine pst (i := 1) (N := some 16) (bz 14 3) (any_of HT_.out (by kernel_rfl)) ?_
              refine pst (i := 2) (N := some 17) (bz 14 7) (any_of HT_.out (by kernel_rfl)) ?_
              refine pst (i := 3) (N := some 18) (bz 14 15) (any_of HT_.out (by kernel_rfl)) ?_
              refine pst (i := 5) (N := some 20) (bz 14 47) (any_of HT_.out (by kernel_rfl)) ?_
              refine pst (i := 6) (N := some 21) (bz 14 111) (any_of HT_.out (by kernel_rfl)) ?_
              refine pst (i := 7) (N := some 22) (bz 14 239) (any_of HT_.out (by kernel_rfl)) ?_
              refine pst (i := 8) (N := some 23) (bz 14 495) (any_of HT_.out (by kernel_rfl)) ?_
              refine tst2 (i := 4) (N := some 19) (bz 14 511) (take_ofW HT_.out HW_.out (by kernel_rfl)) hHeld ?_
              refine tst2 (i := 9) (N := some 24) (bz 14 1023) (take_ofW HT_.out HW_.out (by kernel_rfl)) hHeld ?_
              refine pst (i := 10) (N := some 25) (bz 14 2047) (any_of HT_.out (by kernel_rfl)) ?_
              refine one_ (i := 11) (N := some 26) #[true, true, true, true, true, true, true, true, true, true, true, true, false, false] rfl rfl (one_of HT_.out (by kernel_rfl)) (by decide) (fun K hK => ?_)
              refine value_ (w1 := ?_) (v := ?_) (by rfl) rfl ?_ ?_
              rotate_left 2
              ·
               go_simp
               constructor
               ·
                rfl
               ·
                rfl
              refine hK.out _ _ ⟨(World.cell?_alloc_lt _ _ _ (World.block_lt_of_cell? _ _ (((HB.out.cell (World.block_lt_of_cell? w _ hw159_0)).trans hw159_0)))).trans (((HB.out.cell (World.block_lt_of_cell? w _ hw159_0)).trans hw159_0)), (World.cell?_alloc_lt _ _ _ (World.block_lt_of_cell? _ _ (((HB.out.cell (World.block_lt_of_cell? w _ hw160_0)).trans hw160_0)))).trans (((HB.out.cell (World.block_lt_of_cell? w _ hw160_0)).trans hw160_0))⟩ (fun hHeld => ?_)
              clear hK K
              refine norm_ (a' := ?_) ?_ ?_
              rotate_left
              ·
               show Act.put _ (some 26) _ = _
               simp only [Act.put, List.setIfInBounds_toArray, List.set_cons_zero, List.set_cons_succ, i64_w, i32_w]
               rfl
              refine one_ (i := 12) (N := some 27) #[true, true, true, true, true, true, true, true, true, true, true, true, true, false] rfl rfl (one_of HT_.out (by kernel_rfl)) (by decide) (fun K hK => ?_)
              refine Kd.R_append_step k46 (w0 := w) w.heap.size (by rfl) (.tmp 15) (.tmp 26) 22 46 (.agg #[(.int .i64 0), (.int .i64 0)]) 16 rfl Tryd.underlying22 info46 rfl (by decide) (by omega) (.slice (some ad155) x6_1.length co25) x6_1 (⟨rd l0 x7_1, rd l0 (ji21)⟩ : S46) [.int .i64 (rd l0 x7_1), .int .i64 (rd l0 (ji21))] (fun _ => True) (fun _ => False) rfl rfl ?aP (fun _ hk => hk.elim) ?aF ?aO ?aB ?aS ?aL ?_
              (case aP => exact k46_mkM _ _ _ (⟨rd l0 x7_1, rd l0 (ji21)⟩ : S46))
              (case aB => exact bel)
              (case aF => exact (fun _ _ => trivial))
              (case aO => exact (ownx HO_6))
              (case aS => exact (below_size bel))
              (case aL => have := LMc23.out; omega)
              intro v162 w27 ho hb hg hat
              rw [← Ny161.out] at ho
              have n0_ := Aside0.mk (hb)
              have n1_ := Aside0.mk (ho)
              clear HB
              clear HO_6
              have HB := n0_
              have HO163 := n1_
              clear n0_ n1_
              clear ho hb hg hat
              refine hK.out _ _ ⟨((HB.out.cell (World.block_lt_of_cell? w _ hw159_0)).trans hw159_0), ((HB.out.cell (World.block_lt_of_cell? w _ hw160_0)).trans hw160_0)⟩ (fun hHeld => ?_)
              clear hK K
              refine norm_ (a' := ?_) ?_ ?_
              rotate_left
              ·
               show Act.put _ (some 27) _ = _
               simp only [Act.put, List.setIfInBounds_toArray, List.set_cons_zero, List.set_cons_succ, i64_w, i32_w]
               rfl
              refine pst (i := 13) (N := some 6) (bz 14 16383) (any_of HT_.out (by kernel_rfl)) ?_
              refine done_ (done_of HT_.out (by kernel_rfl)) ?_
              try go_wp2
              go_roundg k1
              case measure => have := HK1.out; omega
              case rel => exact ⟨(y161), (ji21), (by first | rfl | (simp; done) | (simp only [← hji21] <;> (first | rfl | simp)) | (simp [*]; done)), H', ⟨by have := HK1.out; omega⟩, ⟨by (with_reducible repeat (first | apply Kd.R_alloc | apply Kd.R_drewN | apply Kd.R_drew)); exact HO163.out⟩, ⟨bel⟩⟩
             ·
              rw [if_neg c23] at H
              exact absurd H (by simp)
            ·
             rw [if_neg c22] at H
             exact absurd H (by simp)
          ·
           rw [if_neg c12] at H
           exact absurd H (by simp)
         ·
          rw [if_neg c11] at H
          exact absurd H (by simp)
        ·
         rw [if_neg c10] at H
         exact absurd H (by simp)
       ·
        rw [if_neg c8] at H
        have c8b0 : decide (0 < (x6_1.length : Int)) = false := decide_eq_false c8
        have c8b1 : decide (0 < x6_1.length) = false := decide_eq_false (by omega)
        clear c8
        by_cases c28 : x7_1 < (l0.length : Int)
        ·
         rw [if_pos c28] at H
         have c28b0 : decide (x7_1 < (l0.length : Int)) = true := decide_eq_true c28
         clear c28
         obtain ⟨ji29, hji29⟩ : ∃ j_ : Int, (wrap64 (x7_1 + 1)) = j_ := ⟨_, rfl⟩
         replace H : (if 0 ≤ (ji29) then (if x6_1.length < 8796093022208 then (dropperref01_made.l0 k1 l0 l1 (x6_1 ++ [(⟨rd l0 x7_1, rd l0 (ji29)⟩ : S46)]) ji29) else (none)) else (none)) = some (r1, r2) := by first | (rw [hji29] at H; exact H) | (simp only [hji29] at H ⊢; exact H)
         (try rw [hji29] at c3b0)
         have hji29w : (IntKind.i64.wrap (x7_1 + 1)) = ji29 := (i64_w _).trans hji29
         by_cases c30 : 0 ≤ (ji29)
         ·
          rw [if_pos c30] at H
          have c30b0 : decide (0 ≤ (ji29)) = true := decide_eq_true c30
          clear c30
          by_cases c31 : x6_1.length < 8796093022208
          ·
           rw [if_pos c31] at H
           have LMc31 := Aside0.mk c31
           clear c31
           obtain ⟨y166, hy166⟩ : ∃ y_ : List (S46), y_ = (x6_1 ++ [(⟨rd l0 x7_1, rd l0 (ji29)⟩ : S46)]) := ⟨_, rfl⟩
           replace H : (dropperref01_made.l0 k1 l0 l1 y166 ji29) = some (r1, r2) := by first | (rw [hy166]; with_reducible exact H) | (have H2_ := (Option.bind_some _ _).symm.trans H; rw [hy166]; with_reducible exact H2_) | (have H2_ := (Option.bind_some _ _).symm.trans H; with_reducible exact H2_) | with_reducible exact H | (rw [hy166]; exact H) | exact H
           have Ny166 := Aside0.mk hy166
           clear hy166
           have H' := Aside0.mk H
           clear H
           have p154 : 0 ≤ (x7_1 : Int) := of_decide_eq_true asz
           have q154 : x7_1 < (l1.length : Int) := of_decide_eq_true asz
           obtain ⟨ad154, e154, hx154_0⟩ := Kd.at_bool HR1.out x7_1 p154 q154
           (try rw [← Nbq6.out] at hx154_0)
           cases e154
           replace hx154_0 := (HB.out.cell (World.block_lt_of_cell? w _ hx154_0)).trans hx154_0
           replace p154 := eq_true p154
           replace q154 := eq_true q154
           try go_wp2
           have n0_ := Aside0.mk (Kd.R_drew HO_6.out)
           have n1_ := Aside0.mk (below_drew1 HB.out)
           clear HO_6
           clear HB
           have HO_6 := n0_
           have HB := n1_
           clear n0_ n1_
           obtain ⟨Ao33, co33, eo33⟩ := Kd.R_slice HO_6.out
           (first | subst eo33 | (injection eo33 with f1_ f2_ f3_; have f4_ := f1_.symm; have f5_ := f3_.symm; clear f1_ f2_ f3_; subst f4_; subst f5_))
           refine start_ (n := 18) (S := fun w' => True) (ds := []) #[false, false, false, false, false, false, false, false, false, false, false, false, false, false, false, false, false, false] (by kernel_rfl) rfl rfl trivial (fun hHeld => ?_); refine with_tabW dropperref01_made.tab7 dropperref01_made.bits7 (fun HT_ HW_ => ?_)
           generalize wr.drew = w32 at HO_6 HB hHeld ⊢
           refine pst (i := 0) (N := some 35) (bz 18 1) (any_of HT_.out (by kernel_rfl)) ?_
           refine pst (i := 1) (N := some 36) (bz 18 3) (any_of HT_.out (by kernel_rfl)) ?_
           refine pst (i := 2) (N := some 37) (bz 18 7) (any_of HT_.out (by kernel_rfl)) ?_
           refine pst (i := 3) (N := some 38) (bz 18 15) (any_of HT_.out (by kernel_rfl)) ?_
           refine pso (i := 4) (N := some 39) (bz 18 31) (any_of HT_.out (by kernel_rfl)) ?_
           refine pso (i := 5) (N := some 40) (bz 18 63) (any_of HT_.out (by kernel_rfl)) ?_
           refine pso (i := 6) (N := some 41) (bz 18 127) (any_of HT_.out (by kernel_rfl)) ?_
           refine pso (i := 7) (N := some 42) (bz 18 255) (any_of HT_.out (by kernel_rfl)) ?_
           refine pso (i := 8) (N := some 43) (bz 18 511) (any_of HT_.out (by kernel_rfl)) ?_
           refine pso (i := 9) (N := some 44) (bz 18 1023) (any_of HT_.out (by kernel_rfl)) ?_
           refine pso (i := 10) (N := some 45) (bz 18 2047) (any_of HT_.out (by kernel_rfl)) ?_
           refine pso (i := 11) (N := some 46) (bz 18 4095) (any_of HT_.out (by kernel_rfl)) ?_
           refine pso (i := 12) (N := some 47) (bz 18 8191) (any_of HT_.out (by kernel_rfl)) ?_
           refine pso (i := 13) (N := some 48) (bz 18 16383) (any_of HT_.out (by kernel_rfl)) ?_
           refine pso (i := 14) (N := some 49) (bz 18 32767) (any_of HT_.out (by kernel_rfl)) ?_
           refine pso (i := 15) (N := some 50) (bz 18 65535) (any_of HT_.out (by kernel_rfl)) ?_
           refine pst (i := 16) (N := some 51) (bz 18 131071) (any_of HT_.out (by kernel_rfl)) ?_
           refine pst (i := 17) (N := some 34) (bz 18 262143) (any_of HT_.out (by kernel_rfl)) ?_
           refine done_ (done_of HT_.out (by kernel_rfl)) ?_
           try go_wp2
           have n0_ := Aside0.mk (Kd.R_drew HO_6.out)
           have n1_ := Aside0.mk (below_drew1 HB.out)
           clear HO_6
           clear HB
           have HO_6 := n0_
           have HB := n1_
           clear n0_ n1_
           have p164 : 0 ≤ (x7_1 : Int) := of_decide_eq_true asz
           have q164 : x7_1 < (l0.length : Int) := of_decide_eq_true asz
           obtain ⟨ad164, e164, hx164_0⟩ := Kd.at_int HR0.out x7_1 p164 q164
           have hw164_0 := hx164_0
           cases e164
           replace hx164_0 := (HB.out.cell (World.block_lt_of_cell? w _ hx164_0)).trans hx164_0
           replace p164 := eq_true p164
           replace q164 := eq_true q164
           have p165 : 0 ≤ ((ji29) : Int) := of_decide_eq_true asz
           have q165 : (ji29) < (l0.length : Int) := of_decide_eq_true asz
           obtain ⟨ad165, e165, hx165_0⟩ := Kd.at_int HR0.out (ji29) p165 q165
           have hw165_0 := hx165_0
           obtain rfl : ad164 = ad165 := (by injection e165)
           replace hx165_0 := (HB.out.cell (World.block_lt_of_cell? w _ hx165_0)).trans hx165_0
           replace p165 := eq_true p165
           replace q165 := eq_true q165
           refine start_ (n := 14) (S := fun w' => w'.cell? (ad164.add (x7_1).toNat) = some (.int .i64 (rd l0 x7_1)) ∧ w'.cell? (ad164.add ((ji29)).toNat) = some (.int .i64 (rd l0 (ji29)))) (ds := []) #[false, false, false, false, false, false, false, false, false, false, false, false, false, false] (by kernel_rfl) rfl rfl ⟨((HB.out.cell (World.block_lt_of_cell? w _ hw164_0)).trans hw164_0), ((HB.out.cell (World.block_lt_of_cell? w _ hw165_0)).trans hw165_0)⟩ (fun hHeld => ?_); refine with_tabW dropperref01_made.tab5 dropperref01_made.bits5 (fun HT_ HW_ => ?_)
           generalize w32.drew = w34 at HO_6 HB hx164_0 hx165_0 hHeld ⊢
           refine pst (i := 0) (N := some 15) (bz 14 1) (any_of HT_.out (by kernel_rfl)) ?_
           refine pst (i := 1) (N := some 16) (bz 14 3) (any_of HT_.out (by kernel_rfl)) ?_
           refine pst (i := 2) (N := some 17) (bz 14 7) (any_of HT_.out (by kernel_rfl)) ?_
           refine pst (i := 3) (N := some 18) (bz 14 15) (any_of HT_.out (by kernel_rfl)) ?_
           refine pst (i := 5) (N := some 20) (bz 14 47) (any_of HT_.out (by kernel_rfl)) ?_
           refine pst (i := 6) (N := some 21) (bz 14 111) (any_of HT_.out (by kernel_rfl)) ?_
           refine pst (i := 7) (N := some 22) (bz 14 239) (any_of HT_.out (by kernel_rfl)) ?_
           refine pst (i := 8) (N := some 23) (bz 14 495) (any_of HT_.out (by kernel_rfl)) ?_
           refine tst2 (i := 4) (N := some 19) (bz 14 511) (take_ofW HT_.out HW_.out (by kernel_rfl)) hHeld ?_
           refine tst2 (i := 9) (N := some 24) (bz 14 1023) (take_ofW HT_.out HW_.out (by kernel_rfl)) hHeld ?_
           refine pst (i := 10) (N := some 25) (bz 14 2047) (any_of HT_.out (by kernel_rfl)) ?_
           refine one_ (i := 11) (N := some 26) #[true, true, true, true, true, true, true, true, true, true, true, true, false, false] rfl rfl (one_of HT_.out (by kernel_rfl)) (by decide) (fun K hK => ?_)
           refine value_ (w1 := ?_) (v := ?_) (by rfl) rfl ?_ ?_
           rotate_left 2
           ·
            go_simp
            constructor
            ·
             rfl
            ·
             rfl
           refine hK.out _ _ ⟨(World.cell?_alloc_lt _ _ _ (World.block_lt_of_cell? _ _ (((HB.out.cell (World.block_lt_of_cell? w _ hw164_0)).trans hw164_0)))).trans (((HB.out.cell (World.block_lt_of_cell? w _ hw164_0)).trans hw164_0)), (World.cell?_alloc_lt _ _ _ (World.block_lt_of_cell? _ _ (((HB.out.cell (World.block_lt_of_cell? w _ hw165_0)).trans hw165_0)))).trans (((HB.out.cell (World.block_lt_of_cell? w _ hw165_0)).trans hw165_0))⟩ (fun hHeld => ?_)
           clear hK K
           refine norm_ (a' := ?_) ?_ ?_
           rotate_left
           ·
            show Act.put _ (some 26) _ = _
            simp only [Act.put, List.setIfInBounds_toArray, List.set_cons_zero, List.set_cons_succ, i64_w, i32_w]
            rfl
           refine one_ (i := 12) (N := some 27) #[true, true, true, true, true, true, true, true, true, true, true, true, true, false] rfl rfl (one_of HT_.out (by kernel_rfl)) (by decide) (fun K hK => ?_)
           refine Kd.R_append_step k46 (w0 := w) w.heap.size (by rfl) (.tmp 15) (.tmp 26) 22 46 (.agg #[(.int .i64 0), (.int .i64 0)]) 16 rfl Tryd.underlying22 info46 rfl (by decide) (by omega) (.slice Ao33 x6_1.length co33) x6_1 (⟨rd l0 x7_1, rd l0 (ji29)⟩ : S46) [.int .i64 (rd l0 x7_1), .int .i64 (rd l0 (ji29))] (fun _ => True) (fun _ => False) rfl rfl ?aP (fun _ hk => hk.elim) ?aF ?aO ?aB ?aS ?aL ?_
           (case aP => exact k46_mkM _ _ _ (⟨rd l0 x7_1, rd l0 (ji29)⟩ : S46))
           (case aB => exact bel)
           (case aF => exact (fun _ _ => trivial))
           (case aO => exact (ownx HO_6))
           (case aS => exact (below_size bel))
           (case aL => have := LMc31.out; omega)
           intro v167 w35 ho hb hg hat
           rw [← Ny166.out] at ho
           have n0_ := Aside0.mk (hb)
           have n1_ := Aside0.mk (ho)
           clear HB
           clear HO_6
           have HB := n0_
           have HO168 := n1_
           clear n0_ n1_
           clear ho hb hg hat
           refine hK.out _ _ ⟨((HB.out.cell (World.block_lt_of_cell? w _ hw164_0)).trans hw164_0), ((HB.out.cell (World.block_lt_of_cell? w _ hw165_0)).trans hw165_0)⟩ (fun hHeld => ?_)
           clear hK K
           refine norm_ (a' := ?_) ?_ ?_
           rotate_left
           ·
            show Act.put _ (some 27) _ = _
            simp only [Act.put, List.setIfInBounds_toArray, List.set_cons_zero, List.set_cons_succ, i64_w, i32_w]
            rfl
           refine pst (i := 13) (N := some 6) (bz 14 16383) (any_of HT_.out (by kernel_rfl)) ?_
           refine done_ (done_of HT_.out (by kernel_rfl)) ?_
           try go_wp2
           go_roundg k1
           case measure => have := HK1.out; omega
           case rel => exact ⟨(y166), (ji29), (by first | rfl | (simp; done) | (simp only [← hji29] <;> (first | rfl | simp)) | (simp [*]; done)), H', ⟨by have := HK1.out; omega⟩, ⟨by (with_reducible repeat (first | apply Kd.R_alloc | apply Kd.R_drewN | apply Kd.R_drew)); exact HO168.out⟩, ⟨bel⟩⟩
          ·
           rw [if_neg c31] at H
           exact absurd H (by simp)
         ·
          rw [if_neg c30] at H
          exact absurd H (by simp)
        ·
         rw [if_neg c28] at H
         exact absurd H (by simp)
      ·
       replace c7 := Bool.eq_false_iff.mpr c7
       subst c7
       rw [if_neg (show ¬ (false = true) by decide)] at H
       have H' := Aside0.mk H
       clear H
       have p154 : 0 ≤ (x7_1 : Int) := of_decide_eq_true asz
       have q154 : x7_1 < (l1.length : Int) := of_decide_eq_true asz
       obtain ⟨ad154, e154, hx154_0⟩ := Kd.at_bool HR1.out x7_1 p154 q154
       (try rw [← Nbq6.out] at hx154_0)
       cases e154
       replace hx154_0 := (HB.out.cell (World.block_lt_of_cell? w _ hx154_0)).trans hx154_0
       replace p154 := eq_true p154
       replace q154 := eq_true q154
       go_wp2
       go_roundg k1
       case measure => have := HK1.out; omega
       case rel => exact ⟨(x6_1), (wrap64 (x7_1 + 1)), rsz, H', ⟨by have := HK1.out; omega⟩, ⟨by (with_reducible repeat (first | apply Kd.R_alloc | apply Kd.R_drewN | apply Kd.R_drew)); exact HO_6.out⟩, ⟨bel⟩⟩
     ·
      rw [if_neg c5] at H
      exact absurd H (by simp)
    ·
     rw [if_neg c4] at H
     exact absurd H (by simp)
   ·
    rw [if_neg c3] at H
    have c3b0 : decide ((wrap64 (x7_1 + 1)) < (l0.length : Int)) = false := decide_eq_false c3
    clear c3
    by_cases c36 : (x6_1.length : Int) > 60
    ·
     rw [if_pos c36] at H
     have c36b0 : decide (60 < (x6_1.length : Int)) = true := decide_eq_true c36
     have c36b1 : decide (60 < x6_1.length) = true := decide_eq_true (by omega)
     clear c36
     simp only [Option.some.injEq, Prod.mk.injEq] at H
     obtain ⟨rfl, rfl⟩ := H
     obtain ⟨Ao37, co37, eo37⟩ := Kd.R_slice HO_6.out
     subst eo37
     go_wp2
     go_ret2
     exact ⟨_, ezz, by first | exact Kd.R_nil _ _ _ _ _ | exact Kd.N_nil _ _ _ _ _ | exact Kd.V_nil _ _ _ _ _ | exact Kd.Q_nil _ _ _ _ _ | exact Kd.S_nil _ _ _ _ _, bel⟩
    ·
     rw [if_neg c36] at H
     have c36b0 : decide (60 < (x6_1.length : Int)) = false := decide_eq_false c36
     have c36b1 : decide (60 < x6_1.length) = false := decide_eq_false (by omega)
     clear c36
     simp only [Option.some.injEq, Prod.mk.injEq] at H
     obtain ⟨rfl, rfl⟩ := H
     obtain ⟨Ao38, co38, eo38⟩ := Kd.R_slice HO_6.out
     subst eo38
     go_wp2
     go_ret2
     exact ⟨_, ezz, by (with_reducible repeat (first | apply Kd.R_alloc | apply Kd.R_drewN | apply Kd.R_drew)); exact HO_6.out, bel⟩

/-! ### dropperref01_often: function 43 -/
def dropperref01_often.l0 : Nat → List (S46) → Int → List Int → List Bool → Int → Option ((List (S46)) × Int)
 | 0, _, _, _, _, _ => none
 | k + 1, x0, x1, x6, x7, x8 => if x8 < (x6.length : Int) then (if 0 ≤ x8 then ((dropperref01_depth.f k x0 (rd x6 x8)).bind fun t173 => (if x7.length < 140737488355328 then (dropperref01_often.l0 k x0 x1 x6 (x7 ++ [decide (t173 ≥ x1)]) (wrap64 (x8 + 1))) else (none))) else (none)) else ((dropperref01_made.f k x6 x7).bind fun bt177 => (some (bt177.1, bt177.2)))
def dropperref01_often.f (k : Nat) (l0 : List (S46)) (a1 : Int) : Option ((List (S46)) × Int) := (dropperref01_bounds.f l0 ([] : List (S46))).bind fun t169 => (dropperref01_often.l0 k l0 a1 t169 ([] : List Bool) 0)
set_option maxHeartbeats 8000000 in
set_option maxRecDepth 100000 in
theorem dropperref01_often.calls (k : Nat) (A0 : Option Addr) (c0 : Nat) (l0 : List (S46)) (a1 : Int) (r1 : List (S46)) (r2 : Int) (w : World) (hr0 : Kd.C k46 w A0 l0.length l0) (hc0 : l0.length ≤ c0) (h : dropperref01_often.f k l0 a1 = some (r1, r2)) :
  Calls Tryd.prog 43 #[.slice A0 l0.length c0, .int .i64 a1] w fun e w' => ∃ v0_ : Value, e = .returned (.tuple #[v0_, .int .i64 r2]) ∧ Kd.R k46 46 w' w.heap.size (fun _ => True) v0_ r1 ∧ Below w.heap.size w w' := by
 have HR0 := Aside0.mk hr0
 have HC0 := Aside0.mk hc0
 clear hr0 hc0
 have HB := Aside0.mk (Below.refl w.heap.size w)
 have H : ((dropperref01_bounds.f l0 ([] : List (S46))).bind fun t169 => (dropperref01_often.l0 k l0 a1 t169 ([] : List Bool) 0)) = some (r1, r2) := h
 clear h
 replace H := Option.bind_eq_some_iff.mp H
 obtain ⟨t169, A30, H⟩ := H
 try dsimp only at H
 have A3 := Aside0.mk A30
 clear A30
 have H' := Aside0.mk H
 clear H
 go_enter Tryd.func43, Tryd.ntmps43
 go_wp2_with (first | ((with_reducible refine gate_callee (f := 48) rfl ?_); refine goesL_ (some 10) rfl rfl Tryd.func48 (by kernel_rfl) rfl #[.slice A0 l0.length c0, .slice none 0 0] rfl mapz ?_; (refine (dropperref01_bounds.calls _ _ l0 _ _ ([] : List (S46)) t169 _ ?side1 HC0.out ?side3 ?side4 A3.out).mono ?_); (case side1 => repeat (first | exact HR0.out | (with_reducible refine Kd.C_alloc ?_ _) | (with_reducible refine Kd.C_drewN ?_ _) | (with_reducible refine Kd.C_drew ?_))); (case side3 => exact Kd.C_nil _ _); (case side4 => exact Nat.le_refl _); rintro e w4 ⟨v170, rfl, ho0, hb⟩; refine ⟨_, rfl, ?_⟩; have HO171 := Aside0.mk (Kd.R_lower ho0 (below_size bel)); replace HB := Aside0.mk (below_step bel hb); (try clear hb); (try clear hb2); (try clear hk); (try clear hi); (try clear ho0)))
 go_loopg [7, 8] k (fun kq v7 v8 w' => ∃ (x7_1 : List Bool) (x8_1 : Int), v8 = .int .i64 x8_1 ∧ Aside0 (dropperref01_often.l0 kq l0 a1 t169 x7_1 x8_1 = some (r1, r2)) ∧ Aside0 (kq ≤ k) ∧ Aside0 (Kd.R (Kd.int .i64) 3 w' w.heap.size (fun _ => True) v170 t169) ∧ Aside0 (Kd.R Kd.bool 4 w' w.heap.size (fun _ => True) v7 x7_1) ∧ Aside0 (Below w.heap.size w w'))
 case atStart => exact ⟨(([] : List Bool)), (0), rsz, H', ⟨Nat.le_refl _⟩, ⟨by (with_reducible repeat (first | apply Kd.R_alloc | apply Kd.R_drewN | apply Kd.R_drew)); exact HO171.out⟩, ⟨by first | exact Kd.R_nil _ _ _ _ _ | exact Kd.N_nil _ _ _ _ _ | exact Kd.V_nil _ _ _ _ _ | exact Kd.Q_nil _ _ _ _ _ | exact Kd.S_nil _ _ _ _ _⟩, ⟨bel⟩⟩
 case round =>
  clear H'
  (try clear p2); (try clear c4)
  obtain ⟨x7_1, x8_1, rfl, HA, HK1, HO_6, HO_7, HB⟩ := hrel
  cases gk with
  | zero => exact absurd HA.out (by simp [dropperref01_often.l0])
  | succ k1 =>
   have H := HA.out
   clear HA
   simp only [dropperref01_often.l0] at H
   by_cases c5 : x8_1 < (t169.length : Int)
   ·
    rw [if_pos c5] at H
    have c5b0 : decide (x8_1 < (t169.length : Int)) = true := decide_eq_true c5
    clear c5
    by_cases c6 : 0 ≤ x8_1
    ·
     rw [if_pos c6] at H
     have c6b0 : decide (0 ≤ x8_1) = true := decide_eq_true c6
     clear c6
     replace H := Option.bind_eq_some_iff.mp H
     obtain ⟨t173, A70, H⟩ := H
     try dsimp only at H
     have A7 := Aside0.mk A70
     clear A70
     by_cases c8 : x7_1.length < 140737488355328
     ·
      rw [if_pos c8] at H
      have LMc8 := Aside0.mk c8
      clear c8
      obtain ⟨y174, hy174⟩ : ∃ y_ : List Bool, y_ = (x7_1 ++ [decide (t173 ≥ a1)]) := ⟨_, rfl⟩
      replace H : (dropperref01_often.l0 k1 l0 a1 t169 y174 (wrap64 (x8_1 + 1))) = some (r1, r2) := by first | (rw [hy174]; with_reducible exact H) | (have H2_ := (Option.bind_some _ _).symm.trans H; rw [hy174]; with_reducible exact H2_) | (have H2_ := (Option.bind_some _ _).symm.trans H; with_reducible exact H2_) | with_reducible exact H | (rw [hy174]; exact H) | exact H
      have Ny174 := Aside0.mk hy174
      clear hy174
      have H' := Aside0.mk H
      clear H
      obtain ⟨Ao9, co9, eo9⟩ := Kd.R_slice HO_6.out
      subst eo9
      have p172 : 0 ≤ (x8_1 : Int) := of_decide_eq_true asz
      have q172 : x8_1 < (t169.length : Int) := of_decide_eq_true asz
      obtain ⟨ad172, e172, hx172_0⟩ := Kd.at_int (Kd.R_reads' HO_6.out).2.2 x8_1 p172 q172
      cases e172
      replace p172 := eq_true p172
      replace q172 := eq_true q172
      go_wp2_with (first | ((with_reducible refine gate_callee (f := 49) rfl ?_); refine goesL_ (some 23) rfl rfl Tryd.func49 (by kernel_rfl) rfl #[.slice A0 l0.length c0, .int .i64 (rd t169 x8_1)] rfl mapz ?_; (with_reducible refine (dropperref01_depth.calls k1 _ _ l0 (rd t169 x8_1) t173 _ (cbz HR0) HC0.out A7.out).mono ?_); rintro e w' ⟨rfl, ⟨nd, rfl⟩⟩; refine ⟨_, rfl, ?_⟩) | ((with_reducible refine gate_builtin (b := .append) (xs := #[.tmp 17, .tmp 26]) rfl ?_); at_builtin; refine Kd.R_append Kd.bool (w0 := w) w.heap.size rfl (.tmp 17) (.tmp 26) 65 4 (.bool false) 1 rfl Tryd.underlying65 info4 rfl (by decide) (by omega) u7 x7_1 (decide (t173 ≥ a1)) [.bool (decide (t173 ≥ a1))] (fun _ => True) (fun _ => False) rfl rfl ?aP (fun _ hk => hk.elim) ?aF ?aO ?aB ?aS ?aL ?_; (case aP => exact rfl); (case aB => exact bel); (case aF => exact (fun _ _ => trivial)); (case aO => exact (ownx HO_7)); (case aS => exact (below_size bel)); (case aL => have := LMc8.out; omega); intro v175 w10 ho hb hg hat; rw [← Ny174.out] at ho; have n0_ := Aside0.mk (Kd.R_over' (ownx HO_6) (Kd.R_typed (ownx HO_7)) (by decide) hg); have n1_ := Aside0.mk (hb); have n2_ := Aside0.mk (ho); clear HO_6; clear HB; clear HO_7; have HO_6 := n0_; have HB := n1_; have HO176 := n2_; clear n0_ n1_ n2_; clear ho hb hg hat))
      go_roundg k1
      case measure => have := HK1.out; omega
      case rel => exact ⟨(y174), (wrap64 (x8_1 + 1)), rsz, H', ⟨by have := HK1.out; omega⟩, ⟨by (with_reducible repeat (first | apply Kd.R_alloc | apply Kd.R_drewN | apply Kd.R_drew)); exact HO_6.out⟩, ⟨by (with_reducible repeat (first | apply Kd.R_alloc | apply Kd.R_drewN | apply Kd.R_drew)); exact HO176.out⟩, ⟨bel⟩⟩
     ·
      rw [if_neg c8] at H
      exact absurd H (by simp)
    ·
     rw [if_neg c6] at H
     exact absurd H (by simp)
   ·
    rw [if_neg c5] at H
    have c5b0 : decide (x8_1 < (t169.length : Int)) = false := decide_eq_false c5
    clear c5
    replace H := Option.bind_eq_some_iff.mp H
    obtain ⟨⟨t177, t178⟩, A110, H⟩ := H
    try dsimp only at H
    have A11 := Aside0.mk A110
    clear A110
    simp only [Option.some.injEq, Prod.mk.injEq] at H
    obtain ⟨rfl, rfl⟩ := H
    obtain ⟨Ao12, co12, eo12⟩ := Kd.R_slice HO_6.out
    subst eo12
    obtain ⟨Ao13, co13, eo13⟩ := Kd.R_slice HO_7.out
    subst eo13
    go_wp2_with (first | ((with_reducible refine gate_callee (f := 67) rfl ?_); refine goesL_ (some 30) rfl rfl Tryd.func67 (by kernel_rfl) rfl #[.slice Ao12 t169.length co12, .slice Ao13 x7_1.length co13] rfl mapz ?_; (with_reducible refine (dropperref01_made.calls k1 _ _ t169 _ _ x7_1 t177 t178 _ ?side1 ?side2 ?side3 ?side4 A11.out).mono ?_); (case side1 => repeat (first | exact (Kd.R_reads' HO_6.out).2.2 | (with_reducible refine Kd.C_alloc ?_ _) | (with_reducible refine Kd.C_drewN ?_ _) | (with_reducible refine Kd.C_drew ?_))); (case side2 => exact (Kd.R_reads' HO_6.out).2.1); (case side3 => repeat (first | exact (Kd.R_reads' HO_7.out).2.2 | (with_reducible refine Kd.C_alloc ?_ _) | (with_reducible refine Kd.C_drewN ?_ _) | (with_reducible refine Kd.C_drew ?_))); (case side4 => exact (Kd.R_reads' HO_7.out).2.1); rintro e w14 ⟨v179, rfl, ho0, hb⟩; refine ⟨_, rfl, ?_⟩; have HO180 := Aside0.mk (Kd.R_lower ho0 (below_size bel)); replace HO_6 := Aside0.mk (Kd.R_below (ownx HO_6) hb); replace HO_7 := Aside0.mk (Kd.R_below (ownx HO_7) hb); replace HB := Aside0.mk (below_step bel hb); (try clear hb); (try clear hb2); (try clear hk); (try clear hi); (try clear ho0)))
    go_ret2
    exact ⟨_, ezz, by (with_reducible repeat (first | apply Kd.R_alloc | apply Kd.R_drewN | apply Kd.R_drew)); exact HO180.out, bel⟩

/-! ### dropperref01_Clean: function 13 -/
def dropperref01_Clean.f (k : Nat) (l0 : List (S46)) : Option ((List (S46)) × Int) := (dropperref01_raw.f k l0).bind fun t181 => (if t181 = true then ((dropperref01_often.f k l0 1).bind fun bt182 => (some (bt182.1, bt182.2))) else (some (([] : List (S46)), 2)))
set_option maxHeartbeats 8000000 in
set_option maxRecDepth 100000 in
theorem dropperref01_Clean.calls (k : Nat) (A0 : Option Addr) (c0 : Nat) (l0 : List (S46)) (r1 : List (S46)) (r2 : Int) (w : World) (hr0 : Kd.C k46 w A0 l0.length l0) (hc0 : l0.length ≤ c0) (h : dropperref01_Clean.f k l0 = some (r1, r2)) :
  Calls Tryd.prog 13 #[.slice A0 l0.length c0] w fun e w' => ∃ v0_ : Value, e = .returned (.tuple #[v0_, .int .i64 r2]) ∧ Kd.R k46 46 w' w.heap.size (fun _ => True) v0_ r1 ∧ Below w.heap.size w w' := by
 have HR0 := Aside0.mk hr0
 have HC0 := Aside0.mk hc0
 clear hr0 hc0
 have HB := Aside0.mk (Below.refl w.heap.size w)
 have H : ((dropperref01_raw.f k l0).bind fun t181 => (if t181 = true then ((dropperref01_often.f k l0 1).bind fun bt182 => (some (bt182.1, bt182.2))) else (some (([] : List (S46)), 2)))) = some (r1, r2) := h
 clear h
 replace H := Option.bind_eq_some_iff.mp H
 obtain ⟨t181, A20, H⟩ := H
 try dsimp only at H
 have A2 := Aside0.mk A20
 clear A20
 by_cases c3 : t181 = true
 ·
  subst c3
  rw [if_pos rfl] at H
  replace H := Option.bind_eq_some_iff.mp H
  obtain ⟨⟨t182, t183⟩, A40, H⟩ := H
  try dsimp only at H
  have A4 := Aside0.mk A40
  clear A40
  simp only [Option.some.injEq, Prod.mk.injEq] at H
  obtain ⟨rfl, rfl⟩ := H
  go_enter Tryd.func13, Tryd.ntmps13
  go_wp2_with (first | ((with_reducible refine gate_callee (f := 42) rfl ?_); refine goesL_ (some 5) rfl rfl Tryd.func42 (by kernel_rfl) rfl #[.slice A0 l0.length c0] rfl mapz ?_; (with_reducible refine (dropperref01_raw.calls k _ _ l0 true _ ?side1 HC0.out A2.out).mono ?_); (case side1 => repeat (first | exact HR0.out | (with_reducible refine Kd.C_alloc ?_ _) | (with_reducible refine Kd.C_drewN ?_ _) | (with_reducible refine Kd.C_drew ?_))); rintro e w5 ⟨rfl, hb⟩; refine ⟨_, rfl, ?_⟩; replace HB := Aside0.mk (below_step bel hb); clear hb) | ((with_reducible refine gate_callee (f := 43) rfl ?_); refine goesL_ (some 8) rfl rfl Tryd.func43 (by kernel_rfl) rfl #[.slice A0 l0.length c0, .int .i64 1] rfl mapz ?_; (with_reducible refine (dropperref01_often.calls k _ _ l0 1 t182 t183 _ (cbz HR0) HC0.out A4.out).mono ?_); rintro e w6 ⟨v184, rfl, ho0, hb⟩; refine ⟨_, rfl, ?_⟩; have HO185 := Aside0.mk (Kd.R_lower ho0 (below_size bel)); replace HB := Aside0.mk (below_step bel hb); (try clear hb); (try clear hb2); (try clear hk); (try clear hi); (try clear ho0)))
  go_ret2
  exact ⟨_, ezz, by (with_reducible repeat (first | apply Kd.R_alloc | apply Kd.R_drewN | apply Kd.R_drew)); exact HO185.out, bel⟩
 ·
  replace c3 := Bool.eq_false_iff.mpr c3
  subst c3
  rw [if_neg (show ¬ (false = true) by decide)] at H
  simp only [Option.some.injEq, Prod.mk.injEq] at H
  obtain ⟨rfl, rfl⟩ := H
  go_enter Tryd.func13, Tryd.ntmps13
  go_wp2_with (first | ((with_reducible refine gate_callee (f := 42) rfl ?_); refine goesL_ (some 5) rfl rfl Tryd.func42 (by kernel_rfl) rfl #[.slice A0 l0.length c0] rfl mapz ?_; (with_reducible refine (dropperref01_raw.calls k _ _ l0 false _ ?side1 HC0.out A2.out).mono ?_); (case side1 => repeat (first | exact HR0.out | (with_reducible refine Kd.C_alloc ?_ _) | (with_reducible refine Kd.C_drewN ?_ _) | (with_reducible refine Kd.C_drew ?_))); rintro e w7 ⟨rfl, hb⟩; refine ⟨_, rfl, ?_⟩; replace HB := Aside0.mk (below_step bel hb); clear hb))
  go_ret2
  exact ⟨_, ezz, by first | exact Kd.R_nil _ _ _ _ _ | exact Kd.N_nil _ _ _ _ _ | exact Kd.V_nil _ _ _ _ _ | exact Kd.Q_nil _ _ _ _ _ | exact Kd.S_nil _ _ _ _ _, bel⟩

/-! ### dropperref01_Often: function 15 -/
def dropperref01_Often.f (k : Nat) (l0 : List (S46)) (a1 : Int) : Option ((List (S46)) × Int) := (dropperref01_raw.f k l0).bind fun t186 => (if t186 = true then (if a1 < 1 then (some (([] : List (S46)), 2)) else (if a1 > 200 then (some (([] : List (S46)), 2)) else ((dropperref01_often.f k l0 a1).bind fun bt187 => (some (bt187.1, bt187.2))))) else (some (([] : List (S46)), 2)))
set_option maxHeartbeats 8000000 in
set_option maxRecDepth 100000 in
theorem dropperref01_Often.calls (k : Nat) (A0 : Option Addr) (c0 : Nat) (l0 : List (S46)) (a1 : Int) (r1 : List (S46)) (r2 : Int) (w : World) (hr0 : Kd.C k46 w A0 l0.length l0) (hc0 : l0.length ≤ c0) (h : dropperref01_Often.f k l0 a1 = some (r1, r2)) :
  Calls Tryd.prog 15 #[.slice A0 l0.length c0, .int .i64 a1] w fun e w' => ∃ v0_ : Value, e = .returned (.tuple #[v0_, .int .i64 r2]) ∧ Kd.R k46 46 w' w.heap.size (fun _ => True) v0_ r1 ∧ Below w.heap.size w w' := by
 have HR0 := Aside0.mk hr0
 have HC0 := Aside0.mk hc0
 clear hr0 hc0
 have HB := Aside0.mk (Below.refl w.heap.size w)
 have H : ((dropperref01_raw.f k l0).bind fun t186 => (if t186 = true then (if a1 < 1 then (some (([] : List (S46)), 2)) else (if a1 > 200 then (some (([] : List (S46)), 2)) else ((dropperref01_often.f k l0 a1).bind fun bt187 => (some (bt187.1, bt187.2))))) else (some (([] : List (S46)), 2)))) = some (r1, r2) := h
 clear h
 replace H := Option.bind_eq_some_iff.mp H
 obtain ⟨t186, A30, H⟩ := H
 try dsimp only at H
 have A3 := Aside0.mk A30
 clear A30
 by_cases c4 : t186 = true
 ·
  subst c4
  rw [if_pos rfl] at H
  by_cases c5 : a1 < 1
  ·
   rw [if_pos c5] at H
   have c5b0 : decide (a1 < 1) = true := decide_eq_true c5
   clear c5
   simp only [Option.some.injEq, Prod.mk.injEq] at H
   obtain ⟨rfl, rfl⟩ := H
   go_enter Tryd.func15, Tryd.ntmps15
   go_wp2_with (first | ((with_reducible refine gate_callee (f := 42) rfl ?_); refine goesL_ (some 7) rfl rfl Tryd.func42 (by kernel_rfl) rfl #[.slice A0 l0.length c0] rfl mapz ?_; (with_reducible refine (dropperref01_raw.calls k _ _ l0 true _ ?side1 HC0.out A3.out).mono ?_); (case side1 => repeat (first | exact HR0.out | (with_reducible refine Kd.C_alloc ?_ _) | (with_reducible refine Kd.C_drewN ?_ _) | (with_reducible refine Kd.C_drew ?_))); rintro e w6 ⟨rfl, hb⟩; refine ⟨_, rfl, ?_⟩; replace HB := Aside0.mk (below_step bel hb); clear hb))
   go_ret2
   exact ⟨_, ezz, by first | exact Kd.R_nil _ _ _ _ _ | exact Kd.N_nil _ _ _ _ _ | exact Kd.V_nil _ _ _ _ _ | exact Kd.Q_nil _ _ _ _ _ | exact Kd.S_nil _ _ _ _ _, bel⟩
  ·
   rw [if_neg c5] at H
   have c5b0 : decide (a1 < 1) = false := decide_eq_false c5
   clear c5
   by_cases c7 : a1 > 200
   ·
    rw [if_pos c7] at H
    have c7b0 : decide (200 < a1) = true := decide_eq_true c7
    clear c7
    simp only [Option.some.injEq, Prod.mk.injEq] at H
    obtain ⟨rfl, rfl⟩ := H
    go_enter Tryd.func15, Tryd.ntmps15
    go_wp2_with (first | ((with_reducible refine gate_callee (f := 42) rfl ?_); refine goesL_ (some 7) rfl rfl Tryd.func42 (by kernel_rfl) rfl #[.slice A0 l0.length c0] rfl mapz ?_; (with_reducible refine (dropperref01_raw.calls k _ _ l0 true _ ?side1 HC0.out A3.out).mono ?_); (case side1 => repeat (first | exact HR0.out | (with_reducible refine Kd.C_alloc ?_ _) | (with_reducible refine Kd.C_drewN ?_ _) | (with_reducible refine Kd.C_drew ?_))); rintro e w8 ⟨rfl, hb⟩; refine ⟨_, rfl, ?_⟩; replace HB := Aside0.mk (below_step bel hb); clear hb))
    go_ret2
    exact ⟨_, ezz, by first | exact Kd.R_nil _ _ _ _ _ | exact Kd.N_nil _ _ _ _ _ | exact Kd.V_nil _ _ _ _ _ | exact Kd.Q_nil _ _ _ _ _ | exact Kd.S_nil _ _ _ _ _, bel⟩
   ·
    rw [if_neg c7] at H
    have c7b0 : decide (200 < a1) = false := decide_eq_false c7
    clear c7
    replace H := Option.bind_eq_some_iff.mp H
    obtain ⟨⟨t187, t188⟩, A90, H⟩ := H
    try dsimp only at H
    have A9 := Aside0.mk A90
    clear A90
    simp only [Option.some.injEq, Prod.mk.injEq] at H
    obtain ⟨rfl, rfl⟩ := H
    go_enter Tryd.func15, Tryd.ntmps15
    go_wp2_with (first | ((with_reducible refine gate_callee (f := 42) rfl ?_); refine goesL_ (some 7) rfl rfl Tryd.func42 (by kernel_rfl) rfl #[.slice A0 l0.length c0] rfl mapz ?_; (with_reducible refine (dropperref01_raw.calls k _ _ l0 true _ ?side1 HC0.out A3.out).mono ?_); (case side1 => repeat (first | exact HR0.out | (with_reducible refine Kd.C_alloc ?_ _) | (with_reducible refine Kd.C_drewN ?_ _) | (with_reducible refine Kd.C_drew ?_))); rintro e w10 ⟨rfl, hb⟩; refine ⟨_, rfl, ?_⟩; replace HB := Aside0.mk (below_step bel hb); clear hb) | ((with_reducible refine gate_callee (f := 43) rfl ?_); refine goesL_ (some 19) rfl rfl Tryd.func43 (by kernel_rfl) rfl #[.slice A0 l0.length c0, .int .i64 a1] rfl mapz ?_; (with_reducible refine (dropperref01_often.calls k _ _ l0 a1 t187 t188 _ (cbz HR0) HC0.out A9.out).mono ?_); rintro e w11 ⟨v189, rfl, ho0, hb⟩; refine ⟨_, rfl, ?_⟩; have HO190 := Aside0.mk (Kd.R_lower ho0 (below_size bel)); replace HB := Aside0.mk (below_step bel hb); (try clear hb); (try clear hb2); (try clear hk); (try clear hi); (try clear ho0)))
    go_ret2
    exact ⟨_, ezz, by (with_reducible repeat (first | apply Kd.R_alloc | apply Kd.R_drewN | apply Kd.R_drew)); exact HO190.out, bel⟩
 ·
  replace c4 := Bool.eq_false_iff.mpr c4
  subst c4
  rw [if_neg (show ¬ (false = true) by decide)] at H
  simp only [Option.some.injEq, Prod.mk.injEq] at H
  obtain ⟨rfl, rfl⟩ := H
  go_enter Tryd.func15, Tryd.ntmps15
  go_wp2_with (first | ((with_reducible refine gate_callee (f := 42) rfl ?_); refine goesL_ (some 7) rfl rfl Tryd.func42 (by kernel_rfl) rfl #[.slice A0 l0.length c0] rfl mapz ?_; (with_reducible refine (dropperref01_raw.calls k _ _ l0 false _ ?side1 HC0.out A3.out).mono ?_); (case side1 => repeat (first | exact HR0.out | (with_reducible refine Kd.C_alloc ?_ _) | (with_reducible refine Kd.C_drewN ?_ _) | (with_reducible refine Kd.C_drew ?_))); rintro e w12 ⟨rfl, hb⟩; refine ⟨_, rfl, ?_⟩; replace HB := Aside0.mk (below_step bel hb); clear hb))
  go_ret2
  exact ⟨_, ezz, by first | exact Kd.R_nil _ _ _ _ _ | exact Kd.N_nil _ _ _ _ _ | exact Kd.V_nil _ _ _ _ _ | exact Kd.Q_nil _ _ _ _ _ | exact Kd.S_nil _ _ _ _ _, bel⟩

end Go.Proofs.YtcmdcgghpkcchaaDoor.XMast
-- Written by wip/xprint.py of this repo, over the kit's print.py: out of the translation; the oracles in it are by hand. Not trusted: Lean checks it.
namespace Go.Proofs.YtcmdcgghpkcchaaDoor.XMast
open Go.RowKit Go.Proofs.YtcmdcgghpkcchaaDoorW.PrintWords Go.Proofs.YtcmdcgghpkcchaaDoorW.PrintLast Go.Proofs.YtcmdcgghpkcchaaDoorW.PrintMore
attribute [local go_sem] max2_int min2_int max_two min_two max_three min_three max_four min_four   -- for this text's walks alone
set_option linter.unusedVariables false
set_option linter.unusedSimpArgs false

theorem eqA46 (d : Nat) (w : World) (x0 y0 : Int) (x1 y1 : Int) :
  (Op.equalIn (d + 2) 46 (.agg #[.int .i64 x0, .int .i64 x1]) (.agg #[.int .i64 y0, .int .i64 y1])).run Tryd.prog w = .ok (x0 == y0 && (x1 == y1)) w := by
 refine eqA_of Tryd.underlying46 (by kernel_rfl) ?_
 refine eqf_cons (by rfl) (by go_simp; rfl) (by go_simp; rfl) (by go_simp) ?_
 exact eqf_last (by rfl) (by go_simp; rfl) (by go_simp; rfl) (by go_simp)
end Go.Proofs.YtcmdcgghpkcchaaDoor.XMast

namespace Go.Proofs.YtcmdcgghpkcchaaDoor.XMast
open Go.RowKit Go.Proofs.YtcmdcgghpkcchaaDoorW.PrintWords Go.Proofs.YtcmdcgghpkcchaaDoorW.PrintLast Go.Proofs.YtcmdcgghpkcchaaDoorW.PrintMore
attribute [local go_sem] max2_int min2_int max_two min_two max_three min_three max_four min_four   -- for this text's walks alone
set_option linter.unusedVariables false
set_option linter.unusedSimpArgs false
attribute [local go_sem high] eqA46
/-! ### dropperlaw01_Same: function 16 -/
def dropperlaw01_Same.l0 : Nat → List (S46) → List (S46) → Int → Option (Bool)
 | 0, _, _, _ => none
 | k + 1, x0, x1, x5 => if x5 < (x0.length : Int) then (if 0 ≤ x5 then (if x5 < (x1.length : Int) then (if (!(((rd_T46 x0 x5).f0) == ((rd_T46 x1 x5).f0)) || (!(((rd_T46 x0 x5).f1) == ((rd_T46 x1 x5).f1)))) = true then (some false) else (dropperlaw01_Same.l0 k x0 x1 (wrap64 (x5 + 1)))) else (none)) else (none)) else (some true)
def dropperlaw01_Same.f (k : Nat) (l0 : List (S46)) (l1 : List (S46)) : Option (Bool) := if (l0.length : Int) = (l1.length : Int) then (dropperlaw01_Same.l0 k l0 l1 0) else (some false)
set_option maxHeartbeats 8000000 in
set_option maxRecDepth 100000 in
theorem dropperlaw01_Same.calls (k : Nat) (A0 : Option Addr) (c0 : Nat) (l0 : List (S46)) (A1 : Option Addr) (c1 : Nat) (l1 : List (S46)) (r : Bool) (w : World) (hr0 : Kd.C k46 w A0 l0.length l0) (hc0 : l0.length ≤ c0) (hr1 : Kd.C k46 w A1 l1.length l1) (hc1 : l1.length ≤ c1) (h : dropperlaw01_Same.f k l0 l1 = some r) :
  Calls Tryd.prog 16 #[.slice A0 l0.length c0, .slice A1 l1.length c1] w fun e w' => e = .returned (.bool r) ∧ Drawn0 w w' := by
 have hu46 := Tryd.underlying46
 have HR0 := Aside0.mk hr0
 have HC0 := Aside0.mk hc0
 clear hr0 hc0
 have HR1 := Aside0.mk hr1
 have HC1 := Aside0.mk hc1
 clear hr1 hc1
 have H : (if (l0.length : Int) = (l1.length : Int) then (dropperlaw01_Same.l0 k l0 l1 0) else (some false)) = some r := h
 clear h
 by_cases c3 : (l0.length : Int) = (l1.length : Int)
 ·
  rw [if_pos c3] at H
  have c3b0 : ((l0.length : Int) == (l1.length : Int)) = true := beq_iff_eq.mpr c3
  have c3b1 : ((l0.length : Int) != (l1.length : Int)) = false := bne_eq_false_iff_eq.mpr c3
  have c3b2 : (l0.length == l1.length) = true := by first | simpa using c3 | (simp at c3 ⊢; omega)
  clear c3
  have H' := Aside0.mk H
  clear H
  go_enter Tryd.func16, Tryd.ntmps16
  go_wp2
  repeat (go_quiet (fail); try go_wp2)
  go_loopg [5] k (fun kq v5 w' => ∃ (x5_1 : Int), v5 = .int .i64 x5_1 ∧ Aside0 (dropperlaw01_Same.l0 kq l0 l1 x5_1 = some r) ∧ Aside0 (kq ≤ k) ∧ Drawn0 w w')
  case atStart => exact ⟨(0), rsz, H', ⟨Nat.le_refl _⟩, drz⟩
  case round =>
   clear H'
   (try clear c1); (try clear p2); (try clear c3); (try clear c3b0); (try clear c3b1); (try clear c3b2)
   obtain ⟨x5_1, rfl, HA, HK1, ⟨m1, rfl⟩⟩ := hrel
   cases gk with
   | zero => exact absurd HA.out (by simp [dropperlaw01_Same.l0])
   | succ k1 =>
    have H := HA.out
    clear HA
    simp only [dropperlaw01_Same.l0] at H
    by_cases c4 : x5_1 < (l0.length : Int)
    ·
     rw [if_pos c4] at H
     have c4b0 : decide (x5_1 < (l0.length : Int)) = true := decide_eq_true c4
     clear c4
     by_cases c5 : 0 ≤ x5_1
     ·
      rw [if_pos c5] at H
      have c5b0 : decide (0 ≤ x5_1) = true := decide_eq_true c5
      clear c5
      by_cases c6 : x5_1 < (l1.length : Int)
      ·
       rw [if_pos c6] at H
       have c6b0 : decide (x5_1 < (l1.length : Int)) = true := decide_eq_true c6
       clear c6
       by_cases c7 : (!(((rd_T46 l0 x5_1).f0) == ((rd_T46 l1 x5_1).f0)) || (!(((rd_T46 l0 x5_1).f1) == ((rd_T46 l1 x5_1).f1)))) = true
       ·
        rw [if_pos c7] at H
        have c7b0 : (!(((rd_T46 l0 x5_1).f0) == ((rd_T46 l1 x5_1).f0)) || (!(((rd_T46 l0 x5_1).f1) == ((rd_T46 l1 x5_1).f1)))) = true := c7
        clear c7
        obtain rfl := Option.some.inj H
        have p191 : 0 ≤ (x5_1 : Int) := of_decide_eq_true asz
        have q191 : x5_1 < (l0.length : Int) := of_decide_eq_true asz
        obtain ⟨ad191, e191, hx191_0, hx191_1⟩ := at_T46 HR0.out x5_1 p191 q191
        cases e191
        replace p191 := eq_true p191
        replace q191 := eq_true q191
        have p192 : 0 ≤ (x5_1 : Int) := of_decide_eq_true asz
        have q192 : x5_1 < (l1.length : Int) := of_decide_eq_true asz
        obtain ⟨ad192, e192, hx192_0, hx192_1⟩ := at_T46 HR1.out x5_1 p192 q192
        cases e192
        replace p192 := eq_true p192
        replace q192 := eq_true q192
        go_wp2
        repeat (go_quiet (fail); try go_wp2)
        go_ret
        exact ⟨by first | rfl | (simp; done) | (simp [*]; done), drz⟩
       ·
        rw [if_neg c7] at H
        have c7b0 : (!(((rd_T46 l0 x5_1).f0) == ((rd_T46 l1 x5_1).f0)) || (!(((rd_T46 l0 x5_1).f1) == ((rd_T46 l1 x5_1).f1)))) = false := by simpa using c7
        clear c7
        have H' := Aside0.mk H
        clear H
        have p191 : 0 ≤ (x5_1 : Int) := of_decide_eq_true asz
        have q191 : x5_1 < (l0.length : Int) := of_decide_eq_true asz
        obtain ⟨ad191, e191, hx191_0, hx191_1⟩ := at_T46 HR0.out x5_1 p191 q191
        cases e191
        replace p191 := eq_true p191
        replace q191 := eq_true q191
        have p192 : 0 ≤ (x5_1 : Int) := of_decide_eq_true asz
        have q192 : x5_1 < (l1.length : Int) := of_decide_eq_true asz
        obtain ⟨ad192, e192, hx192_0, hx192_1⟩ := at_T46 HR1.out x5_1 p192 q192
        cases e192
        replace p192 := eq_true p192
        replace q192 := eq_true q192
        go_wp2
        repeat (go_quiet (fail); try go_wp2)
        go_roundg k1
        case measure => have := HK1.out; omega
        case rel => exact ⟨(wrap64 (x5_1 + 1)), rsz, H', ⟨by have := HK1.out; omega⟩, drz⟩
      ·
       rw [if_neg c6] at H
       exact absurd H (by simp)
     ·
      rw [if_neg c5] at H
      exact absurd H (by simp)
    ·
     rw [if_neg c4] at H
     have c4b0 : decide (x5_1 < (l0.length : Int)) = false := decide_eq_false c4
     clear c4
     obtain rfl := Option.some.inj H
     go_wp2
     repeat (go_quiet (fail); try go_wp2)
     go_ret
     exact ⟨by first | rfl | (simp; done) | (simp [*]; done), drz⟩
 ·
  rw [if_neg c3] at H
  have c3b0 : ((l0.length : Int) == (l1.length : Int)) = false := beq_eq_false_iff_ne.mpr c3
  have c3b1 : ((l0.length : Int) != (l1.length : Int)) = true := bne_iff_ne.mpr c3
  have c3b2 : (l0.length == l1.length) = false := by first | simpa using c3 | (simp at c3 ⊢; omega)
  obtain rfl := Option.some.inj H
  go_enter Tryd.func16, Tryd.ntmps16
  go_wp2
  repeat (go_quiet (fail); try go_wp2)
  go_ret
  exact ⟨by first | rfl | (simp; done) | (simp [*]; done), drz⟩

end Go.Proofs.YtcmdcgghpkcchaaDoor.XMast
namespace Go.Proofs.YtcmdcgghpkcchaaDoor.XMast
open Go.RowKit Go.Proofs.YtcmdcgghpkcchaaDoorW.PrintWords Go.Proofs.YtcmdcgghpkcchaaDoorW.PrintLast Go.Proofs.YtcmdcgghpkcchaaDoorW.PrintMore
attribute [local go_sem] max2_int min2_int max_two min_two max_three min_three max_four min_four   -- for this text's walks alone
set_option linter.unusedVariables false
set_option linter.unusedSimpArgs false
/-! ### mast_Deepest: function 17 -/
def mast_Deepest.f (l0 : List S46) : Option (Int × Int × Int) := (mast_raw.f l0).bind fun e => if e = 0 then some ((Lay.deep (Lay.srt (Lay.chg 1 l0)) 0 0 0).1, (Lay.deep (Lay.srt (Lay.chg 1 l0)) 0 0 0).2, 0) else some (0, 0, e)
set_option maxHeartbeats 8000000 in
set_option maxRecDepth 100000 in
theorem mast_Deepest.calls (A0 : Option Addr) (c0 : Nat) (l0 : List S46) (r1 r2 r3 : Int) (w : World) (hr0 : Kd.C k46 w A0 l0.length l0) (hc0 : l0.length ≤ c0) (h : mast_Deepest.f l0 = some (r1, r2, r3)) :
  Calls Tryd.prog 17 #[.slice A0 l0.length c0] w fun e w' => e = .returned (.tuple #[.int .i64 r1, .int .i64 r2, .int .i64 r3]) ∧ Below w.heap.size w w' := by
 have HR := Aside0.mk hr0
 have HC := Aside0.mk hc0
 have hu2 := Tryd.underlying54
 clear hr0 hc0
 unfold mast_Deepest.f at h
 obtain ⟨e0, he0, h1⟩ := Option.bind_eq_some_iff.1 h
 have HE := Aside0.mk he0
 clear h he0
 by_cases hz : e0 = 0
 ·
  subst hz
  rw [if_pos rfl] at h1
  have HRW := Aside0.mk (mast_Often.raw0 HE.out)
  have H1 := Aside0.mk (Option.some.inj h1)
  clear h1
  have L0 : Aside0 (l0.length ≤ 1000) := ⟨by have := HRW.out.1; omega⟩
  go_enter Tryd.func17, Tryd.ntmps17
  go_wp2_with (first | (go_at_call 44; (with_reducible refine (mast_raw.calls _ _ l0 0 _ HR.out HC.out HE.out).mono ?_); rintro e w1 ⟨rfl, hb⟩; have HB0 := Aside0.mk hb; clear hb) | (go_at_call 46; (with_reducible refine (Lay.changes _ _ l0 1 _ (Kd.C_below HR.out HB0.out) HC.out L0.out (Or.inl rfl)).mono ?_); rintro e w2 ⟨v, ys, rfl, hp, hs, hr, hb⟩; obtain ⟨A, cc, e2⟩ := Kd.R_slice hr; subst e2; have HP := Aside0.mk hp; have HSO := Aside0.mk hs; have HRY := Aside0.mk hr; have HB := Aside0.mk (below_step HB0.out hb); clear hp hs hr hb))
  obtain ⟨RES, hRES⟩ : ∃ RES, RES = Lay.deep ys 0 0 0 := ⟨_, rfl⟩
  have HRES := Aside0.mk hRES
  have HN : Aside0 (ys.length ≤ 1000) := ⟨by rw [HP.out.length_eq, Lay.chg_length]; have := HRW.out.1; omega⟩
  clear hRES
  obtain ⟨n0, hn0⟩ : ∃ n0, n0 = ys.length := ⟨_, rfl⟩
  rw [← hn0]
  have HN0 := Aside0.mk hn0
  have hn1000 : n0 ≤ 1000 := by rw [hn0]; exact HN.out
  clear hn0
  have HRY0 : Aside0 (Lay.kCh.R 54 w2 w.heap.size (fun _ => True) (.slice A n0 cc) ys) := ⟨by rw [HN0.out]; exact Kd.R_lower HRY.out (below_size HB0.out)⟩
  clear HRY
  go_loopg [2, 3, 6, 19] n0 (fun kq v2 v3 v6 v19 w' => ∃ (x lv m d : Int), v2 = .int .i64 m ∧ v3 = .int .i64 d ∧ v6 = .int .i64 lv ∧ v19 = .int .i64 x ∧ Aside0 (0 ≤ x ∧ x ≤ n0) ∧ Aside0 (kq = n0 - x.toNat) ∧ Aside0 (Lay.deep (ys.drop x.toNat) lv m d = RES) ∧ Aside0 (Lay.kCh.R 54 w' w.heap.size (fun _ => True) (.slice A n0 cc) ys) ∧ Aside0 (Below w.heap.size w w'))
  case atStart => exact ⟨0, 0, 0, 0, rfl, rfl, rfl, rfl, ⟨by omega, by omega⟩, ⟨rfl⟩, ⟨HRES.out.symm⟩, HRY0, HB⟩
  case round =>
   clear HRY0 HB
   obtain ⟨x, lv, m, d, rfl, rfl, rfl, rfl, HI, HK, HS, HRY, HB⟩ := hrel
   by_cases hlt : x < (n0 : Int)
   ·
    have h1 : decide (x < (n0 : Int)) = true := decide_eq_true hlt
    have p1 : 0 ≤ x := HI.out.1
    obtain ⟨A', c', e2, hc2, hread⟩ := Kd.R_reads HRY.out
    have e2' : A = A' := by injection e2
    subst e2'
    rw [← HN0.out] at hread
    have HRD := Aside0.mk hread
    clear hread hc2 e2
    obtain ⟨ad, e1, hx0, hx1⟩ := Lay.atCh HRD.out x p1 hlt
    cases e1
    obtain ⟨hd1, hd2⟩ := Lay.rdCh_get (l := ys) p1 (by rw [← HN0.out]; exact hlt)
    have p2 : (x : Int) ≤ 1000 := by omega
    have hs := HS.out
    rw [hd1, Lay.deep] at hs
    obtain ⟨X, hX⟩ : ∃ X, X = Lay.rdCh ys x := ⟨_, rfl⟩
    rw [← hX] at hx0 hx1 hs
    clear hX hd1 hd2
    have HSS := Aside0.mk hs
    clear hs HS
    go_wp2_with (fail)
    obtain ⟨w1, hw1⟩ : ∃ w1, w1 = wr.alloc (.cells #[.int .i64 X.f0, .int .i64 X.f1] 54) := ⟨_, rfl⟩
    have B1 : Aside0 (w1.heap[wr.heap.size]? = some (.cells #[.int .i64 X.f0, .int .i64 X.f1] 54 (0, 0))) := ⟨by rw [hw1]; exact blk_new _ _⟩
    have HRY1 : Aside0 (Lay.kCh.R 54 w1 w.heap.size (fun _ => True) (.slice (some ad) n0 cc) ys) := ⟨by rw [hw1]; exact Kd.R_below HRY.out (below_alloc (Below.refl _ _) _)⟩
    have HRD1 : Aside0 (Kd.C Lay.kCh w1 (some ad) n0 ys) := ⟨by rw [hw1]; exact Kd.C_below HRD.out (below_alloc (Below.refl _ _) _)⟩
    have HB1 : Aside0 (Below w.heap.size w w1) := ⟨by rw [hw1]; exact below_alloc HB.out _⟩
    rw [← hw1]
    clear hw1 HRY HB HRD hx0 hx1
    generalize wr.heap.size = gb at B1 ⊢
    have hss := HSS.out
    generalize wrap64 (lv + X.f1) = lz at hss ⊢
    clear HSS
    have k0 := blkc B1.out 0 (.int .i64 X.f0) rfl
    have rw1 : IntKind.i64.wrap (x + 1) = x + 1 := by rw [IntKind.wrap_i64]; omega
    by_cases hn : x + 1 < (n0 : Int)
    ·
     have hn1 : (x + 1 == (n0 : Int)) = false := by simp; omega
     have hn2 : x + 1 ≠ (n0 : Int) := by omega
     have q1 : (0 : Int) ≤ x + 1 := by omega
     obtain ⟨ad', e1, hy0, hy1⟩ := Lay.atCh HRD1.out (x + 1) q1 hn
     have e1' : ad = ad' := by injection e1
     subst e1'
     clear e1
     obtain ⟨hd1, hd2⟩ := Lay.rdCh_get (l := ys) q1 (by rw [← HN0.out]; exact hn)
     obtain ⟨Y, hY⟩ : ∃ Y, Y = Lay.rdCh ys (x + 1) := ⟨_, rfl⟩
     rw [← hY] at hy0 hy1 hd2
     clear hY hd1
     by_cases heq : Y.f0 = X.f0
     ·
      have b2 : (Y.f0 == X.f0) = true := by simp [heq]
      have b3 : (Y.f0 != X.f0) = false := by simp [heq]
      rw [if_neg (by rw [hd2]; simp [heq])] at hss
      have HS2 := Aside0.mk hss
      clear hss heq hd2
      go_quiet (fail)
      have B2 := Aside0.mk (blk_drewN B1.out nq)
      have HRY2 := Aside0.mk (Kd.R_drewN HRY1.out nq)
      have HB2 := Aside0.mk (pw_below_drewN HB1.out nq)
      clear B1 HRY1 HB1 HRD1 k0
      generalize w1.drewN nq = w2 at B2 HRY2 HB2 ⊢
      have k0 := blkc B2.out 0 (.int .i64 X.f0) rfl
      go_wp2
      go_roundg (n0 - (x + 1).toNat)
      case measure => have := HI.out; have := HK.out; omega
      case rel => exact ⟨x + 1, lz, m, d, rfl, rfl, rfl, by first | rfl | (rw [show wrap64 (x + 1) = x + 1 by unfold wrap64; omega]), ⟨by omega, by omega⟩, ⟨rfl⟩, HS2, HRY2, HB2⟩
     ·
      have b2 : (Y.f0 == X.f0) = false := by simp [heq]
      have b3 : (Y.f0 != X.f0) = true := by simp [heq]
      by_cases hgt : d < lz
      ·
       have b4 : decide (d < lz) = true := decide_eq_true hgt
       rw [if_pos ⟨by rw [hd2]; simp [heq], hgt⟩] at hss
       have HS2 := Aside0.mk hss
       clear hss heq hd2
       go_quiet (fail)
       have B2 := Aside0.mk (blk_drewN B1.out nq)
       have HRY2 := Aside0.mk (Kd.R_drewN HRY1.out nq)
       have HB2 := Aside0.mk (pw_below_drewN HB1.out nq)
       clear B1 HRY1 HB1 HRD1 k0
       generalize w1.drewN nq = w2 at B2 HRY2 HB2 ⊢
       have k0 := blkc B2.out 0 (.int .i64 X.f0) rfl
       go_wp2
       go_roundg (n0 - (x + 1).toNat)
       case measure => have := HI.out; have := HK.out; omega
       case rel => exact ⟨x + 1, lz, X.f0, lz, rfl, rfl, rfl, by first | rfl | (rw [show wrap64 (x + 1) = x + 1 by unfold wrap64; omega]), ⟨by omega, by omega⟩, ⟨rfl⟩, HS2, HRY2, HB2⟩
      ·
       have b4 : decide (d < lz) = false := decide_eq_false hgt
       rw [if_neg (fun h => hgt h.2)] at hss
       have HS2 := Aside0.mk hss
       clear hss heq hd2
       go_quiet (fail)
       have B2 := Aside0.mk (blk_drewN B1.out nq)
       have HRY2 := Aside0.mk (Kd.R_drewN HRY1.out nq)
       have HB2 := Aside0.mk (pw_below_drewN HB1.out nq)
       clear B1 HRY1 HB1 HRD1 k0
       generalize w1.drewN nq = w2 at B2 HRY2 HB2 ⊢
       have k0 := blkc B2.out 0 (.int .i64 X.f0) rfl
       go_wp2
       go_roundg (n0 - (x + 1).toNat)
       case measure => have := HI.out; have := HK.out; omega
       case rel => exact ⟨x + 1, lz, m, d, rfl, rfl, rfl, by first | rfl | (rw [show wrap64 (x + 1) = x + 1 by unfold wrap64; omega]), ⟨by omega, by omega⟩, ⟨rfl⟩, HS2, HRY2, HB2⟩
    ·
     have hn1 : (x + 1 == (n0 : Int)) = true := by simp; omega
     have hd2 : (ys.drop (x + 1).toNat).head? = none := by
      have h2 : ys.length ≤ (x + 1).toNat := by have := HN0.out; omega
      rw [List.drop_eq_nil_of_le h2]; rfl
     by_cases hgt : d < lz
     ·
      have b4 : decide (d < lz) = true := decide_eq_true hgt
      rw [if_pos ⟨by rw [hd2]; simp, hgt⟩] at hss
      have HS2 := Aside0.mk hss
      clear hss hd2
      go_quiet (fail)
      have B2 := Aside0.mk (blk_drewN B1.out nq)
      have HRY2 := Aside0.mk (Kd.R_drewN HRY1.out nq)
      have HB2 := Aside0.mk (pw_below_drewN HB1.out nq)
      clear B1 HRY1 HB1 HRD1 k0
      generalize w1.drewN nq = w2 at B2 HRY2 HB2 ⊢
      have k0 := blkc B2.out 0 (.int .i64 X.f0) rfl
      go_wp2
      go_roundg (n0 - (x + 1).toNat)
      case measure => have := HI.out; have := HK.out; omega
      case rel => exact ⟨x + 1, lz, X.f0, lz, rfl, rfl, rfl, by first | rfl | (rw [show wrap64 (x + 1) = x + 1 by unfold wrap64; omega]), ⟨by omega, by omega⟩, ⟨rfl⟩, HS2, HRY2, HB2⟩
     ·
      have b4 : decide (d < lz) = false := decide_eq_false hgt
      rw [if_neg (fun h => hgt h.2)] at hss
      have HS2 := Aside0.mk hss
      clear hss hd2
      go_quiet (fail)
      have B2 := Aside0.mk (blk_drewN B1.out nq)
      have HRY2 := Aside0.mk (Kd.R_drewN HRY1.out nq)
      have HB2 := Aside0.mk (pw_below_drewN HB1.out nq)
      clear B1 HRY1 HB1 HRD1 k0
      generalize w1.drewN nq = w2 at B2 HRY2 HB2 ⊢
      have k0 := blkc B2.out 0 (.int .i64 X.f0) rfl
      go_wp2
      go_roundg (n0 - (x + 1).toNat)
      case measure => have := HI.out; have := HK.out; omega
      case rel => exact ⟨x + 1, lz, m, d, rfl, rfl, rfl, by first | rfl | (rw [show wrap64 (x + 1) = x + 1 by unfold wrap64; omega]), ⟨by omega, by omega⟩, ⟨rfl⟩, HS2, HRY2, HB2⟩
   ·
    have h1 : decide (x < (n0 : Int)) = false := decide_eq_false hlt
    have hs := HS.out
    rw [List.drop_eq_nil_of_le (by have := HN0.out; omega), Lay.deep] at hs
    have hgood := mast_Often.good HRW.out
    have hq : Lay.deep ys 0 0 0 = Lay.deep (Lay.srt (Lay.chg 1 l0)) 0 0 0 :=
     Lay.deep_perm (HP.out.trans (Lay.srt_perm _).symm) HSO.out (Lay.srt_sorted _) ⟨by rw [HP.out.length_eq]; exact hgood.1, fun c hc => hgood.2 c (HP.out.mem_iff.1 hc)⟩
    rw [HRES.out, hq] at hs
    have hf := H1.out
    rw [← hs] at hf
    injection hf with f1 f2
    injection f2 with f2 f3
    subst f1 f2 f3
    clear hs hgood hq
    go_wp2
    go_ret3
    exact ⟨rfl, HB.out⟩
 ·
  rw [if_neg hz] at h1
  have h1' := Option.some.inj h1
  injection h1' with h3 h4
  injection h4 with h4 h5
  subst h3 h4 h5
  clear h1
  have hz1 : (e0 == 0) = false := by simp [hz]
  have hz2 : (e0 != 0) = true := by simp [hz]
  go_enter Tryd.func17, Tryd.ntmps17
  go_wp2_with (go_at_call 44; refine (mast_raw.calls _ _ l0 e0 _ HR.out HC.out HE.out).mono ?_; rintro e w1 ⟨rfl, hb⟩; have HB1 := Aside0.mk hb; clear hb)
  go_ret3
  exact ⟨rfl, HB1.out⟩

/-! ### dropperref01_Deepest: function 18 -/
def dropperref01_Deepest.l0 : Nat → List (S46) → List Int → Int → Int → Int → Option (Int × Int × Int)
 | 0, _, _, _, _, _ => none
 | k + 1, x0, x5, x6, x7, x8 => if x8 < (x5.length : Int) then (if 0 ≤ x8 then ((dropperref01_depth.f k x0 (rd x5 x8)).bind fun t198 => (if t198 > x7 then (dropperref01_Deepest.l0 k x0 x5 (rd x5 x8) t198 (wrap64 (x8 + 1))) else (dropperref01_Deepest.l0 k x0 x5 x6 x7 (wrap64 (x8 + 1))))) else (none)) else (some (x6, x7, 0))
def dropperref01_Deepest.f (k : Nat) (l0 : List (S46)) : Option (Int × Int × Int) := (dropperref01_raw.f k l0).bind fun t193 => (if t193 = true then ((dropperref01_bounds.f l0 ([] : List (S46))).bind fun t194 => (dropperref01_Deepest.l0 k l0 t194 0 0 0)) else (some (0, 0, 2)))
set_option maxHeartbeats 8000000 in
set_option maxRecDepth 100000 in
theorem dropperref01_Deepest.calls (k : Nat) (A0 : Option Addr) (c0 : Nat) (l0 : List (S46)) (r1 : Int) (r2 : Int) (r3 : Int) (w : World) (hr0 : Kd.C k46 w A0 l0.length l0) (hc0 : l0.length ≤ c0) (h : dropperref01_Deepest.f k l0 = some (r1, r2, r3)) :
  Calls Tryd.prog 18 #[.slice A0 l0.length c0] w fun e w' => e = .returned (.tuple #[.int .i64 r1, .int .i64 r2, .int .i64 r3]) ∧ Below w.heap.size w w' := by
 have HR0 := Aside0.mk hr0
 have HC0 := Aside0.mk hc0
 clear hr0 hc0
 have HB := Aside0.mk (Below.refl w.heap.size w)
 have H : ((dropperref01_raw.f k l0).bind fun t193 => (if t193 = true then ((dropperref01_bounds.f l0 ([] : List (S46))).bind fun t194 => (dropperref01_Deepest.l0 k l0 t194 0 0 0)) else (some (0, 0, 2)))) = some (r1, r2, r3) := h
 clear h
 replace H := Option.bind_eq_some_iff.mp H
 obtain ⟨t193, A20, H⟩ := H
 try dsimp only at H
 have A2 := Aside0.mk A20
 clear A20
 by_cases c3 : t193 = true
 ·
  subst c3
  rw [if_pos rfl] at H
  replace H := Option.bind_eq_some_iff.mp H
  obtain ⟨t194, A40, H⟩ := H
  try dsimp only at H
  have A4 := Aside0.mk A40
  clear A40
  have H' := Aside0.mk H
  clear H
  go_enter Tryd.func18, Tryd.ntmps18
  go_wp2_with (first | ((with_reducible refine gate_callee (f := 42) rfl ?_); refine goesL_ (some 11) rfl rfl Tryd.func42 (by kernel_rfl) rfl #[.slice A0 l0.length c0] rfl mapz ?_; (with_reducible refine (dropperref01_raw.calls k _ _ l0 true _ ?side1 HC0.out A2.out).mono ?_); (case side1 => repeat (first | exact HR0.out | (with_reducible refine Kd.C_alloc ?_ _) | (with_reducible refine Kd.C_drewN ?_ _) | (with_reducible refine Kd.C_drew ?_))); rintro e w5 ⟨rfl, hb⟩; refine ⟨_, rfl, ?_⟩; replace HB := Aside0.mk (below_step bel hb); clear hb) | ((with_reducible refine gate_callee (f := 48) rfl ?_); refine goesL_ (some 14) rfl rfl Tryd.func48 (by kernel_rfl) rfl #[.slice A0 l0.length c0, .slice none 0 0] rfl mapz ?_; (refine (dropperref01_bounds.calls _ _ l0 _ _ ([] : List (S46)) t194 _ (cbz HR0) HC0.out ?side3 ?side4 A4.out).mono ?_); (case side3 => exact Kd.C_nil _ _); (case side4 => exact Nat.le_refl _); rintro e w6 ⟨v195, rfl, ho0, hb⟩; refine ⟨_, rfl, ?_⟩; have HO196 := Aside0.mk (Kd.R_lower ho0 (below_size bel)); replace HB := Aside0.mk (below_step bel hb); (try clear hb); (try clear hb2); (try clear hk); (try clear hi); (try clear ho0)))
  go_loopg [6, 7, 8] k (fun kq v6 v7 v8 w' => ∃ (x6_1 : Int) (x7_1 : Int) (x8_1 : Int), v6 = .int .i64 x6_1 ∧ v7 = .int .i64 x7_1 ∧ v8 = .int .i64 x8_1 ∧ Aside0 (dropperref01_Deepest.l0 kq l0 t194 x6_1 x7_1 x8_1 = some (r1, r2, r3)) ∧ Aside0 (kq ≤ k) ∧ Aside0 (Kd.R (Kd.int .i64) 3 w' w.heap.size (fun _ => True) v195 t194) ∧ Aside0 (Below w.heap.size w w'))
  case atStart => exact ⟨(0), (0), (0), rsz, rsz, rsz, H', ⟨Nat.le_refl _⟩, ⟨by (with_reducible repeat (first | apply Kd.R_alloc | apply Kd.R_drewN | apply Kd.R_drew)); exact HO196.out⟩, ⟨bel⟩⟩
  case round =>
   clear H'
   (try clear c1); (try clear p2); (try clear c3); (try clear c4)
   obtain ⟨x6_1, x7_1, x8_1, rfl, rfl, rfl, HA, HK1, HO_5, HB⟩ := hrel
   cases gk with
   | zero => exact absurd HA.out (by simp [dropperref01_Deepest.l0])
   | succ k1 =>
    have H := HA.out
    clear HA
    simp only [dropperref01_Deepest.l0] at H
    by_cases c7 : x8_1 < (t194.length : Int)
    ·
     rw [if_pos c7] at H
     have c7b0 : decide (x8_1 < (t194.length : Int)) = true := decide_eq_true c7
     clear c7
     by_cases c8 : 0 ≤ x8_1
     ·
      rw [if_pos c8] at H
      have c8b0 : decide (0 ≤ x8_1) = true := decide_eq_true c8
      clear c8
      replace H := Option.bind_eq_some_iff.mp H
      obtain ⟨t198, A90, H⟩ := H
      try dsimp only at H
      have A9 := Aside0.mk A90
      clear A90
      by_cases c10 : t198 > x7_1
      ·
       rw [if_pos c10] at H
       have c10b0 : decide (x7_1 < t198) = true := decide_eq_true c10
       clear c10
       have H' := Aside0.mk H
       clear H
       obtain ⟨Ao11, co11, eo11⟩ := Kd.R_slice HO_5.out
       subst eo11
       have p197 : 0 ≤ (x8_1 : Int) := of_decide_eq_true asz
       have q197 : x8_1 < (t194.length : Int) := of_decide_eq_true asz
       obtain ⟨ad197, e197, hx197_0⟩ := Kd.at_int (Kd.R_reads' HO_5.out).2.2 x8_1 p197 q197
       cases e197
       replace p197 := eq_true p197
       replace q197 := eq_true q197
       go_wp2_with (first | ((with_reducible refine gate_callee (f := 49) rfl ?_); refine goesL_ (some 26) rfl rfl Tryd.func49 (by kernel_rfl) rfl #[.slice A0 l0.length c0, .int .i64 (rd t194 x8_1)] rfl mapz ?_; (with_reducible refine (dropperref01_depth.calls k1 _ _ l0 (rd t194 x8_1) t198 _ (cbz HR0) HC0.out A9.out).mono ?_); rintro e w' ⟨rfl, ⟨nd, rfl⟩⟩; refine ⟨_, rfl, ?_⟩; have p199 : 0 ≤ (x8_1 : Int) := of_decide_eq_true asz; have q199 : x8_1 < (t194.length : Int) := of_decide_eq_true asz; obtain ⟨ad199, e199, hx199_0⟩ := Kd.at_int (Kd.R_reads' HO_5.out).2.2 x8_1 p199 q199; obtain rfl : ad197 = ad199 := (by injection e199); replace p199 := eq_true p199; replace q199 := eq_true q199))
       go_roundg k1
       case measure => have := HK1.out; omega
       case rel => exact ⟨(rd t194 x8_1), (t198), (wrap64 (x8_1 + 1)), rsz, rsz, rsz, H', ⟨by have := HK1.out; omega⟩, ⟨by (with_reducible repeat (first | apply Kd.R_alloc | apply Kd.R_drewN | apply Kd.R_drew)); exact HO_5.out⟩, ⟨bel⟩⟩
      ·
       rw [if_neg c10] at H
       have c10b0 : decide (x7_1 < t198) = false := decide_eq_false c10
       clear c10
       have H' := Aside0.mk H
       clear H
       obtain ⟨Ao12, co12, eo12⟩ := Kd.R_slice HO_5.out
       subst eo12
       have p197 : 0 ≤ (x8_1 : Int) := of_decide_eq_true asz
       have q197 : x8_1 < (t194.length : Int) := of_decide_eq_true asz
       obtain ⟨ad197, e197, hx197_0⟩ := Kd.at_int (Kd.R_reads' HO_5.out).2.2 x8_1 p197 q197
       cases e197
       replace p197 := eq_true p197
       replace q197 := eq_true q197
       go_wp2_with (first | ((with_reducible refine gate_callee (f := 49) rfl ?_); refine goesL_ (some 26) rfl rfl Tryd.func49 (by kernel_rfl) rfl #[.slice A0 l0.length c0, .int .i64 (rd t194 x8_1)] rfl mapz ?_; (with_reducible refine (dropperref01_depth.calls k1 _ _ l0 (rd t194 x8_1) t198 _ (cbz HR0) HC0.out A9.out).mono ?_); rintro e w' ⟨rfl, ⟨nd, rfl⟩⟩; refine ⟨_, rfl, ?_⟩))
       go_roundg k1
       case measure => have := HK1.out; omega
       case rel => exact ⟨(x6_1), (x7_1), (wrap64 (x8_1 + 1)), rsz, rsz, rsz, H', ⟨by have := HK1.out; omega⟩, ⟨by (with_reducible repeat (first | apply Kd.R_alloc | apply Kd.R_drewN | apply Kd.R_drew)); exact HO_5.out⟩, ⟨bel⟩⟩
     ·
      rw [if_neg c8] at H
      exact absurd H (by simp)
    ·
     rw [if_neg c7] at H
     have c7b0 : decide (x8_1 < (t194.length : Int)) = false := decide_eq_false c7
     clear c7
     simp only [Option.some.injEq, Prod.mk.injEq] at H
     obtain ⟨rfl, rfl, rfl⟩ := H
     obtain ⟨Ao13, co13, eo13⟩ := Kd.R_slice HO_5.out
     subst eo13
     go_wp2
     go_ret3
     exact ⟨ezz, bel⟩
 ·
  replace c3 := Bool.eq_false_iff.mpr c3
  subst c3
  rw [if_neg (show ¬ (false = true) by decide)] at H
  simp only [Option.some.injEq, Prod.mk.injEq] at H
  obtain ⟨rfl, rfl, rfl⟩ := H
  go_enter Tryd.func18, Tryd.ntmps18
  go_wp2_with (first | ((with_reducible refine gate_callee (f := 42) rfl ?_); refine goesL_ (some 11) rfl rfl Tryd.func42 (by kernel_rfl) rfl #[.slice A0 l0.length c0] rfl mapz ?_; (with_reducible refine (dropperref01_raw.calls k _ _ l0 false _ ?side1 HC0.out A2.out).mono ?_); (case side1 => repeat (first | exact HR0.out | (with_reducible refine Kd.C_alloc ?_ _) | (with_reducible refine Kd.C_drewN ?_ _) | (with_reducible refine Kd.C_drew ?_))); rintro e w14 ⟨rfl, hb⟩; refine ⟨_, rfl, ?_⟩; replace HB := Aside0.mk (below_step bel hb); clear hb))
  go_ret3
  exact ⟨ezz, bel⟩

/-! ### dropperlaw01_MastCleans: function 3 -/
def dropperlaw01_MastCleans.j0 : Nat → List (S46) → Bool → Option (Bool)
 | 0, _, _ => none
 | k + 1, x0, x61 => if x61 = true then (none) else ((mast_Deepest.f x0).bind fun bt220 => ((dropperref01_Deepest.f k x0).bind fun bt223 => (if bt220.1 = bt223.1 then (if bt220.2.1 = bt223.2.1 then (if bt220.2.2 = bt223.2.2 then ((dropperlaw01_First.f k).bind fun t226 => (some t226)) else (none)) else (none)) else (none))))
def dropperlaw01_MastCleans.f (k : Nat) (l0 : List (S46)) (a1 : Int) : Option (Bool) := (dropperlaw01_Long.f l0 ([] : List (S46))).bind fun t200 => (if t200 = true then ((dropperlaw01_First.f k).bind fun t201 => (some t201)) else ((mast_Clean.f l0).bind fun bt202 => ((dropperref01_Clean.f k l0).bind fun bt206 => ((mast_Often.f l0 a1).bind fun bt210 => ((dropperref01_Often.f k l0 a1).bind fun bt214 => ((dropperlaw01_Same.f k bt202.1 bt206.1).bind fun t218 => (if t218 = true then (if bt202.2 = bt206.2 then ((dropperlaw01_Same.f k bt210.1 bt214.1).bind fun t219 => (if t219 = true then (dropperlaw01_MastCleans.j0 k l0 (bt210.2 != bt214.2)) else (dropperlaw01_MastCleans.j0 k l0 true))) else (dropperlaw01_MastCleans.j0 k l0 true)) else (dropperlaw01_MastCleans.j0 k l0 true))))))))
set_option maxHeartbeats 8000000 in
set_option maxRecDepth 100000 in
theorem dropperlaw01_MastCleans.calls (k : Nat) (A0 : Option Addr) (c0 : Nat) (l0 : List (S46)) (a1 : Int) (r : Bool) (w : World) (hr0 : Kd.C k46 w A0 l0.length l0) (hc0 : l0.length ≤ c0) (hT : Tab.Tabs w) (h : dropperlaw01_MastCleans.f k l0 a1 = some r) :
  Calls Tryd.prog 3 #[.slice A0 l0.length c0, .int .i64 a1] w fun e w' => e = .returned (.bool r) ∧ Below w.heap.size w w' := by
 have HT := Aside0.mk hT
 clear hT
 have HR0 := Aside0.mk hr0
 have HC0 := Aside0.mk hc0
 clear hr0 hc0
 have HB := Aside0.mk (Below.refl w.heap.size w)
 have H : ((dropperlaw01_Long.f l0 ([] : List (S46))).bind fun t200 => (if t200 = true then ((dropperlaw01_First.f k).bind fun t201 => (some t201)) else ((mast_Clean.f l0).bind fun bt202 => ((dropperref01_Clean.f k l0).bind fun bt206 => ((mast_Often.f l0 a1).bind fun bt210 => ((dropperref01_Often.f k l0 a1).bind fun bt214 => ((dropperlaw01_Same.f k bt202.1 bt206.1).bind fun t218 => (if t218 = true then (if bt202.2 = bt206.2 then ((dropperlaw01_Same.f k bt210.1 bt214.1).bind fun t219 => (if t219 = true then (dropperlaw01_MastCleans.j0 k l0 (bt210.2 != bt214.2)) else (dropperlaw01_MastCleans.j0 k l0 true))) else (dropperlaw01_MastCleans.j0 k l0 true)) else (dropperlaw01_MastCleans.j0 k l0 true))))))))) = some r := h
 clear h
 replace H := Option.bind_eq_some_iff.mp H
 obtain ⟨t200, A30, H⟩ := H
 try dsimp only at H
 have A3 := Aside0.mk A30
 clear A30
 by_cases c4 : t200 = true
 ·
  subst c4
  rw [if_pos rfl] at H
  replace H := Option.bind_eq_some_iff.mp H
  obtain ⟨t201, A50, H⟩ := H
  try dsimp only at H
  have A5 := Aside0.mk A50
  clear A50
  obtain rfl := Option.some.inj H
  go_enter Tryd.func3, Tryd.ntmps3
  go_wp2_with (first | ((with_reducible refine gate_callee (f := 10) rfl ?_); refine goesL_ (some 18) rfl rfl Tryd.func10 (by kernel_rfl) rfl #[.slice A0 l0.length c0, .slice none 0 0] rfl mapz ?_; (refine (dropperlaw01_Long.calls _ _ l0 _ _ ([] : List (S46)) true _ ?side1 HC0.out ?side3 ?side4 A3.out).mono ?_); (case side1 => repeat (first | exact HR0.out | (with_reducible refine Kd.C_alloc ?_ _) | (with_reducible refine Kd.C_drewN ?_ _) | (with_reducible refine Kd.C_drew ?_))); (case side3 => exact Kd.C_nil _ _); (case side4 => exact Nat.le_refl _); rintro e w' ⟨rfl, ⟨nd, rfl⟩⟩; refine ⟨_, rfl, ?_⟩) | ((with_reducible refine gate_callee (f := 11) rfl ?_); refine goesL_ (some 19) rfl rfl Tryd.func11 (by kernel_rfl) rfl #[] rfl mapz ?_; (with_reducible refine (dropperlaw01_First.calls k  t201 _ (tbz HT) A5.out).mono ?_); rintro e w6 ⟨rfl, hb⟩; refine ⟨_, rfl, ?_⟩; replace HB := Aside0.mk (below_step bel hb); clear hb))
  go_ret
  exact ⟨ezz, bel⟩
 ·
  replace c4 := Bool.eq_false_iff.mpr c4
  subst c4
  rw [if_neg (show ¬ (false = true) by decide)] at H
  replace H := Option.bind_eq_some_iff.mp H
  obtain ⟨⟨t202, t203⟩, A70, H⟩ := H
  try dsimp only at H
  have A7 := Aside0.mk A70
  clear A70
  replace H := Option.bind_eq_some_iff.mp H
  obtain ⟨⟨t206, t207⟩, A80, H⟩ := H
  try dsimp only at H
  have A8 := Aside0.mk A80
  clear A80
  replace H := Option.bind_eq_some_iff.mp H
  obtain ⟨⟨t210, t211⟩, A90, H⟩ := H
  try dsimp only at H
  have A9 := Aside0.mk A90
  clear A90
  replace H := Option.bind_eq_some_iff.mp H
  obtain ⟨⟨t214, t215⟩, A100, H⟩ := H
  try dsimp only at H
  have A10 := Aside0.mk A100
  clear A100
  have HC11 := Aside0.mk H
  clear H
  go_enter Tryd.func3, Tryd.ntmps3
  go_upto_region 7 with (first | ((with_reducible refine gate_callee (f := 10) rfl ?_); refine goesL_ (some 18) rfl rfl Tryd.func10 (by kernel_rfl) rfl #[.slice A0 l0.length c0, .slice none 0 0] rfl mapz ?_; (refine (dropperlaw01_Long.calls _ _ l0 _ _ ([] : List (S46)) false _ ?side1 HC0.out ?side3 ?side4 A3.out).mono ?_); (case side1 => repeat (first | exact HR0.out | (with_reducible refine Kd.C_alloc ?_ _) | (with_reducible refine Kd.C_drewN ?_ _) | (with_reducible refine Kd.C_drew ?_))); (case side3 => exact Kd.C_nil _ _); (case side4 => exact Nat.le_refl _); rintro e w' ⟨rfl, ⟨nd, rfl⟩⟩; refine ⟨_, rfl, ?_⟩) | ((with_reducible refine gate_callee (f := 12) rfl ?_); refine goesL_ (some 22) rfl rfl Tryd.func12 (by kernel_rfl) rfl #[.slice A0 l0.length c0] rfl mapz ?_; (with_reducible refine (mast_Clean.calls _ _ l0 t202 t203 _ ?side1 HC0.out A7.out).mono ?_); (case side1 => repeat (first | exact HR0.out | (with_reducible refine Kd.C_alloc ?_ _) | (with_reducible refine Kd.C_drewN ?_ _) | (with_reducible refine Kd.C_drew ?_))); rintro e w12 ⟨v204, rfl, ho0, hb⟩; refine ⟨_, rfl, ?_⟩; have HO205 := Aside0.mk (Kd.R_lower ho0 (below_size bel)); replace HB := Aside0.mk (below_step bel hb); (try clear hb); (try clear hb2); (try clear hk); (try clear hi); (try clear ho0)) | ((with_reducible refine gate_callee (f := 13) rfl ?_); refine goesL_ (some 27) rfl rfl Tryd.func13 (by kernel_rfl) rfl #[.slice A0 l0.length c0] rfl mapz ?_; (with_reducible refine (dropperref01_Clean.calls k _ _ l0 t206 t207 _ (cbz HR0) HC0.out A8.out).mono ?_); rintro e w13 ⟨v208, rfl, ho0, hb⟩; refine ⟨_, rfl, ?_⟩; have HO209 := Aside0.mk (Kd.R_lower (Kd.R_new' ho0 (Kd.R_lt (ownx HO205))) (below_size bel)); replace HO205 := Aside0.mk (Kd.R_elder' (ownx HO205) (Kd.R_base ho0) hb); replace HB := Aside0.mk (below_step bel hb); (try clear hb); (try clear hb2); (try clear hk); (try clear hi); (try clear ho0)) | ((with_reducible refine gate_callee (f := 14) rfl ?_); refine goesL_ (some 33) rfl rfl Tryd.func14 (by kernel_rfl) rfl #[.slice A0 l0.length c0, .int .i64 a1] rfl mapz ?_; (with_reducible refine (mast_Often.calls _ _ l0 a1 t210 t211 _ (cbz HR0) HC0.out A9.out).mono ?_); rintro e w14 ⟨v212, rfl, ho0, hb⟩; refine ⟨_, rfl, ?_⟩; have HO213 := Aside0.mk (Kd.R_lower (Kd.R_new' (Kd.R_new' ho0 (Kd.R_lt (ownx HO205))) (Kd.R_lt (ownx HO209))) (below_size bel)); replace HO205 := Aside0.mk (Kd.R_elder' (ownx HO205) (Kd.R_base ho0) hb); replace HO209 := Aside0.mk (Kd.R_elder' (ownx HO209) (Kd.R_base ho0) hb); replace HB := Aside0.mk (below_step bel hb); (try clear hb); (try clear hb2); (try clear hk); (try clear hi); (try clear ho0)) | ((with_reducible refine gate_callee (f := 15) rfl ?_); refine goesL_ (some 39) rfl rfl Tryd.func15 (by kernel_rfl) rfl #[.slice A0 l0.length c0, .int .i64 a1] rfl mapz ?_; (with_reducible refine (dropperref01_Often.calls k _ _ l0 a1 t214 t215 _ (cbz HR0) HC0.out A10.out).mono ?_); rintro e w15 ⟨v216, rfl, ho0, hb⟩; refine ⟨_, rfl, ?_⟩; have HO217 := Aside0.mk (Kd.R_lower (Kd.R_new' (Kd.R_new' (Kd.R_new' ho0 (Kd.R_lt (ownx HO205))) (Kd.R_lt (ownx HO209))) (Kd.R_lt (ownx HO213))) (below_size bel)); replace HO205 := Aside0.mk (Kd.R_elder' (ownx HO205) (Kd.R_base ho0) hb); replace HO209 := Aside0.mk (Kd.R_elder' (ownx HO209) (Kd.R_base ho0) hb); replace HO213 := Aside0.mk (Kd.R_elder' (ownx HO213) (Kd.R_base ho0) hb); replace HB := Aside0.mk (below_step bel hb); (try clear hb); (try clear hb2); (try clear hk); (try clear hi); (try clear ho0)))
  (try simp only [Act.put, List.setIfInBounds_toArray, List.set_cons_zero, List.set_cons_succ])
  go_cut [61] (fun v61 wc => ∃ (kq : Nat) (x61_10 : Bool), v61 = .bool x61_10 ∧ Aside0 (dropperlaw01_MastCleans.j0 kq l0 x61_10 = some r) ∧ Aside0 (kq ≤ k) ∧ Aside0 (Below w.heap.size w wc))
  case first =>
   have H := HC11.out
   clear HC11
   replace H := Option.bind_eq_some_iff.mp H
   obtain ⟨t218, A160, H⟩ := H
   try dsimp only at H
   have A16 := Aside0.mk A160
   clear A160
   by_cases c17 : t218 = true
   ·
    subst c17
    rw [if_pos rfl] at H
    by_cases c18 : t203 = t207
    ·
     rw [if_pos c18] at H
     have c18b0 : (t203 == t207) = true := beq_iff_eq.mpr c18
     have c18b1 : (t203 != t207) = false := bne_eq_false_iff_eq.mpr c18
     clear c18
     (first | rw [c18b0] | (simp only [i64_w, i32_w]; rw [c18b0]) | skip)
     replace H := Option.bind_eq_some_iff.mp H
     obtain ⟨t219, A190, H⟩ := H
     try dsimp only at H
     have A19 := Aside0.mk A190
     clear A190
     by_cases c20 : t219 = true
     ·
      subst c20
      rw [if_pos rfl] at H
      have H' := Aside0.mk H
      clear H
      obtain ⟨Ao21, co21, eo21⟩ := Kd.R_slice HO205.out
      subst eo21
      obtain ⟨Ao22, co22, eo22⟩ := Kd.R_slice HO209.out
      subst eo22
      go_wp2_with (first | ((with_reducible refine gate_callee (f := 16) rfl ?_); refine goesL_ (some 44) rfl rfl Tryd.func16 (by kernel_rfl) rfl #[.slice Ao21 t202.length co21, .slice Ao22 t206.length co22] rfl mapz ?_; (with_reducible refine (dropperlaw01_Same.calls k _ _ t202 _ _ t206 true _ ?side1 ?side2 ?side3 ?side4 A16.out).mono ?_); (case side1 => repeat (first | exact (Kd.R_reads' HO205.out).2.2 | (with_reducible refine Kd.C_alloc ?_ _) | (with_reducible refine Kd.C_drewN ?_ _) | (with_reducible refine Kd.C_drew ?_))); (case side2 => exact (Kd.R_reads' HO205.out).2.1); (case side3 => repeat (first | exact (Kd.R_reads' HO209.out).2.2 | (with_reducible refine Kd.C_alloc ?_ _) | (with_reducible refine Kd.C_drewN ?_ _) | (with_reducible refine Kd.C_drew ?_))); (case side4 => exact (Kd.R_reads' HO209.out).2.1); rintro e w' ⟨rfl, ⟨nd, rfl⟩⟩; refine ⟨_, rfl, ?_⟩; obtain ⟨Ao23, co23, eo23⟩ := Kd.R_slice HO213.out; subst eo23; obtain ⟨Ao24, co24, eo24⟩ := Kd.R_slice HO217.out; subst eo24) | (go_at_call 16; (with_reducible refine (dropperlaw01_Same.calls k _ _ t210 _ _ t214 true _ ?side1 ?side2 ?side3 ?side4 A19.out).mono ?_); (case side1 => repeat (first | exact (Kd.R_reads' HO213.out).2.2 | (with_reducible refine Kd.C_alloc ?_ _) | (with_reducible refine Kd.C_drewN ?_ _) | (with_reducible refine Kd.C_drew ?_))); (case side2 => exact (Kd.R_reads' HO213.out).2.1); (case side3 => repeat (first | exact (Kd.R_reads' HO217.out).2.2 | (with_reducible refine Kd.C_alloc ?_ _) | (with_reducible refine Kd.C_drewN ?_ _) | (with_reducible refine Kd.C_drew ?_))); (case side4 => exact (Kd.R_reads' HO217.out).2.1); rintro e w' ⟨rfl, ⟨nd, rfl⟩⟩))
      go_meet
      case rel => exact ⟨_, ((t211 != t215)), rsz, H', ⟨by first | omega | exact Nat.le_refl _⟩, ⟨bel⟩⟩
     ·
      replace c20 := Bool.eq_false_iff.mpr c20
      subst c20
      rw [if_neg (show ¬ (false = true) by decide)] at H
      have H' := Aside0.mk H
      clear H
      obtain ⟨Ao25, co25, eo25⟩ := Kd.R_slice HO205.out
      subst eo25
      obtain ⟨Ao26, co26, eo26⟩ := Kd.R_slice HO209.out
      subst eo26
      go_wp2_with (first | ((with_reducible refine gate_callee (f := 16) rfl ?_); refine goesL_ (some 44) rfl rfl Tryd.func16 (by kernel_rfl) rfl #[.slice Ao25 t202.length co25, .slice Ao26 t206.length co26] rfl mapz ?_; (with_reducible refine (dropperlaw01_Same.calls k _ _ t202 _ _ t206 true _ ?side1 ?side2 ?side3 ?side4 A16.out).mono ?_); (case side1 => repeat (first | exact (Kd.R_reads' HO205.out).2.2 | (with_reducible refine Kd.C_alloc ?_ _) | (with_reducible refine Kd.C_drewN ?_ _) | (with_reducible refine Kd.C_drew ?_))); (case side2 => exact (Kd.R_reads' HO205.out).2.1); (case side3 => repeat (first | exact (Kd.R_reads' HO209.out).2.2 | (with_reducible refine Kd.C_alloc ?_ _) | (with_reducible refine Kd.C_drewN ?_ _) | (with_reducible refine Kd.C_drew ?_))); (case side4 => exact (Kd.R_reads' HO209.out).2.1); rintro e w' ⟨rfl, ⟨nd, rfl⟩⟩; refine ⟨_, rfl, ?_⟩; obtain ⟨Ao27, co27, eo27⟩ := Kd.R_slice HO213.out; subst eo27; obtain ⟨Ao28, co28, eo28⟩ := Kd.R_slice HO217.out; subst eo28) | (go_at_call 16; (with_reducible refine (dropperlaw01_Same.calls k _ _ t210 _ _ t214 false _ ?side1 ?side2 ?side3 ?side4 A19.out).mono ?_); (case side1 => repeat (first | exact (Kd.R_reads' HO213.out).2.2 | (with_reducible refine Kd.C_alloc ?_ _) | (with_reducible refine Kd.C_drewN ?_ _) | (with_reducible refine Kd.C_drew ?_))); (case side2 => exact (Kd.R_reads' HO213.out).2.1); (case side3 => repeat (first | exact (Kd.R_reads' HO217.out).2.2 | (with_reducible refine Kd.C_alloc ?_ _) | (with_reducible refine Kd.C_drewN ?_ _) | (with_reducible refine Kd.C_drew ?_))); (case side4 => exact (Kd.R_reads' HO217.out).2.1); rintro e w' ⟨rfl, ⟨nd, rfl⟩⟩))
      go_meet
      case rel => exact ⟨_, (true), rsz, H', ⟨by first | omega | exact Nat.le_refl _⟩, ⟨bel⟩⟩
    ·
     rw [if_neg c18] at H
     have c18b0 : (t203 == t207) = false := beq_eq_false_iff_ne.mpr c18
     have c18b1 : (t203 != t207) = true := bne_iff_ne.mpr c18
     (first | rw [c18b0] | (simp only [i64_w, i32_w]; rw [c18b0]) | skip)
     have H' := Aside0.mk H
     clear H
     obtain ⟨Ao29, co29, eo29⟩ := Kd.R_slice HO205.out
     subst eo29
     obtain ⟨Ao30, co30, eo30⟩ := Kd.R_slice HO209.out
     subst eo30
     go_wp2_with (first | ((with_reducible refine gate_callee (f := 16) rfl ?_); refine goesL_ (some 44) rfl rfl Tryd.func16 (by kernel_rfl) rfl #[.slice Ao29 t202.length co29, .slice Ao30 t206.length co30] rfl mapz ?_; (with_reducible refine (dropperlaw01_Same.calls k _ _ t202 _ _ t206 true _ ?side1 ?side2 ?side3 ?side4 A16.out).mono ?_); (case side1 => repeat (first | exact (Kd.R_reads' HO205.out).2.2 | (with_reducible refine Kd.C_alloc ?_ _) | (with_reducible refine Kd.C_drewN ?_ _) | (with_reducible refine Kd.C_drew ?_))); (case side2 => exact (Kd.R_reads' HO205.out).2.1); (case side3 => repeat (first | exact (Kd.R_reads' HO209.out).2.2 | (with_reducible refine Kd.C_alloc ?_ _) | (with_reducible refine Kd.C_drewN ?_ _) | (with_reducible refine Kd.C_drew ?_))); (case side4 => exact (Kd.R_reads' HO209.out).2.1); rintro e w' ⟨rfl, ⟨nd, rfl⟩⟩; refine ⟨_, rfl, ?_⟩))
     go_meet
     case rel => exact ⟨_, (true), rsz, H', ⟨by first | omega | exact Nat.le_refl _⟩, ⟨bel⟩⟩
   ·
    replace c17 := Bool.eq_false_iff.mpr c17
    subst c17
    rw [if_neg (show ¬ (false = true) by decide)] at H
    have H' := Aside0.mk H
    clear H
    obtain ⟨Ao31, co31, eo31⟩ := Kd.R_slice HO205.out
    subst eo31
    obtain ⟨Ao32, co32, eo32⟩ := Kd.R_slice HO209.out
    subst eo32
    go_wp2_with (first | ((with_reducible refine gate_callee (f := 16) rfl ?_); refine goesL_ (some 44) rfl rfl Tryd.func16 (by kernel_rfl) rfl #[.slice Ao31 t202.length co31, .slice Ao32 t206.length co32] rfl mapz ?_; (with_reducible refine (dropperlaw01_Same.calls k _ _ t202 _ _ t206 false _ ?side1 ?side2 ?side3 ?side4 A16.out).mono ?_); (case side1 => repeat (first | exact (Kd.R_reads' HO205.out).2.2 | (with_reducible refine Kd.C_alloc ?_ _) | (with_reducible refine Kd.C_drewN ?_ _) | (with_reducible refine Kd.C_drew ?_))); (case side2 => exact (Kd.R_reads' HO205.out).2.1); (case side3 => repeat (first | exact (Kd.R_reads' HO209.out).2.2 | (with_reducible refine Kd.C_alloc ?_ _) | (with_reducible refine Kd.C_drewN ?_ _) | (with_reducible refine Kd.C_drew ?_))); (case side4 => exact (Kd.R_reads' HO209.out).2.1); rintro e w' ⟨rfl, ⟨nd, rfl⟩⟩; refine ⟨_, rfl, ?_⟩))
    go_meet
    case rel => exact ⟨_, (true), rsz, H', ⟨by first | omega | exact Nat.le_refl _⟩, ⟨bel⟩⟩
  case rest =>
   clear HC11
   (try clear c1); (try clear c2); (try clear p2); (try clear c3); (try clear c4); (try clear c10); (try clear c11); (try clear c12); (try clear c13); (try clear c14); (try clear c15); (try clear c16); (try clear c17); (try clear c18); (try clear c18b0); (try clear c18b1); (try clear c20)
   obtain ⟨kq, x61_10, rfl, HA, HJ10, HB⟩ := hcut
   cases kq with
   | zero => exact absurd HA.out (by simp [dropperlaw01_MastCleans.j0])
   | succ kj10 =>
    have H := HA.out
    clear HA
    simp only [dropperlaw01_MastCleans.j0] at H
    by_cases c33 : x61_10 = true
    ·
     subst c33
     rw [if_pos rfl] at H
     exact absurd H (by simp)
    ·
     replace c33 := Bool.eq_false_iff.mpr c33
     subst c33
     rw [if_neg (show ¬ (false = true) by decide)] at H
     replace H := Option.bind_eq_some_iff.mp H
     obtain ⟨⟨t220, t221, t222⟩, A340, H⟩ := H
     try dsimp only at H
     have A34 := Aside0.mk A340
     clear A340
     replace H := Option.bind_eq_some_iff.mp H
     obtain ⟨⟨t223, t224, t225⟩, A350, H⟩ := H
     try dsimp only at H
     have A35 := Aside0.mk A350
     clear A350
     by_cases c36 : t220 = t223
     ·
      rw [if_pos c36] at H
      have c36b0 : (t220 == t223) = true := beq_iff_eq.mpr c36
      have c36b1 : (t220 != t223) = false := bne_eq_false_iff_eq.mpr c36
      clear c36
      by_cases c37 : t221 = t224
      ·
       rw [if_pos c37] at H
       have c37b0 : (t221 == t224) = true := beq_iff_eq.mpr c37
       have c37b1 : (t221 != t224) = false := bne_eq_false_iff_eq.mpr c37
       clear c37
       by_cases c38 : t222 = t225
       ·
        rw [if_pos c38] at H
        have c38b0 : (t222 == t225) = true := beq_iff_eq.mpr c38
        have c38b1 : (t222 != t225) = false := bne_eq_false_iff_eq.mpr c38
        clear c38
        replace H := Option.bind_eq_some_iff.mp H
        obtain ⟨t226, A390, H⟩ := H
        try dsimp only at H
        have A39 := Aside0.mk A390
        clear A390
        obtain rfl := Option.some.inj H
        go_wp2_with (first | ((with_reducible refine gate_callee (f := 17) rfl ?_); refine goesL_ (some 64) rfl rfl Tryd.func17 (by kernel_rfl) rfl #[.slice A0 l0.length c0] rfl mapz ?_; (with_reducible refine (mast_Deepest.calls _ _ l0 t220 t221 t222 _ (cbz HR0) HC0.out A34.out).mono ?_); rintro e w40 ⟨rfl, hb⟩; refine ⟨_, rfl, ?_⟩; replace HB := Aside0.mk (below_step bel hb); clear hb) | ((with_reducible refine gate_callee (f := 18) rfl ?_); refine goesL_ (some 70) rfl rfl Tryd.func18 (by kernel_rfl) rfl #[.slice A0 l0.length c0] rfl mapz ?_; (with_reducible refine (dropperref01_Deepest.calls kj10 _ _ l0 t223 t224 t225 _ (cbz HR0) HC0.out A35.out).mono ?_); rintro e w41 ⟨rfl, hb⟩; refine ⟨_, rfl, ?_⟩; replace HB := Aside0.mk (below_step bel hb); clear hb) | (go_at_call 11; (with_reducible refine (dropperlaw01_First.calls kj10  t226 _ (tbz HT) A39.out).mono ?_); rintro e w42 ⟨rfl, hb⟩; replace HB := Aside0.mk (below_step bel hb); clear hb))
        go_ret
        exact ⟨ezz, bel⟩
       ·
        rw [if_neg c38] at H
        exact absurd H (by simp)
      ·
       rw [if_neg c37] at H
       exact absurd H (by simp)
     ·
      rw [if_neg c36] at H
      exact absurd H (by simp)

end Go.Proofs.YtcmdcgghpkcchaaDoor.XMast
-- Written by wip/xprint.py of this repo, over the kit's print.py: out of the translation; the oracles in it are by hand. Not trusted: Lean checks it.
namespace Go.Proofs.YtcmdcgghpkcchaaDoor.XMast
open Go.RowKit Go.Proofs.YtcmdcgghpkcchaaDoor.XMast Go.Proofs.YtcmdcgghpkcchaaDoorW.PrintWords Go.Proofs.YtcmdcgghpkcchaaDoorW.PrintLast Go.Proofs.YtcmdcgghpkcchaaDoorW.PrintMore
def dropperlaw01_MastCleans.Pure : Prop := ∀ (l0 : List (S46)) (a1 : Int), (l0.length ≤ 9223372036854775807 ∧ ∀ y0 ∈ l0, ((Lit.int .i64 y0.f0).wf = true) ∧ ((Lit.int .i64 y0.f1).wf = true)) → ((Lit.int .i64 a1).wf = true) → ∃ k, dropperlaw01_MastCleans.f k l0 a1 = some true
end Go.Proofs.YtcmdcgghpkcchaaDoor.XMast

namespace Go.Proofs.YtcmdcgghpkcchaaDoor.XMast
open Go.RowKit Go.Proofs.YtcmdcgghpkcchaaDoorW.PrintWords Go.Proofs.YtcmdcgghpkcchaaDoorW.PrintLast Go.Proofs.YtcmdcgghpkcchaaDoorW.PrintMore
attribute [local go_sem] max2_int min2_int max_two min_two max_three min_three max_four min_four   -- for this text's walks alone
set_option linter.unusedVariables false
set_option linter.unusedSimpArgs false
/-! ### dropperref01_Valid: function 37 -/
def dropperref01_Valid.l0 : Nat → List (S46) → Int → Option (Bool)
 | 0, _, _ => none
 | k + 1, x0, x3 => if x3 < (x0.length : Int) then (if 0 ≤ x3 then ((dropperref01_isStretch.f ((rd_T46 x0 x3).f0) ((rd_T46 x0 x3).f1)).bind fun t232 => (if t232 = true then (if x3 > 0 then (if 0 ≤ (wrap64 (x3 - 1)) then (if (wrap64 (x3 - 1)) < (x0.length : Int) then (if ((rd_T46 x0 x3).f0) ≤ ((rd_T46 x0 (wrap64 (x3 - 1))).f1) then (some false) else (dropperref01_Valid.l0 k x0 (wrap64 (x3 + 1)))) else (none)) else (none)) else (dropperref01_Valid.l0 k x0 (wrap64 (x3 + 1)))) else (some false))) else (none)) else (some (decide ((x0.length : Int) ≤ 60)))
def dropperref01_Valid.f (k : Nat) (l0 : List (S46)) : Option (Bool) := dropperref01_Valid.l0 k l0 0
def dropperref01_Valid.T4 : Bool × List (List Nat × List Nat) := (true, [([], []), ([], []), ([0, 1], [0, 1]), ([2], [2]), ([3], [3]), ([4], [4]), ([5, 4], [5]), ([6], [6]), ([7, 6], [6, 7]), ([8, 6, 6], [6, 8]), ([9], [9]), ([9], [9]), ([10, 11, 9], [9, 10, 11]), ([12, 9], [9, 12]), ([13, 9], [9, 13]), ([9], [9]), ([9], [9]), ([16, 9], [9, 16]), ([15, 17, 9], [9, 15, 17]), ([18, 9], [9, 18]), ([19, 9], [9, 19]), ([14, 20, 9], [9, 14, 20]), ([9, 21, 6], [6, 9, 21]), ([6, 22], [6, 22])])
def dropperref01_Valid.B4 : List Nat := [0, 0, 3, 7, 15, 31, 63, 127, 255, 511, 1023, 1023, 4095, 8191, 16383, 1023, 1023, 66559, 230399, 492543, 1016831, 2097151, 4194303, 8388607]
theorem dropperref01_Valid.tab4 : rtab .any (opsOf Tryd.f37 4) = dropperref01_Valid.T4 := by kernel_rfl
theorem dropperref01_Valid.bits4 : waitsOk dropperref01_Valid.T4.2 dropperref01_Valid.B4 = true := by kernel_rfl
/-! ### dropperref01_together: function 56 -/
mutual
def dropperref01_together.j0 : Nat → List (S46) → List (S46) → Int → Bool → Option ((List (S46)) × Int)
 | 0, _, _, _, _ => none
 | k + 1, x0, x1, x2, x20 => if x20 = true then (some (([] : List (S46)), 10)) else ((dropperref01_bounds.f x0 x1).bind fun t264 => (dropperref01_together.l0 k x0 x1 x2 t264 ([] : List Bool) 0))
def dropperref01_together.l0 : Nat → List (S46) → List (S46) → Int → List Int → List Bool → Int → Option ((List (S46)) × Int)
 | 0, _, _, _, _, _, _ => none
 | k + 1, x0, x1, x2, x8, x9, x10 => if x10 < (x8.length : Int) then (if 0 ≤ x10 then ((dropperref01_depth.f k x0 (rd x8 x10)).bind fun t268 => ((dropperref01_depth.f k x1 (rd x8 x10)).bind fun t270 => (if x2 = 1 then (if t268 > 0 then (if x9.length < 140737488355328 then (dropperref01_together.l0 k x0 x1 x2 x8 (x9 ++ [true]) (wrap64 (x10 + 1))) else (none)) else (if t270 > 0 then (if x9.length < 140737488355328 then (dropperref01_together.l0 k x0 x1 x2 x8 (x9 ++ [true]) (wrap64 (x10 + 1))) else (none)) else (if x2 = 2 then (if x2 = 3 then (if x9.length < 140737488355328 then (dropperref01_together.l0 k x0 x1 x2 x8 (x9 ++ [false]) (wrap64 (x10 + 1))) else (none)) else (if x9.length < 140737488355328 then (dropperref01_together.l0 k x0 x1 x2 x8 (x9 ++ [false]) (wrap64 (x10 + 1))) else (none))) else (if x2 = 3 then (if x9.length < 140737488355328 then (dropperref01_together.l0 k x0 x1 x2 x8 (x9 ++ [false]) (wrap64 (x10 + 1))) else (none)) else (if x9.length < 140737488355328 then (dropperref01_together.l0 k x0 x1 x2 x8 (x9 ++ [false]) (wrap64 (x10 + 1))) else (none)))))) else (if x2 = 2 then (if t268 > 0 then (if t270 > 0 then (if x9.length < 140737488355328 then (dropperref01_together.l0 k x0 x1 x2 x8 (x9 ++ [true]) (wrap64 (x10 + 1))) else (none)) else (if x2 = 3 then (if x9.length < 140737488355328 then (dropperref01_together.l0 k x0 x1 x2 x8 (x9 ++ [!(decide (t270 > 0))]) (wrap64 (x10 + 1))) else (none)) else (if x9.length < 140737488355328 then (dropperref01_together.l0 k x0 x1 x2 x8 (x9 ++ [false]) (wrap64 (x10 + 1))) else (none)))) else (if x2 = 3 then (if x9.length < 140737488355328 then (dropperref01_together.l0 k x0 x1 x2 x8 (x9 ++ [false]) (wrap64 (x10 + 1))) else (none)) else (if x9.length < 140737488355328 then (dropperref01_together.l0 k x0 x1 x2 x8 (x9 ++ [false]) (wrap64 (x10 + 1))) else (none)))) else (if x2 = 3 then (if t268 > 0 then (if x9.length < 140737488355328 then (dropperref01_together.l0 k x0 x1 x2 x8 (x9 ++ [!(decide (t270 > 0))]) (wrap64 (x10 + 1))) else (none)) else (if x9.length < 140737488355328 then (dropperref01_together.l0 k x0 x1 x2 x8 (x9 ++ [false]) (wrap64 (x10 + 1))) else (none))) else (if x9.length < 140737488355328 then (dropperref01_together.l0 k x0 x1 x2 x8 (x9 ++ [false]) (wrap64 (x10 + 1))) else (none))))))) else (none)) else ((dropperref01_made.f k x8 x9).bind fun bt313 => (some (bt313.1, bt313.2)))
end
def dropperref01_together.f (k : Nat) (l0 : List (S46)) (l1 : List (S46)) (a2 : Int) : Option ((List (S46)) × Int) := (dropperref01_Valid.f k l0).bind fun t262 => (if t262 = true then ((dropperref01_Valid.f k l1).bind fun t263 => (dropperref01_together.j0 k l0 l1 a2 (!t263))) else (dropperref01_together.j0 k l0 l1 a2 true))
/-! ### mast_length: function 51 -/
def mast_length.l0 : Nat → Int → List (S46) → Int → Int → Option (Int)
 | 0, _, _, _, _ => none
 | k + 1, x2, x5, x6, x7 => if x7 < x6 then (if 0 ≤ x7 then (if x7 < (x5.length : Int) then (mast_length.l0 k (wrap64 (x2 + (wrap64 (((rd_T46 x5 x7).f1) - ((rd_T46 x5 x7).f0))))) x5 x6 (wrap64 (x7 + 1))) else (none)) else (none)) else (some x2)
/-! ### dropperref01_Sum: function 38 -/
def dropperref01_Sum.l0 : Nat → List (S46) → Int → Int → Option (Int)
 | 0, _, _, _ => none
 | k + 1, x0, x3, x4 => if x4 < (x0.length : Int) then (if 0 ≤ x4 then (dropperref01_Sum.l0 k x0 (wrap64 (x3 + (wrap64 (((rd_T46 x0 x4).f1) - ((rd_T46 x0 x4).f0))))) (wrap64 (x4 + 1))) else (none)) else (some x3)
end Go.Proofs.YtcmdcgghpkcchaaDoor.XMast
/- Which lists are lays, as the program and the reference say it. -/
namespace Go.Proofs.YtcmdcgghpkcchaaDoor.Lay
set_option linter.unusedVariables false
set_option linter.unusedSimpArgs false
open Go.RowKit Go.Proofs.YtcmdcgghpkcchaaDoor.XMast Go.Proofs.YtcmdcgghpkcchaaDoorW.PrintWords Go.Proofs.YtcmdcgghpkcchaaDoorW.PrintLast Go.Proofs.YtcmdcgghpkcchaaDoorW.PrintMore
theorem ev_const {α : Type} {o : Option α} {r : α} (h : o = some r) : Ev (fun _ => o) r := ⟨0, fun _ _ => h⟩
theorem ev_pos {α : Type} {c : Prop} [Decidable c] {a b : Nat → Option α} {r : α} (hc : c) (h : Ev a r) : Ev (fun k => if c then a k else b k) r := Ev.congr (fun k => if_pos hc) h
theorem ev_neg {α : Type} {c : Prop} [Decidable c] {a b : Nat → Option α} {r : α} (hc : ¬ c) (h : Ev b r) : Ev (fun k => if c then a k else b k) r := Ev.congr (fun k => if_neg hc) h
theorem ev_some {α β : Type} {a : α} {f : Nat → α → Option β} {r : β} (h : Ev (fun k => f k a) r) : Ev (fun k => (some a).bind (f k)) r := h
theorem wrap_id {x : Int} (h0 : -9223372036854775808 ≤ x) (h1 : x ≤ 9223372036854775807) : wrap64 x = x := by unfold wrap64; omega
theorem wrap_succ {i n : Nat} (h : i < n) (hn : n ≤ 9223372036854775807) : wrap64 ((i : Int) + 1) = ((i + 1 : Nat) : Int) := by rw [wrap_id] <;> omega
theorem rdSt (l : List St) (i : Nat) (h : i < l.length) : rd_T46 l (i : Int) = l[i] := by simp [rd_T46, List.getD_eq_getElem?_getD, h]
instance (s : St) : Decidable (isSt s) := inferInstanceAs (Decidable (_ ∧ _))
theorem mst (a b : Int) : mast_isStretch.f a b = some (decide (isSt ⟨a, b⟩)) := by
 unfold mast_isStretch.f mast_isAt.f isSt
 by_cases c1 : a ≥ 0 <;> by_cases c2 : a ≤ 100000 <;> by_cases c3 : b ≥ 0 <;> by_cases c4 : b ≤ 100000 <;> simp [c1, c2, c3, c4]
theorem rst (a b : Int) : dropperref01_isStretch.f a b = some (decide (isSt ⟨a, b⟩)) := by
 unfold dropperref01_isStretch.f dropperref01_isAt.f isSt
 by_cases c1 : a ≥ 0 <;> by_cases c2 : a ≤ 100000 <;> by_cases c3 : b ≥ 0 <;> by_cases c4 : b ≤ 100000 <;> simp [c1, c2, c3, c4]
theorem Norm.at_ {l : List St} (h : Norm l) (i : Nat) (hi : i < l.length) : Lay.isSt l[i] := h.isSt _ (List.getElem_mem hi)
theorem Norm.gap {l : List St} (h : Norm l) (i : Nat) (hi : i + 1 < l.length) : l[i].f1 < l[i + 1].f0 := List.pairwise_iff_getElem.1 h.1 i (i + 1) (by omega) hi (by omega)
end Go.Proofs.YtcmdcgghpkcchaaDoor.Lay

/- The layer's smaller functions, and the reference's cuts, plainly. -/
namespace Go.Proofs.YtcmdcgghpkcchaaDoor.Lay
set_option linter.unusedVariables false
set_option linter.unusedSimpArgs false
open Go.RowKit Go.Proofs.YtcmdcgghpkcchaaDoor.XMast Go.Proofs.YtcmdcgghpkcchaaDoorW.PrintWords Go.Proofs.YtcmdcgghpkcchaaDoorW.PrintLast Go.Proofs.YtcmdcgghpkcchaaDoorW.PrintMore
theorem ev_val {α β : Type} {g : Option α} {f : Nat → α → Option β} {a : α} {r : β} (h : g = some a) (k : Ev (fun n => f n a) r) : Ev (fun n => g.bind (f n)) r := by subst h; exact k
/-! ### Same -/
theorem same_refl (l : List St) (hl : l.length ≤ 9223372036854775806) : Ev (fun k => dropperlaw01_Same.f k l l) true := by
 unfold dropperlaw01_Same.f
 refine ev_pos rfl ?_
 have H : ∀ (d i : Nat), i + d = l.length → Ev (fun k => dropperlaw01_Same.l0 k l l (i : Int)) true := by
  intro d
  induction d with
  | zero =>
   intro i hi
   refine Ev.step (fun k => by rw [dropperlaw01_Same.l0]) ?_
   exact ev_neg (by omega) (Ev.now _)
  | succ d ih =>
   intro i hi
   refine Ev.step (fun k => by rw [dropperlaw01_Same.l0]) ?_
   refine ev_pos (by omega) (ev_pos (by omega) (ev_pos (by omega) (ev_neg (by simp) ?_)))
   rw [wrap_succ (n := l.length) (by omega) (by omega)]
   exact ih (i + 1) (by omega)
 exact H l.length 0 (by omega)
/-! ### how many have a metre; how many metres -/
theorem cnt_snoc (l : List St) (s : St) (x : Int) : cnt (l ++ [s]) x = cnt l x + (if s.f0 ≤ x ∧ x < s.f1 then 1 else 0) := by
 induction l with
 | nil => simp [cnt]
 | cons t l ih => rw [List.cons_append, cnt, cnt, ih]; omega
theorem depth (l : List St) (x : Int) (hl : l.length ≤ 1000000) : Ev (fun k => dropperref01_depth.f k l x) (cnt l x) := by
 have H : ∀ (d i : Nat), i + d = l.length → Ev (fun k => dropperref01_depth.l0 k l x (cnt (l.take i) x) (i : Int)) (cnt l x) := by
  intro d
  induction d with
  | zero =>
   intro i hi
   refine Ev.step (fun k => by rw [dropperref01_depth.l0]) ?_
   refine ev_neg (by omega) (ev_const ?_)
   rw [List.take_of_length_le (by omega)]
  | succ d ih =>
   intro i hi
   have hil : i < l.length := by omega
   have hc := cnt_nonneg (l.take i) x
   have hlen : (l.take i).length ≤ 1000000 := by simp; omega
   have ih1 := ih (i + 1) (by omega)
   rw [List.take_succ_eq_append_getElem hil, cnt_snoc] at ih1
   refine Ev.step (fun k => by rw [dropperref01_depth.l0]) ?_
   refine ev_pos (by omega) (ev_pos (by omega) ?_)
   rw [rdSt l i hil, wrap_succ (n := l.length) hil (by omega)]
   by_cases h1 : l[i].f0 ≤ x
   ·
    refine ev_pos h1 ?_
    by_cases h2 : x < l[i].f1
    ·
     refine ev_pos h2 ?_
     rw [if_pos ⟨h1, h2⟩] at ih1
     rw [wrap_id (x := cnt (l.take i) x + 1) (by omega) (by omega)]
     exact ih1
    ·
     refine ev_neg h2 ?_
     rw [if_neg (fun h => h2 h.2), Int.add_zero] at ih1
     exact ih1
   ·
    refine ev_neg h1 ?_
    rw [if_neg (fun h => h1 h.1), Int.add_zero] at ih1
    exact ih1
 exact H l.length 0 (by omega)
/-! ### raw -/
def rawOk (l : List St) : Prop := l.length ≤ 200 ∧ ∀ s ∈ l, isSt s
theorem bad_st (x : St) : mast_raw.bad x = !decide (isSt x) := by
 unfold mast_raw.bad
 rw [mst]
 cases decide (isSt x) <;> rfl
theorem mraw (l : List St) : (rawOk l ∧ mast_raw.f l = some 0) ∨ (¬ rawOk l ∧ mast_raw.f l = some 2) := by
 unfold mast_raw.f rawOk
 by_cases h1 : (l.length : Int) > 200
 ·
  exact .inr ⟨fun h => by omega, by rw [if_pos h1]⟩
 ·
  rw [if_neg h1]
  by_cases h2 : l.any mast_raw.bad = true
  ·
   rw [if_pos h2]
   refine .inr ⟨fun h => ?_, rfl⟩
   obtain ⟨x, hx, h3⟩ := List.any_eq_true.1 h2
   rw [bad_st] at h3
   simp [h.2 x hx] at h3
  ·
   rw [if_neg h2]
   refine .inl ⟨⟨by omega, fun s hs => ?_⟩, rfl⟩
   by_cases h3 : isSt s
   ·
    exact h3
   ·
    exact absurd (List.any_eq_true.2 ⟨s, hs, by rw [bad_st]; simp [h3]⟩) h2
theorem rraw (l : List St) (hl : l.length ≤ 9223372036854775806) : ∃ r : Bool, Ev (fun k => dropperref01_raw.f k l) r ∧ (r = true ↔ rawOk l) := by
 have H : ∀ (d i : Nat), i + d = l.length → (∀ s ∈ l.take i, isSt s) → ∃ r : Bool, Ev (fun k => dropperref01_raw.l0 k l (i : Int)) r ∧ (r = true ↔ rawOk l) := by
  intro d
  induction d with
  | zero =>
   intro i hi hs
   refine ⟨decide ((l.length : Int) ≤ 200), ?_, ?_⟩
   ·
    refine Ev.step (fun k => by rw [dropperref01_raw.l0]) ?_
    exact ev_neg (by omega) (Ev.now _)
   ·
    rw [List.take_of_length_le (by omega)] at hs
    rw [decide_eq_true_iff]
    exact ⟨fun h => ⟨by omega, hs⟩, fun h => by have := h.1; omega⟩
  | succ d ih =>
   intro i hi hs
   have hil : i < l.length := by omega
   by_cases h1 : isSt l[i]
   ·
    obtain ⟨r, h2, h3⟩ := ih (i + 1) (by omega) (fun s h => by
     rw [List.take_succ_eq_append_getElem hil] at h
     rcases List.mem_append.1 h with h | h
     ·
      exact hs s h
     ·
      rw [List.mem_singleton] at h; subst h; exact h1)
    refine ⟨r, ?_, h3⟩
    refine Ev.step (fun k => by rw [dropperref01_raw.l0]) ?_
    refine ev_pos (by omega) (ev_pos (by omega) ?_)
    rw [rdSt l i hil, rst, wrap_succ (n := l.length) hil (by omega)]
    exact ev_some (ev_pos (by simpa using h1) h2)
   ·
    refine ⟨false, ?_, (fun h => by cases h), fun h => absurd (h.2 _ (List.getElem_mem hil)) h1⟩
    refine Ev.step (fun k => by rw [dropperref01_raw.l0]) ?_
    refine ev_pos (by omega) (ev_pos (by omega) ?_)
    rw [rdSt l i hil, rst]
    exact ev_some (ev_neg (by simpa using h1) (Ev.now _))
 exact H l.length 0 (by omega) (fun s h => by simp at h)
/-! ### cuts -/
structure Cuts (C : List Int) : Prop where
 asc : C.Pairwise (· < ·)
 lo : 0 ∈ C
 hi : 100000 ∈ C
 bnd : ∀ c ∈ C, 0 ≤ c ∧ c ≤ 100000
open Put (putF idx)
theorem idx_lt (n : Int) : ∀ (l : List Int), ∀ x ∈ l.take (idx l n), x < n
 | [], x, h => by simp at h
 | y :: l, x, h => by
  unfold idx at h
  rw [List.takeWhile_cons] at h
  by_cases hy : y < n
  ·
   rw [if_pos (by simpa using hy), List.length_cons, List.take_succ_cons] at h
   rcases List.mem_cons.1 h with rfl | h
   ·
    exact hy
   ·
    exact idx_lt n l x h
  ·
   rw [if_neg (by simpa using hy)] at h; simp at h
theorem idx_ge (n : Int) : ∀ (l : List Int), l.Pairwise (· < ·) → ∀ x ∈ l.drop (idx l n), n ≤ x
 | [], _, x, h => by simp at h
 | y :: l, hp, x, h => by
  rw [List.pairwise_cons] at hp
  unfold idx at h
  rw [List.takeWhile_cons] at h
  by_cases hy : y < n
  ·
   rw [if_pos (by simpa using hy), List.length_cons, List.drop_succ_cons] at h
   exact idx_ge n l hp.2 x h
  ·
   rw [if_neg (by simpa using hy), List.length_nil, List.drop_zero] at h
   rcases List.mem_cons.1 h with rfl | h
   ·
    omega
   ·
    have := hp.1 x h; omega
theorem put_mem {l : List Int} {n : Int} (x : Int) : x ∈ putF l n ↔ x ∈ l ∨ x = n := by
 unfold putF
 by_cases h : l[idx l n]? = some n
 ·
  rw [if_pos h]
  refine ⟨.inl, fun h' => ?_⟩
  rcases h' with h' | rfl
  ·
   exact h'
  ·
   exact List.mem_of_getElem? h
 ·
  rw [if_neg h]
  rw [List.mem_append, List.mem_cons]
  constructor
  ·
   rintro (h' | rfl | h')
   ·
    exact .inl (List.mem_of_mem_take h')
   ·
    exact .inr rfl
   ·
    exact .inl (List.mem_of_mem_drop h')
  ·
   rintro (h' | rfl)
   ·
    rw [← List.take_append_drop (idx l n) l, List.mem_append] at h'
    rcases h' with h' | h'
    ·
     exact .inl h'
    ·
     exact .inr (.inr h')
   ·
    exact .inr (.inl rfl)
theorem put_asc {l : List Int} {n : Int} (hp : l.Pairwise (· < ·)) : (putF l n).Pairwise (· < ·) := by
 unfold putF
 by_cases h : l[idx l n]? = some n
 ·
  rw [if_pos h]; exact hp
 ·
  rw [if_neg h]
  have h1 := hp
  rw [← List.take_append_drop (idx l n) l, List.pairwise_append] at h1
  refine List.pairwise_append.2 ⟨h1.1, List.pairwise_cons.2 ⟨fun y hy => ?_, h1.2.1⟩, fun x hx y hy => ?_⟩
  ·
   have h2 := idx_ge n l hp y hy
   rcases Int.lt_or_eq_of_le h2 with h3 | h3
   ·
    exact h3
   ·
    exfalso
    subst h3
    apply h
    cases hd : l.drop (idx l n) with
    | nil => rw [hd] at hy; cases hy
    | cons z r =>
     rw [hd] at hy
     have h4 := h1.2.1
     rw [hd, List.pairwise_cons] at h4
     have h5 := idx_ge n l hp z (by rw [hd]; exact List.mem_cons_self)
     have h6 : l[idx l n]? = some z := by rw [← List.head?_drop, hd]; rfl
     rcases List.mem_cons.1 hy with e | e
     ·
      rw [h6, e]
     ·
      have := h4.1 _ e; omega
  ·
   have h2 := idx_lt n l x hx
   rcases List.mem_cons.1 hy with rfl | hy
   ·
    exact h2
   ·
    have := idx_ge n l hp y hy; omega
theorem Cuts.put {C : List Int} {n : Int} (h : Cuts C) (h0 : 0 ≤ n) (h1 : n ≤ 100000) : Cuts (putF C n) :=
 ⟨put_asc h.asc, (put_mem _).2 (.inl h.lo), (put_mem _).2 (.inl h.hi), fun c hc => by
  rcases (put_mem _).1 hc with hc | rfl
  ·
   exact h.bnd c hc
  ·
   exact ⟨h0, h1⟩⟩
theorem cuts_all : ∀ (l : List St) (C : List Int), Cuts C → (∀ s ∈ l, isSt s) → Cuts (dropperref01_bounds.all l C) ∧ (∀ c ∈ C, c ∈ dropperref01_bounds.all l C) ∧ ∀ s ∈ l, s.f0 ∈ dropperref01_bounds.all l C ∧ s.f1 ∈ dropperref01_bounds.all l C
 | [], C, h, _ => ⟨h, fun _ hc => hc, fun _ h => by cases h⟩
 | s :: t, C, h, hs => by
  have h1 := hs s List.mem_cons_self
  unfold isSt at h1
  obtain ⟨a, b, c⟩ := cuts_all t _ ((h.put (n := s.f0) (by omega) (by omega)).put (n := s.f1) (by omega) (by omega)) (fun u hu => hs u (List.mem_cons_of_mem _ hu))
  rw [dropperref01_bounds.all]
  refine ⟨a, fun x hx => b x ((put_mem _).2 (.inl ((put_mem _).2 (.inl hx)))), fun u hu => ?_⟩
  rcases List.mem_cons.1 hu with rfl | hu
  ·
   exact ⟨b _ ((put_mem _).2 (.inl ((put_mem _).2 (.inr rfl)))), b _ ((put_mem _).2 (.inr rfl))⟩
  ·
   exact c u hu
theorem cuts_len : ∀ (l : List St) (C : List Int), (dropperref01_bounds.all l C).length ≤ C.length + 2 * l.length
 | [], C => by simp [dropperref01_bounds.all]
 | s :: t, C => by
  have h1 := cuts_len t (putF (putF C s.f0) s.f1)
  have h2 := (dropperref01_bounds.put_len C s.f0).1
  have h3 := (dropperref01_bounds.put_len (putF C s.f0) s.f1).1
  rw [dropperref01_bounds.all, List.length_cons]
  omega
theorem bounds_ (l m : List St) (hl : l.length + m.length ≤ 450) (h0 : ∀ s ∈ l, isSt s) (h1 : ∀ s ∈ m, isSt s) :
  ∃ C, dropperref01_bounds.f l m = some C ∧ Cuts C ∧ C.length ≤ 1000 ∧ (∀ s ∈ l, s.f0 ∈ C ∧ s.f1 ∈ C) ∧ (∀ s ∈ m, s.f0 ∈ C ∧ s.f1 ∈ C) := by
 have hc : Cuts [0, 100000] := ⟨by simp, by simp, by simp, fun c hc => by simp at hc; omega⟩
 obtain ⟨a, _, c⟩ := cuts_all (l ++ m) [0, 100000] hc (fun s hs => by rcases List.mem_append.1 hs with hs | hs; exact h0 s hs; exact h1 s hs)
 refine ⟨_, by unfold dropperref01_bounds.f; rw [if_pos hl], a, ?_, fun s hs => c s (List.mem_append_left _ hs), fun s hs => c s (List.mem_append_right _ hs)⟩
 have := cuts_len (l ++ m) [0, 100000]
 simp at this
 omega
theorem Cuts.zero {C : List Int} (h : Cuts C) : ∃ hl : 0 < C.length, C[0] = 0 := by
 obtain ⟨j, hj, e⟩ := List.mem_iff_getElem.1 h.lo
 have hl : 0 < C.length := by omega
 refine ⟨hl, ?_⟩
 rcases Nat.eq_zero_or_pos j with rfl | hj0
 ·
  exact e
 ·
  have h1 := List.pairwise_iff_getElem.1 h.asc 0 j hl hj hj0
  have h2 := (h.bnd C[0] (List.getElem_mem hl)).1
  omega
theorem Cuts.last {C : List Int} (h : Cuts C) (hl : C.length - 1 < C.length) : C[C.length - 1] = 100000 := by
 obtain ⟨j, hj, e⟩ := List.mem_iff_getElem.1 h.hi
 by_cases hj1 : j = C.length - 1
 ·
  subst hj1; exact e
 ·
  have h1 := List.pairwise_iff_getElem.1 h.asc j (C.length - 1) hj hl (by omega)
  have h2 := (h.bnd _ (List.getElem_mem hl)).2
  omega
theorem cnt_const {C : List Int} (h : Cuts C) {l : List St} (hl : ∀ s ∈ l, s.f0 ∈ C ∧ s.f1 ∈ C) {i : Nat} (hi : i < C.length) {x : Int} (h1 : C[i] ≤ x) (h2 : ∀ j (hj : j < C.length), i < j → x < C[j]) : cnt l x = cnt l C[i] := by
 have key : ∀ c ∈ C, (c ≤ x ↔ c ≤ C[i]) := fun c hc => by
  obtain ⟨j, hj, rfl⟩ := List.mem_iff_getElem.1 hc
  refine ⟨fun h3 => ?_, fun h3 => by omega⟩
  rcases Nat.lt_trichotomy i j with h4 | h4 | h4
  ·
   have := h2 j hj h4; omega
  ·
   subst h4; exact Int.le_refl _
  ·
   have := List.pairwise_iff_getElem.1 h.asc j i hj hi h4; omega
 induction l with
 | nil => rfl
 | cons s t ih =>
  have hs := hl s List.mem_cons_self
  have k0 := key _ hs.1
  have k1 := key _ hs.2
  rw [cnt, cnt, ih (fun u hu => hl u (List.mem_cons_of_mem _ hu))]
  by_cases a : s.f0 ≤ x ∧ x < s.f1
  ·
   rw [if_pos a, if_pos (by omega)]
  ·
   rw [if_neg a, if_neg (by omega)]
theorem rdI (l : List Int) (i : Nat) (h : i < l.length) : rd l (i : Int) = l[i] := by simp [rd, List.getD_eq_getElem?_getD, h]
theorem rdB (l : List Bool) (i : Nat) (h : i < l.length) : rdOf false l (i : Int) = l[i] := by simp [rdOf, List.getD_eq_getElem?_getD, h]
theorem made_ {C : List Int} (h : Cuts C) (hC : C.length ≤ 1000) (Q : Int → Prop) (B : List Bool) (hB : B.length = C.length)
  (hq : ∀ (i : Nat) (h1 : i + 1 < C.length), ∀ x, C[i] ≤ x → x < C[i + 1] → (Q x ↔ B[i]'(by omega) = true)) :
  ∃ o, Norm o ∧ (∀ x, cov o x ↔ (0 ≤ x ∧ x < 100000 ∧ Q x)) ∧ Ev (fun k => dropperref01_made.f k C B) (fin o) := by
 have H : ∀ (d i : Nat) (out : List St) (hi : i + d + 1 = C.length), Part Q (C[i]'(by omega)) out → out.length ≤ i → ∃ o, Norm o ∧ (∀ x, cov o x ↔ (0 ≤ x ∧ x < 100000 ∧ Q x)) ∧ Ev (fun k => dropperref01_made.l0 k C B out (i : Int)) (fin o) := by
  intro d
  induction d with
  | zero =>
   intro i out hi hp hol
   have e : i = C.length - 1 := by omega
   subst e
   rw [h.last (by omega)] at hp
   refine ⟨out, hp.1, hp.2.2, ?_⟩
   refine Ev.step (fun k => by rw [dropperref01_made.l0]) ?_
   rw [wrap_id (by omega) (by omega)]
   refine ev_neg (by omega) ?_
   unfold fin
   by_cases h60 : out.length > 60
   ·
    rw [if_pos h60]; exact ev_pos (by omega) (Ev.now _)
   ·
    rw [if_neg h60]; exact ev_neg (by omega) (Ev.now _)
  | succ d ih =>
   intro i out hi hp hol
   have hi1 : i + 1 < C.length := by omega
   have hlt := List.pairwise_iff_getElem.1 h.asc i (i + 1) (by omega) hi1 (by omega)
   have hb0 := h.bnd C[i] (List.getElem_mem _)
   have hb1 := h.bnd C[i + 1] (List.getElem_mem _)
   have hw : wrap64 ((i : Int) + 1) = ((i + 1 : Nat) : Int) := wrap_succ (n := C.length) (by omega) (by omega)
   have hq1 := hq i hi1
   by_cases hbt : B[i]'(by omega) = true
   ·
    rcases List.eq_nil_or_concat out with rfl | ⟨o', u, rfl⟩
    ·
     obtain ⟨o, n1, n2, n3⟩ := ih (i + 1) ([] ++ [⟨C[i], C[i + 1]⟩]) (by omega) (hp.new hb0.1 hlt hb1.2 (fun _ h => by cases h) (fun x h1 h2 => (hq1 x h1 h2).2 hbt)) (by simp)
     refine ⟨o, n1, n2, ?_⟩
     refine Ev.step (fun k => by rw [dropperref01_made.l0]) ?_
     rw [hw, rdB B i (by omega), rdI C i (by omega), rdI C (i + 1) hi1]
     exact ev_pos (by omega) (ev_pos (by omega) (ev_pos (by omega) (ev_pos hbt (ev_neg (by simp) (ev_pos (by omega) (ev_pos (by omega) (ev_pos (by simp) n3)))))))
    ·
     rw [List.concat_eq_append] at hp hol ⊢
     have hL : (o' ++ [u]).length = o'.length + 1 := by simp
     have e1 : wrap64 (((o' ++ [u]).length : Int) - 1) = ((o'.length : Nat) : Int) := by rw [hL, wrap_id] <;> omega
     have e2 : rd_T46 (o' ++ [u]) ((o'.length : Nat) : Int) = u := by rw [rdSt _ _ (by simp)]; simp
     by_cases hu : u.f1 = C[i]
     ·
      obtain ⟨o, n1, n2, n3⟩ := ih (i + 1) (o' ++ [⟨u.f0, C[i + 1]⟩]) (by omega) (hp.more hu hlt hb1.2 (fun x h1 h2 => (hq1 x h1 h2).2 hbt)) (by simp at hol ⊢; omega)
      refine ⟨o, n1, n2, ?_⟩
      refine Ev.step (fun k => by rw [dropperref01_made.l0]) ?_
      rw [hw, e1, rdB B i (by omega), rdI C i (by omega), rdI C (i + 1) hi1, e2]
      have e3 : (o' ++ [u]).set ((o'.length : Nat) : Int).toNat ⟨u.f0, C[i + 1]⟩ = o' ++ [⟨u.f0, C[i + 1]⟩] := by simp
      rw [e3]
      exact ev_pos (by omega) (ev_pos (by omega) (ev_pos (by omega) (ev_pos hbt (ev_pos (by omega) (ev_pos (by omega) (ev_pos (by omega) (ev_pos (by omega) (ev_pos hu (ev_pos (by omega) n3)))))))))
     ·
      obtain ⟨o, n1, n2, n3⟩ := ih (i + 1) (o' ++ [u] ++ [⟨C[i], C[i + 1]⟩]) (by omega) (hp.new hb0.1 hlt hb1.2 (hp.last hu) (fun x h1 h2 => (hq1 x h1 h2).2 hbt)) (by rw [List.length_append, List.length_singleton]; omega)
      refine ⟨o, n1, n2, ?_⟩
      refine Ev.step (fun k => by rw [dropperref01_made.l0]) ?_
      rw [hw, e1, rdB B i (by omega), rdI C i (by omega), rdI C (i + 1) hi1, e2]
      exact ev_pos (by omega) (ev_pos (by omega) (ev_pos (by omega) (ev_pos hbt (ev_pos (by omega) (ev_pos (by omega) (ev_pos (by omega) (ev_pos (by omega) (ev_neg hu (ev_pos (by omega) (ev_pos (by omega) n3))))))))))
   ·
    obtain ⟨o, n1, n2, n3⟩ := ih (i + 1) out (by omega) (hp.skip (Int.le_of_lt hlt) (fun x h1 h2 hx => hbt ((hq1 x h1 h2).1 hx))) (by omega)
    refine ⟨o, n1, n2, ?_⟩
    refine Ev.step (fun k => by rw [dropperref01_made.l0]) ?_
    rw [hw, rdB B i (by omega)]
    exact ev_pos (by omega) (ev_pos (by omega) (ev_pos (by omega) (ev_neg hbt n3)))
 obtain ⟨hl, h0⟩ := h.zero
 exact H (C.length - 1) 0 [] (by omega) (by rw [h0]; exact Part.start Q) (Nat.le_refl _)
end Go.Proofs.YtcmdcgghpkcchaaDoor.Lay

/- both, walked: for whatever function of the level that is handed in. -/
namespace Go.Proofs.YtcmdcgghpkcchaaDoor.Lay
set_option linter.unusedVariables false
set_option linter.unusedSimpArgs false
open Go.RowKit Go.Proofs.YtcmdcgghpkcchaaDoor.XMast Go.Proofs.YtcmdcgghpkcchaaDoorW.PrintWords Go.Proofs.YtcmdcgghpkcchaaDoorW.PrintLast Go.Proofs.YtcmdcgghpkcchaaDoorW.PrintMore
end Go.Proofs.YtcmdcgghpkcchaaDoor.Lay

/- What the reference's loops over the cuts answer, and that the program's sweeps answer the same. -/
namespace Go.Proofs.YtcmdcgghpkcchaaDoor.Lay
set_option linter.unusedVariables false
set_option linter.unusedSimpArgs false
open Go.RowKit Go.Proofs.YtcmdcgghpkcchaaDoor.XMast Go.Proofs.YtcmdcgghpkcchaaDoorW.PrintWords Go.Proofs.YtcmdcgghpkcchaaDoorW.PrintLast Go.Proofs.YtcmdcgghpkcchaaDoorW.PrintMore
theorem Good.perm {ys zs : List Ch} (h : Good ys) (hp : zs.Perm ys) : Good zs := ⟨by rw [hp.length_eq]; exact h.1, fun c hc => h.2 c (hp.mem_iff.1 hc)⟩
theorem good_chg {l : List St} (h : rawOk l) : Good (chg 1 l) := ⟨by rw [chg_length]; have := h.1; omega, fun c hc => chg_mem (.inl rfl) h.2 c hc⟩
def IsLay (Q : Int → Prop) (o : List St) : Prop := Norm o ∧ ∀ x, cov o x ↔ (0 ≤ x ∧ x < 100000 ∧ Q x)
theorem IsLay.same {Q R : Int → Prop} {o o' : List St} (h : IsLay Q o) (h' : IsLay R o') (hq : ∀ x, 0 ≤ x → x < 100000 → (Q x ↔ R x)) : o = o' :=
 Norm.unique h.1 h'.1 fun x => by
  rw [h.2, h'.2]
  constructor
  ·
   rintro ⟨a, b, c⟩; exact ⟨a, b, (hq x a b).1 c⟩
  ·
   rintro ⟨a, b, c⟩; exact ⟨a, b, (hq x a b).2 c⟩
theorem swept_lay (p : Int → Bool) {ys : List Ch} (hg : Good ys) : IsLay (fun x => p (lev ys x) = true) (swept p (srt ys)) := by
 obtain ⟨a, b⟩ := swept_spec p (srt ys) (srt_sorted ys) (hg.perm (srt_perm ys))
 refine ⟨a, fun x => (b x).trans ?_⟩
 rw [lev_perm (srt_perm ys)]
def oftenL (l : List St) (n : Int) : List St := swept (fun lv => decide (n ≤ lv)) (srt (chg 1 l))
theorem often_lay {l : List St} (h : rawOk l) (n : Int) : IsLay (fun x => n ≤ cnt l x) (oftenL l n) := by
 obtain ⟨a, b⟩ := swept_lay (fun lv => decide (n ≤ lv)) (good_chg h)
 refine ⟨a, fun x => (b x).trans ?_⟩
 show (_ ∧ _ ∧ decide (n ≤ lev (chg 1 l) x) = true) ↔ (_ ∧ _ ∧ n ≤ cnt l x)
 rw [lev_chg 1 l x h.2, Int.one_mul, decide_eq_true_iff]
theorem cuts_next {C : List Int} (h : Cuts C) {i : Nat} (hi : i + 1 < C.length) {x : Int} (hx : x < C[i + 1]) : ∀ j (hj : j < C.length), i < j → x < C[j] := fun j hj hij => by
 rcases Nat.eq_or_lt_of_le (show i + 1 ≤ j from hij) with e | e
 ·
  subst e; exact hx
 ·
  have := List.pairwise_iff_getElem.1 h.asc (i + 1) j hi hj e; omega
theorem often_ref {l : List St} (h : rawOk l) (n : Int) : Ev (fun k => dropperref01_often.f k l n) (fin (oftenL l n)) := by
 obtain ⟨C, hb, hC, hL, hm, _⟩ := bounds_ l [] (by have := h.1; simp; omega) h.2 (fun _ h => by cases h)
 unfold dropperref01_often.f
 refine ev_val hb ?_
 have H : ∀ (d i : Nat), i + d = C.length → Ev (fun k => dropperref01_often.l0 k l n C ((C.take i).map (fun c => decide (cnt l c ≥ n))) (i : Int)) (fin (oftenL l n)) := by
  intro d
  induction d with
  | zero =>
   intro i hi
   refine Ev.step (fun k => by rw [dropperref01_often.l0]) ?_
   refine ev_neg (by omega) ?_
   rw [List.take_of_length_le (by omega)]
   obtain ⟨o, h1, h2, h3⟩ := made_ hC hL (fun x => n ≤ cnt l x) (C.map (fun c => decide (cnt l c ≥ n))) (by simp) (fun i hi x h1 h2 => by
    rw [cnt_const hC hm (i := i) (by omega) h1 (cuts_next hC hi h2)]
    simp)
   have e : o = oftenL l n := (IsLay.same ⟨h1, h2⟩ (often_lay h n) (fun _ _ _ => Iff.rfl))
   rw [← e]
   exact Ev.bind h3 (Ev.now _)
  | succ d ih =>
   intro i hi
   have hil : i < C.length := by omega
   have ih1 := ih (i + 1) (by omega)
   rw [List.take_succ_eq_append_getElem hil, List.map_append] at ih1
   refine Ev.step (fun k => by rw [dropperref01_often.l0]) ?_
   rw [rdI C i hil, wrap_succ (n := C.length) hil (by omega)]
   exact ev_pos (by omega) (ev_pos (by omega) (Ev.bind (depth l C[i] (by have := h.1; omega)) (ev_pos (by simp; omega) ih1)))
 exact H C.length 0 (by omega)
theorem fin_len (o : List St) : (fin o).1.length ≤ 60 := by
 unfold fin
 by_cases h : o.length > 60
 ·
  rw [if_pos h]; exact Nat.zero_le _
 ·
  rw [if_neg h]; show o.length ≤ 60; omega
theorem Often_ref (l : List St) (n : Int) (hl : l.length ≤ 9223372036854775806) : ∃ r, mast_Often.f l n = some r ∧ Ev (fun k => dropperref01_Often.f k l n) r ∧ r.1.length ≤ 60 := by
 obtain ⟨b, hb, hb2⟩ := rraw l hl
 unfold dropperref01_Often.f mast_Often.f
 rcases mraw l with ⟨h, e⟩ | ⟨h, e⟩
 ·
  rw [e]
  have hb3 := hb2.2 h
  subst hb3
  rw [Option.bind_some, if_pos rfl]
  by_cases h1 : n < 1
  ·
   rw [if_pos h1]; exact ⟨_, rfl, Ev.bind hb (ev_pos rfl (ev_pos h1 (Ev.now _))), Nat.zero_le _⟩
  ·
   rw [if_neg h1]
   by_cases h2 : n > 200
   ·
    rw [if_pos h2]; exact ⟨_, rfl, Ev.bind hb (ev_pos rfl (ev_neg h1 (ev_pos h2 (Ev.now _)))), Nat.zero_le _⟩
   ·
    rw [if_neg h2]
    exact ⟨_, rfl, Ev.bind hb (ev_pos rfl (ev_neg h1 (ev_neg h2 (Ev.bind (often_ref h n) (Ev.now _))))), fin_len _⟩
 ·
  rw [e]
  have hb3 : b = false := by cases b; rfl; exact absurd (hb2.1 rfl) h
  subst hb3
  exact ⟨_, rfl, Ev.bind hb (ev_neg (by simp) (Ev.now _)), Nat.zero_le _⟩
theorem Clean_ref (l : List St) (hl : l.length ≤ 9223372036854775806) : ∃ r, mast_Clean.f l = some r ∧ Ev (fun k => dropperref01_Clean.f k l) r ∧ r.1.length ≤ 60 := by
 obtain ⟨b, hb, hb2⟩ := rraw l hl
 unfold dropperref01_Clean.f mast_Clean.f mast_Often.f
 rcases mraw l with ⟨h, e⟩ | ⟨h, e⟩
 ·
  rw [e]
  have hb3 := hb2.2 h
  subst hb3
  exact ⟨fin (oftenL l 1), rfl, Ev.bind hb (ev_pos rfl (Ev.bind (often_ref h 1) (Ev.now _))), fin_len _⟩
 ·
  rw [e]
  have hb3 : b = false := by cases b; rfl; exact absurd (hb2.1 rfl) h
  subst hb3
  exact ⟨_, rfl, Ev.bind hb (ev_neg (by simp) (Ev.now _)), Nat.zero_le _⟩
/-! ### Deepest -/
theorem Top.step {C : List Int} (hC : Cuts C) {l : List St} (hm : ∀ s ∈ l, s.f0 ∈ C ∧ s.f1 ∈ C) {i : Nat} (hi : i < C.length) {m d : Int} (h0 : 0 ≤ d)
  (h : Top (fun x => ∀ j (hj : j < C.length), i ≤ j → x < C[j]) (cnt l) m d) :
  (cnt l C[i] > d → Top (fun x => ∀ j (hj : j < C.length), i + 1 ≤ j → x < C[j]) (cnt l) C[i] (cnt l C[i])) ∧
  (¬ cnt l C[i] > d → Top (fun x => ∀ j (hj : j < C.length), i + 1 ≤ j → x < C[j]) (cnt l) m d) := by
 have key : ∀ x, (∀ j (hj : j < C.length), i + 1 ≤ j → x < C[j]) → (x < C[i] ∧ (∀ j (hj : j < C.length), i ≤ j → x < C[j])) ∨ (C[i] ≤ x ∧ cnt l x = cnt l C[i]) := fun x hx => by
  rcases Int.lt_or_le x C[i] with h1 | h1
  ·
   refine .inl ⟨h1, fun j hj hij => ?_⟩
   rcases Nat.eq_or_lt_of_le hij with e | e
   ·
    subst e; exact h1
   ·
    exact hx j hj e
  ·
   exact .inr ⟨h1, cnt_const hC hm hi h1 hx⟩
 have up : ∀ x, (∀ j (hj : j < C.length), i ≤ j → x < C[j]) → ∀ j (hj : j < C.length), i + 1 ≤ j → x < C[j] := fun x hx j hj hij => hx j hj (by omega)
 have self : ∀ j (hj : j < C.length), i + 1 ≤ j → C[i] < C[j] := fun j hj hij => List.pairwise_iff_getElem.1 hC.asc i j hi hj hij
 constructor
 ·
  intro hg
  refine .inr ⟨by omega, self, rfl, fun x hx => ?_, fun x hx hlt => ?_⟩
  ·
   rcases key x hx with ⟨_, h1⟩ | ⟨_, h1⟩
   ·
    rcases h with ⟨a, b, c⟩ | ⟨a, b, c, e, g⟩
    ·
     have := c x h1; omega
    ·
     have := e x h1; omega
   ·
    omega
  ·
   rcases key x hx with ⟨_, h1⟩ | ⟨h2, h1⟩
   ·
    rcases h with ⟨a, b, c⟩ | ⟨a, b, c, e, g⟩
    ·
     have := c x h1; omega
    ·
     have := e x h1; omega
   ·
    omega
 ·
  intro hg
  rcases h with ⟨a, b, c⟩ | ⟨a, b, c, e, g⟩
  ·
   refine .inl ⟨a, b, fun x hx => ?_⟩
   rcases key x hx with ⟨_, h1⟩ | ⟨_, h1⟩
   ·
    exact c x h1
   ·
    omega
  ·
   refine .inr ⟨a, up m b, c, fun x hx => ?_, fun x hx hlt => ?_⟩
   ·
    rcases key x hx with ⟨_, h1⟩ | ⟨_, h1⟩
    ·
     exact e x h1
    ·
     omega
   ·
    have hmi := b i hi (Nat.le_refl _)
    rcases key x hx with ⟨_, h1⟩ | ⟨h2, h1⟩
    ·
     exact g x h1 hlt
    ·
     omega
theorem cnt_before {l : List St} (hl : ∀ s ∈ l, isSt s) {x : Int} (hx : x < 0) : cnt l x = 0 := by
 induction l with
 | nil => rfl
 | cons s t ih =>
  have h := hl s List.mem_cons_self
  unfold isSt at h
  rw [cnt, ih (fun u hu => hl u (List.mem_cons_of_mem _ hu)), if_neg (by omega)]
  rfl
def deepL (l : List St) : Int × Int := deep (srt (chg 1 l)) 0 0 0
theorem deep_top {l : List St} (h : rawOk l) : Top (fun _ => True) (cnt l) (deepL l).1 (deepL l).2 := by
 have h1 := deepest_spec (srt (chg 1 l)) (srt_sorted _) ((good_chg h).perm (srt_perm _))
 have e : lev (srt (chg 1 l)) = cnt l := funext fun x => by rw [lev_perm (srt_perm _), lev_chg 1 l x h.2, Int.one_mul]
 rw [e] at h1
 exact h1
theorem Deepest_ref (l : List St) (hl : l.length ≤ 9223372036854775806) : ∃ r, mast_Deepest.f l = some r ∧ Ev (fun k => dropperref01_Deepest.f k l) r := by
 obtain ⟨b, hb, hb2⟩ := rraw l hl
 unfold dropperref01_Deepest.f mast_Deepest.f
 rcases mraw l with ⟨h, e⟩ | ⟨h, e⟩
 ·
  rw [e]
  have hb3 := hb2.2 h
  subst hb3
  obtain ⟨C, hbd, hC, hL, hm, _⟩ := bounds_ l [] (by have := h.1; simp; omega) h.2 (fun _ h => by cases h)
  refine ⟨((deepL l).1, (deepL l).2, 0), rfl, Ev.bind hb (ev_pos rfl (ev_val hbd ?_))⟩
  have H : ∀ (d i : Nat) (m n : Int), i + d = C.length → 0 ≤ n → Top (fun x => ∀ j (hj : j < C.length), i ≤ j → x < C[j]) (cnt l) m n → Ev (fun k => dropperref01_Deepest.l0 k l C m n (i : Int)) ((deepL l).1, (deepL l).2, 0) := by
   intro d
   induction d with
   | zero =>
    intro i m n hi h0 ht
    refine Ev.step (fun k => by rw [dropperref01_Deepest.l0]) ?_
    refine ev_neg (by omega) (ev_const ?_)
    have e2 : (fun x : Int => ∀ j (hj : j < C.length), i ≤ j → x < C[j]) = fun _ => True := funext fun x => propext ⟨fun _ => trivial, fun _ j hj hij => by omega⟩
    rw [e2] at ht
    obtain ⟨e3, e4⟩ := ht.unique (deep_top h)
    rw [e3, e4]
   | succ d ih =>
    intro i m n hi h0 ht
    have hil : i < C.length := by omega
    obtain ⟨t1, t2⟩ := ht.step hC hm hil h0
    refine Ev.step (fun k => by rw [dropperref01_Deepest.l0]) ?_
    rw [rdI C i hil, wrap_succ (n := C.length) hil (by omega)]
    refine ev_pos (by omega) (ev_pos (by omega) (Ev.bind (depth l C[i] (by have := h.1; omega)) ?_))
    by_cases hg : cnt l C[i] > n
    ·
     exact ev_pos hg (ih (i + 1) _ _ (by omega) (by omega) (t1 hg))
    ·
     exact ev_neg hg (ih (i + 1) _ _ (by omega) h0 (t2 hg))
  refine H C.length 0 0 0 (by omega) (Int.le_refl _) (.inl ⟨rfl, rfl, fun x hx => ?_⟩)
  obtain ⟨hl0, h00⟩ := hC.zero
  have := hx 0 hl0 (Nat.le_refl _)
  rw [h00] at this
  rw [cnt_before h.2 this]
  exact Int.le_refl _
 ·
  rw [e]
  have hb3 : b = false := by cases b; rfl; exact absurd (hb2.1 rfl) h
  subst hb3
  exact ⟨_, rfl, Ev.bind hb (ev_neg (by simp) (Ev.now _))⟩
/-! ### two lays together -/
end Go.Proofs.YtcmdcgghpkcchaaDoor.Lay

/- First, the chapter's examples. -/
namespace Go.Proofs.YtcmdcgghpkcchaaDoor.Lay
set_option linter.unusedVariables false
set_option linter.unusedSimpArgs false
open Go.RowKit Go.Proofs.YtcmdcgghpkcchaaDoor.XMast Go.Proofs.YtcmdcgghpkcchaaDoorW.PrintWords Go.Proofs.YtcmdcgghpkcchaaDoorW.PrintLast Go.Proofs.YtcmdcgghpkcchaaDoorW.PrintMore
theorem clean_first : mast_Clean.f [⟨5, 9⟩, ⟨0, 5⟩, ⟨20, 30⟩] = some ([⟨0, 9⟩, ⟨20, 30⟩], 0) := by
 have hr : rawOk [⟨5, 9⟩, ⟨0, 5⟩, ⟨20, 30⟩] := ⟨by decide, fun s hs => by
  simp only [List.mem_cons, List.not_mem_nil, or_false] at hs
  rcases hs with rfl | rfl | rfl <;> (unfold isSt; decide)⟩
 have e : oftenL [⟨5, 9⟩, ⟨0, 5⟩, ⟨20, 30⟩] 1 = [⟨0, 9⟩, ⟨20, 30⟩] := by
  refine (often_lay hr 1).same (R := fun x => 1 ≤ cnt [⟨5, 9⟩, ⟨0, 5⟩, ⟨20, 30⟩] x) ⟨?_, fun x => ?_⟩ (fun _ _ _ => Iff.rfl)
  ·
   refine Norm.cons.2 ⟨Norm.cons.2 ⟨Norm.nil, (fun _ h => by cases h), by decide, by decide, by decide⟩, fun u hu => ?_, by decide, by decide, by decide⟩
   rw [List.mem_singleton] at hu
   subst hu
   decide
  ·
   show _ ↔ (_ ∧ _ ∧ 0 < cnt _ x)
   rw [cnt_pos]
   simp only [cov_cons]
   have h := cov_nil x
   constructor
   ·
    rintro (h1 | h1 | h1)
    ·
     refine ⟨by omega, by omega, ?_⟩
     by_cases h2 : x < 5
     ·
      exact .inr (.inl ⟨by omega, by omega⟩)
     ·
      exact .inl ⟨by omega, by omega⟩
    ·
     exact ⟨by omega, by omega, .inr (.inr (.inl h1))⟩
    ·
     exact absurd h1 h
   ·
    rintro ⟨h2, h3, h1 | h1 | h1 | h1⟩
    ·
     exact .inl ⟨by omega, by omega⟩
    ·
     exact .inl ⟨by omega, by omega⟩
    ·
     exact .inr (.inl h1)
    ·
     exact absurd h1 h
 unfold mast_Clean.f mast_Often.f
 rcases mraw [⟨5, 9⟩, ⟨0, 5⟩, ⟨20, 30⟩] with ⟨h, e2⟩ | ⟨h, e2⟩
 ·
  rw [e2]
  show some ((fin (oftenL [⟨5, 9⟩, ⟨0, 5⟩, ⟨20, 30⟩] 1)).1, (fin (oftenL [⟨5, 9⟩, ⟨0, 5⟩, ⟨20, 30⟩] 1)).2) = _
  rw [e]
  rfl
 ·
  exact absurd hr h
theorem first_at : mast_FormatAt.f 12345 = some (⟨#[49, 50, 43, 51, 52, 53]⟩, 0) := by kernel_rfl
theorem first_form : mast_Format.f 10 [⟨0, 9⟩, ⟨20, 30⟩] = some (⟨#[48, 43, 48, 48, 48, 45, 48, 43, 48, 48, 57, 32, 48, 43, 48, 50, 48, 45, 48, 43, 48, 51, 48]⟩, 0) := by kernel_rfl
theorem first_near : mast_Near.f 10 [⟨0, 9⟩, ⟨20, 30⟩] 15 = some (20, 0) := by kernel_rfl
theorem first_ev : Ev (fun k => dropperlaw01_First.f k) true := by
 unfold dropperlaw01_First.f
 refine ev_val first_at (ev_val clean_first (Ev.bind (Ev.of (mast_Format.mono _) first_form) (Ev.bind (Ev.of (mast_Near.mono _ _) first_near) ?_)))
 refine ev_pos rfl (ev_pos rfl (ev_pos rfl (ev_pos rfl (ev_pos ?_ (ev_pos ?_ (Ev.now _))))))
 ·
  exact ByteArray.toList_eq _
 ·
  exact ByteArray.toList_eq _
end Go.Proofs.YtcmdcgghpkcchaaDoor.Lay

/- The lay of any stretches' metres, those that many have, and where the most are: program and reference answer the same. -/
namespace Go.Proofs.YtcmdcgghpkcchaaDoor.Pure
set_option linter.unusedVariables false
set_option linter.unusedSimpArgs false
open Go.RowKit Go.Proofs.YtcmdcgghpkcchaaDoor.XMast Go.Proofs.YtcmdcgghpkcchaaDoorW.PrintWords Go.Proofs.YtcmdcgghpkcchaaDoorW.PrintLast Go.Proofs.YtcmdcgghpkcchaaDoorW.PrintMore
open Go.Proofs.YtcmdcgghpkcchaaDoor.Lay
theorem MastCleans : dropperlaw01_MastCleans.Pure := by
 intro l n _ _
 refine Ev.rounds (r := true) (g := fun k => dropperlaw01_MastCleans.f k l n) ?_
 unfold dropperlaw01_MastCleans.f
 by_cases h : (l.length : Int) > 220
 ·
  exact ev_val (by unfold dropperlaw01_Long.f; rw [if_pos h]) (ev_pos rfl (Ev.bind first_ev (Ev.now _)))
 refine ev_val (by unfold dropperlaw01_Long.f; rw [if_neg h]) (ev_neg (by decide) ?_)
 obtain ⟨r, r1, r2, r3⟩ := Clean_ref l (by omega)
 obtain ⟨s, s1, s2, s3⟩ := Often_ref l n (by omega)
 obtain ⟨t, t1, t2⟩ := Deepest_ref l (by omega)
 refine ev_val r1 (Ev.bind r2 (ev_val s1 (Ev.bind s2 (Ev.bind (same_refl r.1 (by omega)) (ev_pos rfl (ev_pos rfl (Ev.bind (same_refl s.1 (by omega)) (ev_pos rfl ?_))))))))
 exact Ev.step (fun k => by rw [dropperlaw01_MastCleans.j0]) (ev_neg (by simp) (ev_val t1 (Ev.bind t2 (ev_pos rfl (ev_pos rfl (ev_pos rfl (Ev.bind first_ev (Ev.now _))))))))
end Go.Proofs.YtcmdcgghpkcchaaDoor.Pure

namespace Go.Proofs.YtcmdcgghpkcchaaDoor.Open
open Go.RowKit Go.Proofs.YtcmdcgghpkcchaaDoorW.PrintWords Go.Proofs.YtcmdcgghpkcchaaDoorW.PrintLast Go.Proofs.YtcmdcgghpkcchaaDoorW.PrintMore
set_option linter.unusedVariables false
set_option linter.unusedSimpArgs false
/-! What an argument of a type reads as, in the print's kinds. -/
def Opens {α : Type} (P : Program) (t : TypeId) (kd : Kd α) (G : α → Prop) : Prop :=
 ∀ (H : Type) (enc : TypeId × Value → H) (W : World) (fuel : Nat) (cs : List Value) (x : DataW H × List MemPlace), DataW.trod enc P W 0 (fun _ => true) true fuel t cs = some x → ∃ a, kd.K W a cs ∧ G a
section
variable {P : Program} {t e : TypeId} {α β : Type} {kd : Kd α} {G : α → Prop}
theorem opens_int {k : IntKind} (hu : P.underlying t = some (.int k)) : Opens P t (Kd.int k) (fun n => (Lit.int k n).wf = true) := by
 intro H enc W fuel cs x h
 obtain ⟨n, rfl, _, hw⟩ := DataW.trod_int hu h
 exact ⟨n, rfl, hw⟩
theorem exists_list {Q : Nat → α → Prop} : ∀ n, (∀ i, i < n → ∃ x, Q i x) → ∃ xs : List α, xs.length = n ∧ ∀ i x, xs[i]? = some x → Q i x := by
 intro n
 induction n with
 | zero => intro _; exact ⟨[], rfl, fun i x h => by simp at h⟩
 | succ n ih =>
  intro h
  obtain ⟨xs, hl, hq⟩ := ih (fun i hi => h i (by omega))
  obtain ⟨x, hx⟩ := h n (by omega)
  refine ⟨xs ++ [x], by simp [hl], fun i y hy => ?_⟩
  by_cases hi : i < n
  ·
   rw [List.getElem?_append_left (by omega)] at hy
   exact hq i y hy
  ·
   rw [List.getElem?_append_right (by omega)] at hy
   have : i - xs.length = 0 := by
    have := (List.getElem?_eq_some_iff.1 hy).1
    simp at this; omega
   rw [this] at hy
   have hin : i = n := by omega
   subst hin
   simp at hy
   subst hy
   exact hx
theorem add_add (a : Addr) (m n : Nat) : (a.add m).add n = a.add (m + n) := by
 unfold Addr.add
 by_cases h1 : m = 0
 ·
  subst h1; simp
 ·
  by_cases h2 : n = 0
  ·
   subst h2; simp [h1]
  ·
   have : ¬ m + n = 0 := by omega
   simp [h1, h2, this, Nat.add_assoc]
theorem opens_slice (hu : P.underlying t = some (.slice e)) (he : Opens P e kd G) (hc : P.cellsOf e = kd.sz) : Opens P t (Kd.slice e kd) (fun l => l.length ≤ 9223372036854775807 ∧ ∀ x ∈ l, G x) := by
 intro H enc W fuel cs x h
 rcases DataW.trod_slice hu h with ⟨rfl, _⟩ | ⟨a, len, cap, elems, rest, n, _, rfl, _, hb, hl, hm, hlen, hel, _, _⟩
 ·
  exact ⟨[], ⟨none, 0, rfl, Nat.le_refl _, rfl, by simp, fun h => absurd h (by simp)⟩, by simp, fun x hx => by simp at hx⟩
 ·
  have hx : ∀ i, i < len → ∃ y : α, (∃ c, c.length = kd.sz ∧ kd.K W y c ∧ ∀ j u, c[j]? = some u → W.cell? (a.add (i * kd.sz + j)) = some u) ∧ G y := by
   intro i hi
   have h1 := hel i hi
   rw [List.getElem?_eq_getElem (by omega)] at h1
   obtain ⟨c, hc1, hc2⟩ := Option.bind_eq_some_iff.1 h1
   obtain ⟨y, hk, hg⟩ := he H enc W n c _ hc2
   obtain ⟨_, hcl, hcell⟩ := World.cells?_some hc1
   refine ⟨y, ⟨c, kd.K_len hk, hk, fun j u hj => ?_⟩, hg⟩
   rw [hc] at hcell
   have := hcell j (by have := (List.getElem?_eq_some_iff.1 hj).1; have := kd.K_len hk; omega)
   rw [← add_add, this, hj]
  obtain ⟨xs, hxl, hxq⟩ := exists_list len hx
  have hmax : len ≤ 9223372036854775807 := by unfold maxLen at hm; omega
  refine ⟨xs, ⟨some a, cap, by rw [hxl], by omega, rfl, by omega, fun _ => ⟨a, rfl, fun j p hj => (hxq j p hj).1⟩⟩, by omega, fun y hy => ?_⟩
  obtain ⟨i, hi, rfl⟩ := List.mem_iff_getElem.1 hy
  exact (hxq i xs[i] (List.getElem?_eq_getElem hi)).2
def OpensF (P : Program) (fs : List Field) (off : Nat) (kd : Kd α) (G : α → Prop) : Prop :=
 ∀ (H : Type) (enc : TypeId × Value → H) (W : World) (fuel : Nat) (cs : List Value) (xs : List (DataW H × List MemPlace)), xs.length = fs.length → cs.length = off + kd.sz →
  (∀ (i : Nat) (f : Field), fs[i]? = some f → DataW.trod enc P W 0 (fun _ => true) true fuel f.type ((cs.drop f.offset).take (P.cellsOf f.type)) = xs[i]?) → ∃ a, kd.K W a (cs.drop off) ∧ G a
theorem opensF_one {f : Field} {off : Nat} (ho : f.offset = off) (hc : P.cellsOf f.type = kd.sz) (h : Opens P f.type kd G) : OpensF P [f] off kd G := by
 intro H enc W fuel cs xs hl hcs hx
 have h0 := hx 0 f rfl
 rw [List.getElem?_eq_getElem (by rw [hl]; simp), ho, hc, List.take_of_length_le (by rw [List.length_drop]; omega)] at h0
 exact h H enc W fuel _ _ h0
theorem opensF_cons {f : Field} {fs : List Field} {off : Nat} {ka : Kd α} {kb : Kd β} {Ga : α → Prop} {Gb : β → Prop} (ho : f.offset = off) (hc : P.cellsOf f.type = ka.sz) (h : Opens P f.type ka Ga) (hr : OpensF P fs (off + ka.sz) kb Gb) :
  OpensF P (f :: fs) off (Kd.pair ka kb) (fun p => Ga p.1 ∧ Gb p.2) := by
 intro H enc W fuel cs xs hl hcs hx
 have hcs' : cs.length = off + (ka.sz + kb.sz) := hcs
 match xs, hl with
 | x0 :: xs', hl =>
  have h0 := hx 0 f rfl
  rw [ho, hc] at h0
  obtain ⟨a, ha, hga⟩ := h H enc W fuel _ x0 h0
  obtain ⟨b, hb, hgb⟩ := hr H enc W fuel cs xs' (by simpa using hl) (by omega) (fun i f' hf' => hx (i + 1) f' (by simpa using hf'))
  refine ⟨(a, b), ⟨_, _, ?_, ha, hb⟩, hga, hgb⟩
  rw [← List.drop_drop, List.take_append_drop]
theorem opens_struct {fs : Array Field} (hu : P.underlying t = some (.struct fs)) (hc : P.cellsOf t = kd.sz) (h : OpensF P fs.toList 0 kd G) : Opens P t kd G := by
 intro H enc W fuel cs x hx
 obtain ⟨xs, n, _, _, hl, hxl, hf⟩ := DataW.trod_struct hu hx
 obtain ⟨a, ha, hg⟩ := h H enc W n cs xs (by rw [hxl]; simp) (by omega) (fun i f hf' => hf i f (by simpa using hf'))
 exact ⟨a, ha, hg⟩
theorem opens_iso {f : β → α} (g : α → β) (hfg : ∀ y, f (g y) = y) (h : Opens P t kd G) : Opens P t (Kd.iso kd f) (fun b => G (f b)) := by
 intro H enc W fuel cs x hx
 obtain ⟨a, ha, hg⟩ := h H enc W fuel cs x hx
 exact ⟨g a, by show kd.K W (f (g a)) cs; rw [hfg]; exact ha, by show G (f (g a)); rw [hfg]; exact hg⟩
end
end Go.Proofs.YtcmdcgghpkcchaaDoor.Open

/- From the rows' condition on the laid tables to the table of the powers of ten in the world. -/
namespace Go.Proofs.YtcmdcgghpkcchaaDoor.Laid
set_option linter.unusedVariables false
set_option linter.unusedSimpArgs false
open Go.ChangeShapes Go.WideShapes Go.ChangeAt Go.WideMaps Go.WideElems Go.RowKit Go.Proofs.YtcmdcgghpkcchaaDoor

abbrev laid2 : List (String × DataW Unit) := [("math/bits.deBruijn32tab", Rows.laid_math_bits_deBruijn32tab), ("math/bits.deBruijn64tab", Rows.laid_math_bits_deBruijn64tab), ("internal/strconv.uint64pow10", Rows.laid_internal_strconv_uint64pow10)]
theorem gp : Tryd.prog.globalNamed "internal/strconv.uint64pow10" = some 1 := by kernel_rfl
theorem tp : (Tryd.prog.globals[1]?).map (·.type) = some 120 := by kernel_rfl
theorem door_met (os : Os) (args : Array Value) : laidMetH Tryd.prog laid2 ((World.doorLaid Tryd.prog 4000 os).forCall (fun _ _ => 0) ⟨#[], args, []⟩).memory :=
 laidMetH_of_parts3 (fuel := 100) (laidMet_of_run' 100 (by kernel_rfl) (by kernel_rfl)) (by kernel_rfl) (by kernel_rfl)
theorem tabs_of {W : World} (h : laidMetH Tryd.prog laid2 W) : Tab.Tabs W := by
 rw [MakeChecks.laidMetH_plain _ _ _ (by kernel_rfl)] at h
 obtain ⟨ps, ⟨g0, t0, cs0, f0, p0, q0, hg0, ht0, hv0, hd0, ⟨g1, t1, cs1, f1, p1, q1, hg1, ht1, hv1, hd1, ⟨g2, t2, cs2, f2, p2, q2, hg2, ht2, hv2, hd2, _, _⟩, _⟩, _⟩, _, _⟩ := h
 obtain rfl := Option.some.inj (gp.symm.trans hg2)
 obtain rfl := Option.some.inj (tp.symm.trans ht2)
 have hT : (Rows.laid_internal_strconv_uint64pow10 : DataW Unit) = Lib.tabData .u64 Lib.pow10Tab := rfl
 rw [hT] at hd2
 unfold Tab.Tabs Lib.TabIs
 rw [hv2, ← Lib.cells_of_tab Tryd.underlying120 Tryd.underlying100 (by kernel_rfl) (by kernel_rfl) hd2]
end Go.Proofs.YtcmdcgghpkcchaaDoor.Laid

-- Written by wip/xprint.py of this repo, over the kit's print.py: out of the translation; the oracles in it are by hand. Not trusted: Lean checks it.
namespace Go.Proofs.YtcmdcgghpkcchaaDoor.mastCleans
open Go.ChangeShapes Go.WideShapes Go.ChangeAt Go.RowKit Go.Proofs.YtcmdcgghpkcchaaDoor.Open Go.Proofs.YtcmdcgghpkcchaaDoor.XMast Go.Proofs.YtcmdcgghpkcchaaDoorW.PrintWords Go.Proofs.YtcmdcgghpkcchaaDoorW.PrintLast Go.Proofs.YtcmdcgghpkcchaaDoorW.PrintMore
open Go.ChangeMaps (open_string shut_string)
set_option linter.unusedVariables false
set_option linter.unusedSimpArgs false
theorem own : ownKnob Tryd.prog.godebug = none := by kernel_rfl
theorem laidOut : laidOutB Tryd.prog = true := by kernel_rfl
set_option maxRecDepth 100000 in
theorem lifted (os : Os) (started : os.Started) (H : Type) (enc : TypeId × Value → H) :
  ReturnsInHanded {} Tryd.checked os 3 .any (fun w args => (Rows.mastCleansSpec.pre enc Tryd.prog Tryd.f3 [] false w args ∧ laidMetH Tryd.prog Laid.laid2 w) ∧ sizedMet enc Tryd.prog Tryd.f3 (OpenSpec.ofChange Rows.mastCleansSpec) false w args) (Rows.mastCleansSpec.post enc Tryd.prog Tryd.f3 false true false false) := by
 refine returnsInHanded_of_change_and (C := Tryd.checked) (X := fun w _ => laidMetH Tryd.prog Laid.laid2 w) (fun _ _ _ hh h => h.of_heap hh) own started (by kernel_rfl) Tryd.func3
  (ChangeSpec.witness_shaped (enc := enc) (C := Tryd.checked) (os := os) (X := fun w _ => laidMetH Tryd.prog Laid.laid2 w) false (World.doorLaid Tryd.prog 4000 os) #[.slice none 0 0, .int .i64 0] 8 rfl (World.shaped_of_RefB (by kernel_rfl) (by kernel_rfl)) (by kernel_rfl) (by kernel_rfl) (by kernel_rfl) (Laid.door_met os _)) ?_
 intro W base args ds gs before hval0 hW hcnd hsz0 hL _
 have hval : ∀ (j : Nat) t v, Tryd.f3.params[j]? = some t → args[j]? = some v → Value.okWide Tryd.prog W .any base t v := hval0
 have hW' := hW
 obtain ⟨p, q, hA0, hV, rfl, hfz, hnd⟩ := hW
 have hA : DataW.TrodAll enc Tryd.prog W 0 (fun _ => true) true Tryd.f3.params.toList args.toList ds p := hA0
 rw [Tryd.params3] at hA hval
 obtain ⟨v0, vs0, d0, ds0, p0, q0, hargs, rfl, rfl, h0, r0⟩ := trodAll_cons hA
 obtain ⟨v1, vs1, d1, ds1, p1, q1, rfl, rfl, rfl, h1, r1⟩ := trodAll_cons r0
 obtain ⟨rfl, rfl, rfl⟩ := trodAll_nil r1
 obtain rfl : args = #[v0, v1] := by cases args; simp_all
 obtain ⟨rfl, rfl⟩ := trodVars_none hV
 obtain ⟨b0, len0, cap0, rfl⟩ := okWide_slice Tryd.underlying22 (hval 0 22 v0 rfl rfl)
 have k0 := h0
 have lt0 : ∀ x ∈ p0, x.block < W.heap.size := by obtain ⟨m, hm⟩ := k0; exact DataW.trod_lt m _ _ _ hm
 obtain ⟨fuel0, hf0⟩ := h0
 obtain ⟨l0, ⟨A0, c0, hcs0, hc0, hr0⟩, hg0⟩ := (opens_slice Tryd.underlying22 (opens_iso (f := fun x : S46 => (x.f0, x.f1)) (fun p => ⟨p.1, p.2⟩) (fun _ => rfl) (opens_struct Tryd.underlying46 (by kernel_rfl) (opensF_cons rfl (by kernel_rfl) (opens_int Tryd.underlying3) (opensF_one rfl (by kernel_rfl) (opens_int Tryd.underlying3))))) (by kernel_rfl)) H enc W fuel0 _ _ hf0
 simp [Value.cells] at hcs0
 obtain ⟨rfl, rfl, rfl⟩ := hcs0
 obtain ⟨a1, rfl, rfl, rfl, w1⟩ := open_int Tryd.underlying3 (hval 1 3 v1 rfl rfl) h1
 clear hA0 hval0 hsz0
 obtain ⟨k, h⟩ := Pure.MastCleans l0 a1 hg0 w1
 refine (dropperlaw01_MastCleans.calls k _ _ l0 a1 true W hr0 hc0 (Laid.tabs_of hL) h).mono fun e W' ⟨he, bel0⟩ => ?_
 have bel : Below W.heap.size W W' := bel0
 subst he
 exact ⟨_, rfl, _, _, _, [], _, [], hW', trodAll_mk1 (shut_bool Tryd.underlying4 _), (trodAll_cons_mk (Below.trod laidOut (by kernel_rfl) (of_decide_eq_true (by kernel_rfl)) k0 bel lt0) (trodAll_cons_mk (shut_int Tryd.underlying3 w1) trodAll_mk0)), rfl, bel.frame _, fun h => by cases h⟩
theorem over : Rows.mastCleansRow.holds Tryd.pinned (OpenSpec.ofChange Rows.mastCleansSpec) :=
 OpenClaim.holds_of_wide 3 Tryd.f3 rfl rfl rfl rfl rfl rfl rfl ⟨rfl, rfl, rfl, rfl, rfl⟩ rfl rfl rfl rfl rfl (by kernel_rfl) Tryd.func3 (by kernel_rfl)
  (of_decide_eq_true (by kernel_rfl)) (by unfold Func.isWrapper; first | (rw [if_pos (by decide +kernel)]; kernel_rfl) | (rw [if_neg (by decide +kernel)]; exact ⟨rfl, rfl⟩))
  (fun os started H enc _ => lifted os started H enc)
theorem card_holds : Rows.MastCleansCardSaid :=
 Claim7.holds_tied_plain_at .later [] [.data, .data, .data] true (true, "d919e17aca2791b8c412353f2b117ae8d034433952b93dc40eac1d6d377e885d") false
  over (fun _ h => by cases h) (by kernel_rfl) (fun _ h => by cases h) mastCleans_row_tie rfl ⟨rfl, rfl⟩ (by kernel_rfl) rfl
  (fun f fn hf hfn => by
   obtain rfl : f = 3 := Option.some.inj ((show Tryd.prog.funcNamed "dropper/dropperlaw01.MastCleans" = some 3 by kernel_rfl).symm.trans hf) |>.symm
   obtain rfl : fn = Tryd.f3 := (Option.some.inj (Tryd.func3.symm.trans hfn)).symm
   exact ⟨by kernel_rfl, fun j t ht => by
    rw [Tryd.params3] at ht
    have hall : ∀ t ∈ (#[22, 3] : Array TypeId), Tryd.prog.wantsStandIn t = false := by decide +kernel
    exact hall t (Array.mem_of_getElem? ht)⟩)
  (by kernel_rfl)
#print axioms card_holds
end Go.Proofs.YtcmdcgghpkcchaaDoor.mastCleans
namespace Go.Proofs.YtcmdcgghpkcchaaDoor
theorem mastCleans_holds : Rows.MastCleansCardSaid := mastCleans.card_holds
end Go.Proofs.YtcmdcgghpkcchaaDoor
