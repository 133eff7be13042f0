-- Written by wip/pack.py of this repo: texts of this claim, put together.
import Derived.Test.YtcmdcgghpkcchaaDoorKMastc
namespace Go.Proofs.YtcmdcgghpkcchaaDoor.XMast
open Go.RowKit Go.Proofs.YtcmdcgghpkcchaaDoorW.PrintWords Go.Proofs.YtcmdcgghpkcchaaDoorW.PrintLast Go.Proofs.YtcmdcgghpkcchaaDoorW.PrintMore
attribute [local go_sem] max2_int min2_int max_two min_two max_three min_three max_four min_four   -- for this text's walks alone
set_option linter.unusedVariables false
set_option linter.unusedSimpArgs false
/-! ### dropperref01_made: function 67 -/
def dropperref01_made.l0 : Nat → List Int → List Bool → List (S46) → Int → Option ((List (S46)) × Int)
 | 0, _, _, _, _ => none
 | k + 1, x0, x1, x6, x7 => if (wrap64 (x7 + 1)) < (x0.length : Int) then (if 0 ≤ x7 then (if x7 < (x1.length : Int) then (if rdOf false x1 x7 = true then (if (x6.length : Int) > 0 then (if 0 ≤ (wrap64 ((x6.length : Int) - 1)) then (if (wrap64 ((x6.length : Int) - 1)) < (x6.length : Int) then (if x7 < (x0.length : Int) then (if ((rd_T46 x6 (wrap64 ((x6.length : Int) - 1))).f1) = (rd x0 x7) then (if 0 ≤ (wrap64 (x7 + 1)) then (dropperref01_made.l0 k x0 x1 (x6.set ((wrap64 ((x6.length : Int) - 1)) : Int).toNat (⟨(rd_T46 x6 (wrap64 ((x6.length : Int) - 1))).f0, rd x0 (wrap64 (x7 + 1))⟩ : S46)) (wrap64 (x7 + 1))) else (none)) else (if 0 ≤ (wrap64 (x7 + 1)) then (if x6.length < 8796093022208 then (dropperref01_made.l0 k x0 x1 (x6 ++ [(⟨rd x0 x7, rd x0 (wrap64 (x7 + 1))⟩ : S46)]) (wrap64 (x7 + 1))) else (none)) else (none))) else (none)) else (none)) else (none)) else (if x7 < (x0.length : Int) then (if 0 ≤ (wrap64 (x7 + 1)) then (if x6.length < 8796093022208 then (dropperref01_made.l0 k x0 x1 (x6 ++ [(⟨rd x0 x7, rd x0 (wrap64 (x7 + 1))⟩ : S46)]) (wrap64 (x7 + 1))) else (none)) else (none)) else (none))) else (dropperref01_made.l0 k x0 x1 x6 (wrap64 (x7 + 1)))) else (none)) else (none)) else (if (x6.length : Int) > 60 then (some (([] : List (S46)), 4)) else (some (x6, 0)))
def dropperref01_made.f (k : Nat) (l0 : List Int) (l1 : List Bool) : Option ((List (S46)) × Int) := dropperref01_made.l0 k l0 l1 ([] : List (S46)) 0
def dropperref01_made.T5 : Bool × List (List Nat × List Nat) := (true, [([], []), ([], []), ([], []), ([1, 2], [1, 2]), ([3], [3]), ([], []), ([], []), ([6], [6]), ([5, 7], [5, 7]), ([8], [8]), ([4, 9], [4, 9]), ([10], [10]), ([0, 11], [0, 11]), ([12, 12, 0, 1, 2, 3, 4, 5, 6, 7, 8, 9, 10, 11, 12], [0, 12])])
def dropperref01_made.B5 : List Nat := [0, 0, 0, 6, 14, 0, 0, 64, 224, 480, 1022, 2046, 4095, 8191]
theorem dropperref01_made.tab5 : rtab .any (opsOf Tryd.f67 5) = dropperref01_made.T5 := by kernel_rfl
theorem dropperref01_made.bits5 : waitsOk dropperref01_made.T5.2 dropperref01_made.B5 = true := by kernel_rfl
def dropperref01_made.T7 : Bool × List (List Nat × List Nat) := (true, [([], []), ([0], [0]), ([1], [1]), ([2], [2]), ([3], [3]), ([3], [3]), ([5, 3], [3, 5]), ([6, 3], [3, 6]), ([4, 7, 3], [3, 4, 7]), ([8, 3], [3, 8]), ([9, 3], [3, 9]), ([3], [3]), ([3], [3]), ([11, 12, 3], [3, 11, 12]), ([13, 3], [3, 13]), ([10, 14, 3], [3, 10, 14]), ([3, 15], [3, 15]), ([16, 3], [16])])
def dropperref01_made.B7 : List Nat := [0, 1, 3, 7, 15, 15, 47, 111, 255, 511, 1023, 15, 15, 6159, 14351, 32767, 65535, 131071]
theorem dropperref01_made.tab7 : rtab .any (opsOf Tryd.f67 7) = dropperref01_made.T7 := by kernel_rfl
theorem dropperref01_made.bits7 : waitsOk dropperref01_made.T7.2 dropperref01_made.B7 = true := by kernel_rfl
set_option maxHeartbeats 8000000 in
set_option maxRecDepth 100000 in
theorem dropperref01_made.calls (k : Nat) (A0 : Option Addr) (c0 : Nat) (l0 : List Int) (A1 : Option Addr) (c1 : Nat) (l1 : List Bool) (r1 : List (S46)) (r2 : Int) (w : World) (hr0 : Kd.C (Kd.int .i64) w A0 l0.length l0) (hc0 : l0.length ≤ c0) (hr1 : Kd.C Kd.bool w A1 l1.length l1) (hc1 : l1.length ≤ c1) (h : dropperref01_made.f k l0 l1 = some (r1, r2)) :
  Calls Tryd.prog 67 #[.slice A0 l0.length c0, .slice A1 l1.length c1] w fun e w' => ∃ v0_ : Value, e = .returned (.tuple #[v0_, .int .i64 r2]) ∧ Kd.R k46 46 w' w.heap.size (fun _ => True) v0_ r1 ∧ Below w.heap.size w w' := by
 have hu46 := Tryd.underlying46
 have HR0 := Aside0.mk hr0
 have HC0 := Aside0.mk hc0
 clear hr0 hc0
 have HR1 := Aside0.mk hr1
 have HC1 := Aside0.mk hc1
 clear hr1 hc1
 have HB := Aside0.mk (Below.refl w.heap.size w)
 have H : (dropperref01_made.l0 k l0 l1 ([] : List (S46)) 0) = some (r1, r2) := h
 clear h
 have H' := Aside0.mk H
 clear H
 go_enter Tryd.func67, Tryd.ntmps67
 go_wp2
 go_loopg [6, 7] k (fun kq v6 v7 w' => ∃ (x6_1 : List (S46)) (x7_1 : Int), v7 = .int .i64 x7_1 ∧ Aside0 (dropperref01_made.l0 kq l0 l1 x6_1 x7_1 = some (r1, r2)) ∧ Aside0 (kq ≤ k) ∧ Aside0 (Kd.R k46 46 w' w.heap.size (fun _ => True) v6 x6_1) ∧ Aside0 (Below w.heap.size w w'))
 case atStart => exact ⟨(([] : List (S46))), (0), rsz, H', ⟨Nat.le_refl _⟩, ⟨by first | exact Kd.R_nil _ _ _ _ _ | exact Kd.N_nil _ _ _ _ _ | exact Kd.V_nil _ _ _ _ _ | exact Kd.Q_nil _ _ _ _ _ | exact Kd.S_nil _ _ _ _ _⟩, ⟨bel⟩⟩
 case round =>
  clear H'
  (try clear c1); (try clear p2)
  obtain ⟨x6_1, x7_1, rfl, HA, HK1, HO_6, HB⟩ := hrel
  cases gk with
  | zero => exact absurd HA.out (by simp [dropperref01_made.l0])
  | succ k1 =>
   have H := HA.out
   clear HA
   simp only [dropperref01_made.l0] at H
   by_cases c3 : (wrap64 (x7_1 + 1)) < (l0.length : Int)
   ·
    rw [if_pos c3] at H
    have c3b0 : decide ((wrap64 (x7_1 + 1)) < (l0.length : Int)) = true := decide_eq_true c3
    clear c3
    by_cases c4 : 0 ≤ x7_1
    ·
     rw [if_pos c4] at H
     have c4b0 : decide (0 ≤ x7_1) = true := decide_eq_true c4
     clear c4
     by_cases c5 : x7_1 < (l1.length : Int)
     ·
      rw [if_pos c5] at H
      have c5b0 : decide (x7_1 < (l1.length : Int)) = true := decide_eq_true c5
      clear c5
      obtain ⟨bq6, hbq6⟩ : ∃ b_ : Bool, b_ = (rdOf false l1 x7_1) := ⟨_, rfl⟩
      replace H : (if bq6 = true then (if (x6_1.length : Int) > 0 then (if 0 ≤ (wrap64 ((x6_1.length : Int) - 1)) then (if (wrap64 ((x6_1.length : Int) - 1)) < (x6_1.length : Int) then (if x7_1 < (l0.length : Int) then (if ((rd_T46 x6_1 (wrap64 ((x6_1.length : Int) - 1))).f1) = (rd l0 x7_1) then (if 0 ≤ (wrap64 (x7_1 + 1)) then (dropperref01_made.l0 k1 l0 l1 (x6_1.set ((wrap64 ((x6_1.length : Int) - 1)) : Int).toNat (⟨(rd_T46 x6_1 (wrap64 ((x6_1.length : Int) - 1))).f0, rd l0 (wrap64 (x7_1 + 1))⟩ : S46)) (wrap64 (x7_1 + 1))) else (none)) else (if 0 ≤ (wrap64 (x7_1 + 1)) then (if x6_1.length < 8796093022208 then (dropperref01_made.l0 k1 l0 l1 (x6_1 ++ [(⟨rd l0 x7_1, rd l0 (wrap64 (x7_1 + 1))⟩ : S46)]) (wrap64 (x7_1 + 1))) else (none)) else (none))) else (none)) else (none)) else (none)) else (if x7_1 < (l0.length : Int) then (if 0 ≤ (wrap64 (x7_1 + 1)) then (if x6_1.length < 8796093022208 then (dropperref01_made.l0 k1 l0 l1 (x6_1 ++ [(⟨rd l0 x7_1, rd l0 (wrap64 (x7_1 + 1))⟩ : S46)]) (wrap64 (x7_1 + 1))) else (none)) else (none)) else (none))) else (dropperref01_made.l0 k1 l0 l1 x6_1 (wrap64 (x7_1 + 1)))) = some (r1, r2) := by rw [← hbq6] at H; exact H
      have Nbq6 := Aside0.mk hbq6
      clear hbq6
      by_cases c7 : bq6 = true
      ·
       subst c7
       rw [if_pos rfl] at H
       by_cases c8 : (x6_1.length : Int) > 0
       ·
        rw [if_pos c8] at H
        have c8b0 : decide (0 < (x6_1.length : Int)) = true := decide_eq_true c8
        have c8b1 : decide (0 < x6_1.length) = true := decide_eq_true (by omega)
        clear c8
        obtain ⟨ji9, hji9⟩ : ∃ j_ : Int, (wrap64 ((x6_1.length : Int) - 1)) = j_ := ⟨_, rfl⟩
        replace H : (if 0 ≤ (ji9) then (if (ji9) < (x6_1.length : Int) then (if x7_1 < (l0.length : Int) then (if ((rd_T46 x6_1 (ji9)).f1) = (rd l0 x7_1) then (if 0 ≤ (wrap64 (x7_1 + 1)) then (dropperref01_made.l0 k1 l0 l1 (x6_1.set ((ji9) : Int).toNat (⟨(rd_T46 x6_1 (ji9)).f0, rd l0 (wrap64 (x7_1 + 1))⟩ : S46)) (wrap64 (x7_1 + 1))) else (none)) else (if 0 ≤ (wrap64 (x7_1 + 1)) then (if x6_1.length < 8796093022208 then (dropperref01_made.l0 k1 l0 l1 (x6_1 ++ [(⟨rd l0 x7_1, rd l0 (wrap64 (x7_1 + 1))⟩ : S46)]) (wrap64 (x7_1 + 1))) else (none)) else (none))) else (none)) else (none)) else (none)) = some (r1, r2) := by first | (rw [hji9] at H; exact H) | (simp only [hji9] at H ⊢; exact H)
        have hji9w : (IntKind.i64.wrap ((x6_1.length : Int) - 1)) = ji9 := (i64_w _).trans hji9
        by_cases c10 : 0 ≤ (ji9)
        ·
         rw [if_pos c10] at H
         have c10b0 : decide (0 ≤ (ji9)) = true := decide_eq_true c10
         clear c10
         by_cases c11 : (ji9) < (x6_1.length : Int)
         ·
          rw [if_pos c11] at H
          have c11b0 : decide ((ji9) < (x6_1.length : Int)) = true := decide_eq_true c11
          clear c11
          by_cases c12 : x7_1 < (l0.length : Int)
          ·
           rw [if_pos c12] at H
           have c12b0 : decide (x7_1 < (l0.length : Int)) = true := decide_eq_true c12
           clear c12
           by_cases c13 : ((rd_T46 x6_1 (ji9)).f1) = (rd l0 x7_1)
           ·
            rw [if_pos c13] at H
            have c13b0 : (((rd_T46 x6_1 (ji9)).f1) == (rd l0 x7_1)) = true := beq_iff_eq.mpr c13
            have c13b1 : (((rd_T46 x6_1 (ji9)).f1) != (rd l0 x7_1)) = false := bne_eq_false_iff_eq.mpr c13
            clear c13
            obtain ⟨ji14, hji14⟩ : ∃ j_ : Int, (wrap64 (x7_1 + 1)) = j_ := ⟨_, rfl⟩
            replace H : (if 0 ≤ (ji14) then (dropperref01_made.l0 k1 l0 l1 (x6_1.set ((ji9) : Int).toNat (⟨(rd_T46 x6_1 (ji9)).f0, rd l0 (ji14)⟩ : S46)) ji14) else (none)) = some (r1, r2) := by first | (rw [hji14] at H; exact H) | (simp only [hji14] at H ⊢; exact H)
            (try rw [hji14] at c3b0)
            have hji14w : (IntKind.i64.wrap (x7_1 + 1)) = ji14 := (i64_w _).trans hji14
            by_cases c15 : 0 ≤ (ji14)
            ·
             rw [if_pos c15] at H
             have c15b0 : decide (0 ≤ (ji14)) = true := decide_eq_true c15
             clear c15
             obtain ⟨y158, hy158⟩ : ∃ y_ : List (S46), y_ = (x6_1.set ((ji9) : Int).toNat (⟨(rd_T46 x6_1 (ji9)).f0, rd l0 (ji14)⟩ : S46)) := ⟨_, rfl⟩
             replace H : (dropperref01_made.l0 k1 l0 l1 y158 ji14) = some (r1, r2) := by first | (rw [hy158]; with_reducible exact H) | (have H2_ := (Option.bind_some _ _).symm.trans H; rw [hy158]; with_reducible exact H2_) | (have H2_ := (Option.bind_some _ _).symm.trans H; with_reducible exact H2_) | with_reducible exact H | (rw [hy158]; exact H) | exact H
             have Ny158 := Aside0.mk hy158
             clear hy158
             have H' := Aside0.mk H
             clear H
             have p154 : 0 ≤ (x7_1 : Int) := of_decide_eq_true asz
             have q154 : x7_1 < (l1.length : Int) := of_decide_eq_true asz
             obtain ⟨ad154, e154, hx154_0⟩ := Kd.at_bool HR1.out x7_1 p154 q154
             (try rw [← Nbq6.out] at hx154_0)
             cases e154
             replace hx154_0 := (HB.out.cell (World.block_lt_of_cell? w _ hx154_0)).trans hx154_0
             replace p154 := eq_true p154
             replace q154 := eq_true q154
             try go_wp2
             have n0_ := Aside0.mk (Kd.R_drew HO_6.out)
             have n1_ := Aside0.mk (below_drew1 HB.out)
             clear HO_6
             clear HB
             have HO_6 := n0_
             have HB := n1_
             clear n0_ n1_
             obtain ⟨Ao18, co18, eo18⟩ := Kd.R_slice HO_6.out
             (first | subst eo18 | (injection eo18 with f1_ f2_ f3_; have f4_ := f1_.symm; have f5_ := f3_.symm; clear f1_ f2_ f3_; subst f4_; subst f5_))
             have p155 : 0 ≤ ((ji9) : Int) := of_decide_eq_true asz
             have q155 : (ji9) < (x6_1.length : Int) := of_decide_eq_true asz
             obtain ⟨ad155, e155, hx155_0, hx155_1⟩ := at_T46 (Kd.R_reads' HO_6.out).2.2 (ji9) p155 q155
             cases e155
             replace p155 := eq_true p155
             replace q155 := eq_true q155
             have p156 : 0 ≤ (x7_1 : Int) := of_decide_eq_true asz
             have q156 : x7_1 < (l0.length : Int) := of_decide_eq_true asz
             obtain ⟨ad156, e156, hx156_0⟩ := Kd.at_int HR0.out x7_1 p156 q156
             have hw156_0 := hx156_0
             cases e156
             replace hx156_0 := (HB.out.cell (World.block_lt_of_cell? w _ hx156_0)).trans hx156_0
             replace p156 := eq_true p156
             replace q156 := eq_true q156
             refine start_ (n := 18) (S := fun w' => w'.cell? (ad155.add (((ji9)).toNat * 2)) = some (.int .i64 ((rd_T46 x6_1 (ji9)).f0)) ∧ w'.cell? ⟨(ad155.add (((ji9)).toNat * 2)).block, (ad155.add (((ji9)).toNat * 2)).off + 1, none⟩ = some (.int .i64 ((rd_T46 x6_1 (ji9)).f1)) ∧ w'.cell? (ad156.add (x7_1).toNat) = some (.int .i64 (rd l0 x7_1))) (ds := []) #[false, false, false, false, false, false, false, false, false, false, false, false, false, false, false, false, false, false] (by kernel_rfl) rfl rfl ⟨hx155_0, hx155_1, ((HB.out.cell (World.block_lt_of_cell? w _ hw156_0)).trans hw156_0)⟩ (fun hHeld => ?_); refine with_tabW dropperref01_made.tab7 dropperref01_made.bits7 (fun HT_ HW_ => ?_)
             generalize wr.drew = w17 at HO_6 HB hx155_0 hx155_1 hx156_0 hHeld ⊢
             refine pst (i := 0) (N := some 35) (bz 18 1) (any_of HT_.out (by kernel_rfl)) ?_
             refine pst (i := 1) (N := some 36) (bz 18 3) (any_of HT_.out (by kernel_rfl)) ?_
             refine pst (i := 2) (N := some 37) (bz 18 7) (any_of HT_.out (by kernel_rfl)) ?_
             refine pst (i := 3) (N := some 38) (bz 18 15) (any_of HT_.out (by kernel_rfl)) ?_
             refine pst (i := 4) (N := some 39) (bz 18 31) (any_of HT_.out (by kernel_rfl)) ?_
             refine pst (i := 5) (N := some 40) (bz 18 63) (any_of HT_.out (by kernel_rfl)) ?_
             refine pst (i := 6) (N := some 41) (bz 18 127) (any_of HT_.out (by kernel_rfl)) ?_
             refine pst (i := 7) (N := some 42) (bz 18 255) (any_of HT_.out (by kernel_rfl)) ?_
             refine pst (i := 8) (N := some 43) (bz 18 511) (any_of HT_.out (by kernel_rfl)) ?_
             refine pst (i := 9) (N := some 44) (bz 18 1023) (any_of HT_.out (by kernel_rfl)) ?_
             refine pst (i := 11) (N := some 46) (bz 18 3071) (any_of HT_.out (by kernel_rfl)) ?_
             refine pst (i := 12) (N := some 47) (bz 18 7167) (any_of HT_.out (by kernel_rfl)) ?_
             refine pst (i := 13) (N := some 48) (bz 18 15359) (any_of HT_.out (by kernel_rfl)) ?_
             refine tst3 (i := 10) (N := some 45) (bz 18 16383) (take_ofW HT_.out HW_.out (by kernel_rfl)) hHeld ?_
             refine tst3 (i := 14) (N := some 49) (bz 18 32767) (take_ofW HT_.out HW_.out (by kernel_rfl)) hHeld ?_
             refine pst (i := 15) (N := some 50) (bz 18 65535) (any_of HT_.out (by kernel_rfl)) ?_
             refine pst (i := 16) (N := some 51) (bz 18 131071) (any_of HT_.out (by kernel_rfl)) ?_
             refine pst (i := 17) (N := some 34) (bz 18 262143) (any_of HT_.out (by kernel_rfl)) ?_
             refine done_ (done_of HT_.out (by kernel_rfl)) ?_
             have p157 : 0 ≤ ((ji14) : Int) := of_decide_eq_true asz
             have q157 : (ji14) < (l0.length : Int) := of_decide_eq_true asz
             obtain ⟨ad157, e157, hx157_0⟩ := Kd.at_int HR0.out (ji14) p157 q157
             obtain rfl : ad156 = ad157 := (by injection e157)
             replace hx157_0 := (HB.out.cell (World.block_lt_of_cell? w _ hx157_0)).trans hx157_0
             replace p157 := eq_true p157
             replace q157 := eq_true q157
             have p16 : 0 ≤ ((ji9) : Int) := of_decide_eq_true asz
             have q16 : ((ji9) : Int) < ((x6_1.length : Int) : Int) := of_decide_eq_true asz
             obtain ⟨go16, co16, eo16, gb16, gl16, cl16, HG16⟩ := Kd.R_form HO_6.out (by omega)
             (first | cases eo16 | (injection eo16 with ea_ en_ ec_; (first | subst ea_ | (injection ea_ with ea_; subst ea_)); subst ec_; clear en_))
             have GB16 := Aside0.mk gb16
             have GG16 := Aside0.mk HG16
             clear gb16 gl16 HG16
             (first | simp only [add_plain] at hx155_0 | skip)
             (first | simp only [add_plain] at hx155_1 | skip)
             obtain ⟨ce16, hcl16, hM16, hcc16, hfr16⟩ := Kd.R_elem HO_6.out z46 ((ji9) : Int) p16 q16
             obtain rfl := k46_openM hM16
             have hx16_0 : w17.cell? ⟨go16, ((ji9) : Int).toNat * 2, none⟩ = some (.int .i64 ((rd_T46 x6_1 (ji9)).f0)) := hcc16 0 _ rfl
             have hx16_1 : w17.cell? ⟨go16, ((ji9) : Int).toNat * 2 + 1, none⟩ = some (.int .i64 ((rd_T46 x6_1 (ji9)).f1)) := hcc16 1 _ rfl
             have hf16_0 : w17.frozen? ⟨go16, ((ji9) : Int).toNat * 2, none⟩ = false := hfr16 0
             have hf16_1 : w17.frozen? ⟨go16, ((ji9) : Int).toNat * 2 + 1, none⟩ = false := hfr16 1
             clear hcl16 hcc16 hfr16 hM16
             replace p16 := eq_true p16
             replace q16 := eq_true q16
             have HX19 := Aside0.mk (show Kd.R k46 46 w17 w.heap.size (fun _ => True) (.slice (some ⟨go16, 0, none⟩) x6_1.length co18) x6_1 from (ownx HO_6))
             obtain ⟨ce19, hcl19, hM19, hcc19, hfr19⟩ := Kd.R_elem HX19.out z46 ((ji9) : Int) (of_decide_eq_true asz) (by have h_ : ((ji9) : Int) < ((x6_1.length : Int) : Int) := of_decide_eq_true asz; first | exact h_ | (have e_ := (Kd.R_reads' HO_6.out).1; omega) | simpa using h_)
             obtain rfl := k46_openM hM19
             have HP19 := Kd.R_seg HX19.out ((ji9) : Int) (of_decide_eq_true asz) (by have h_ : ((ji9) : Int) < ((x6_1.length : Int) : Int) := of_decide_eq_true asz; first | exact h_ | (have e_ := (Kd.R_reads' HO_6.out).1; omega) | simpa using h_) (seg := [.int .i64 (rd l0 (ji14))]) (j := 1) hcl19 hcc19 (show 2 ≤ 2 from by decide) (x' := (⟨(rd_T46 x6_1 (ji9)).f0, rd l0 (ji14)⟩ : S46)) (k46_mkM _ _ _ (⟨(rd_T46 x6_1 (ji9)).f0, rd l0 (ji14)⟩ : S46) ) (fun _ hk => hk)
             have hx19_1 := hcc19 1 _ rfl
             (try simp only [show (k46).sz = 2 from rfl, Nat.mul_one, Nat.add_zero] at hx19_1)
             have hf19_1 := hfr19 1
             (try simp only [show (k46).sz = 2 from rfl, Nat.mul_one, Nat.add_zero] at hf19_1)
             clear hcl19 hcc19 hfr19 hM19
             try go_wp2_with (first | ((with_reducible refine gate_store (t := 3) (p := 62) rfl ?_); refine store_event (t := 3) (p := 62) (v := ?vo_w20) (w1 := (w17.setCell ⟨go16, ((ji9) : Int).toNat * 2 + 1, none⟩ (.int .i64 (rd l0 (ji14))))) ?hg ?ho ?hn ?hr ?_; (case ho => rfl); (case hg => rfl); (case hn => rfl); (case hr => first | (go_simp; done) | (go_simp; rfl)); intro w20 hw; have hg : w17.grownBy w20 (some go16) := (by rw [hw]; exact HP19.2); have hp_ : Kd.R k46 46 w20 w.heap.size (fun _ => True) (.slice (some ⟨go16, 0, none⟩) x6_1.length co18) y158 := (by rw [hw, Ny158.out]; exact HP19.1); clear HP19; replace HO_6 := Aside0.mk (hp_); replace HB := Aside0.mk ((by rw [hw]; exact below_set (HB.out) GB16.out : Below w.heap.size w w20)); clear hg hw hp_))
             go_roundg k1
             case measure => have := HK1.out; omega
             case rel => exact ⟨(y158), (ji14), (by first | rfl | (simp; done) | (simp only [← hji14] <;> (first | rfl | simp)) | (simp [*]; done)), H', ⟨by have := HK1.out; omega⟩, ⟨by (with_reducible repeat (first | apply Kd.R_alloc | apply Kd.R_drewN | apply Kd.R_drew)); exact HO_6.out⟩, ⟨bel⟩⟩
            ·
             rw [if_neg c15] at H
             exact absurd H (by simp)
           ·
            rw [if_neg c13] at H
            have c13b0 : (((rd_T46 x6_1 (ji9)).f1) == (rd l0 x7_1)) = false := beq_eq_false_iff_ne.mpr c13
            have c13b1 : (((rd_T46 x6_1 (ji9)).f1) != (rd l0 x7_1)) = true := bne_iff_ne.mpr c13
            obtain ⟨ji21, hji21⟩ : ∃ j_ : Int, (wrap64 (x7_1 + 1)) = j_ := ⟨_, rfl⟩
            replace H : (if 0 ≤ (ji21) then (if x6_1.length < 8796093022208 then (dropperref01_made.l0 k1 l0 l1 (x6_1 ++ [(⟨rd l0 x7_1, rd l0 (ji21)⟩ : S46)]) ji21) else (none)) else (none)) = some (r1, r2) := by first | (rw [hji21] at H; exact H) | (simp only [hji21] at H ⊢; exact H)
            (try rw [hji21] at c3b0)
            have hji21w : (IntKind.i64.wrap (x7_1 + 1)) = ji21 := (i64_w _).trans hji21
            by_cases c22 : 0 ≤ (ji21)
            ·
             rw [if_pos c22] at H
             have c22b0 : decide (0 ≤ (ji21)) = true := decide_eq_true c22
             clear c22
             by_cases c23 : x6_1.length < 8796093022208
             ·
              rw [if_pos c23] at H
              have LMc23 := Aside0.mk c23
              clear c23
              obtain ⟨y161, hy161⟩ : ∃ y_ : List (S46), y_ = (x6_1 ++ [(⟨rd l0 x7_1, rd l0 (ji21)⟩ : S46)]) := ⟨_, rfl⟩
              replace H : (dropperref01_made.l0 k1 l0 l1 y161 ji21) = some (r1, r2) := by first | (rw [hy161]; with_reducible exact H) | (have H2_ := (Option.bind_some _ _).symm.trans H; rw [hy161]; with_reducible exact H2_) | (have H2_ := (Option.bind_some _ _).symm.trans H; with_reducible exact H2_) | with_reducible exact H | (rw [hy161]; exact H) | exact H
              have Ny161 := Aside0.mk hy161
              clear hy161
              have H' := Aside0.mk H
              clear H
              have p154 : 0 ≤ (x7_1 : Int) := of_decide_eq_true asz
              have q154 : x7_1 < (l1.length : Int) := of_decide_eq_true asz
              obtain ⟨ad154, e154, hx154_0⟩ := Kd.at_bool HR1.out x7_1 p154 q154
              (try rw [← Nbq6.out] at hx154_0)
              cases e154
              replace hx154_0 := (HB.out.cell (World.block_lt_of_cell? w _ hx154_0)).trans hx154_0
              replace p154 := eq_true p154
              replace q154 := eq_true q154
              try go_wp2
              have n0_ := Aside0.mk (Kd.R_drew HO_6.out)
              have n1_ := Aside0.mk (below_drew1 HB.out)
              clear HO_6
              clear HB
              have HO_6 := n0_
              have HB := n1_
              clear n0_ n1_
              obtain ⟨Ao25, co25, eo25⟩ := Kd.R_slice HO_6.out
              (first | subst eo25 | (injection eo25 with f1_ f2_ f3_; have f4_ := f1_.symm; have f5_ := f3_.symm; clear f1_ f2_ f3_; subst f4_; subst f5_))
              have p155 : 0 ≤ ((ji9) : Int) := of_decide_eq_true asz
              have q155 : (ji9) < (x6_1.length : Int) := of_decide_eq_true asz
              obtain ⟨ad155, e155, hx155_0, hx155_1⟩ := at_T46 (Kd.R_reads' HO_6.out).2.2 (ji9) p155 q155
              cases e155
              replace p155 := eq_true p155
              replace q155 := eq_true q155
              have p156 : 0 ≤ (x7_1 : Int) := of_decide_eq_true asz
              have q156 : x7_1 < (l0.length : Int) := of_decide_eq_true asz
              obtain ⟨ad156, e156, hx156_0⟩ := Kd.at_int HR0.out x7_1 p156 q156
              have hw156_0 := hx156_0
              cases e156
              replace hx156_0 := (HB.out.cell (World.block_lt_of_cell? w _ hx156_0)).trans hx156_0
              replace p156 := eq_true p156
              replace q156 := eq_true q156
              refine start_ (n := 18) (S := fun w' => w'.cell? (ad155.add (((ji9)).toNat * 2)) = some (.int .i64 ((rd_T46 x6_1 (ji9)).f0)) ∧ w'.cell? ⟨(ad155.add (((ji9)).toNat * 2)).block, (ad155.add (((ji9)).toNat * 2)).off + 1, none⟩ = some (.int .i64 ((rd_T46 x6_1 (ji9)).f1)) ∧ w'.cell? (ad156.add (x7_1).toNat) = some (.int .i64 (rd l0 x7_1))) (ds := []) #[false, false, false, false, false, false, false, false, false, false, false, false, false, false, false, false, false, false] (by kernel_rfl) rfl rfl ⟨hx155_0, hx155_1, ((HB.out.cell (World.block_lt_of_cell? w _ hw156_0)).trans hw156_0)⟩ (fun hHeld => ?_); refine with_tabW dropperref01_made.tab7 dropperref01_made.bits7 (fun HT_ HW_ => ?_)
              generalize wr.drew = w24 at HO_6 HB hx155_0 hx155_1 hx156_0 hHeld ⊢
              refine pst (i := 0) (N := some 35) (bz 18 1) (any_of HT_.out (by kernel_rfl)) ?_
              refine pst (i := 1) (N := some 36) (bz 18 3) (any_of HT_.out (by kernel_rfl)) ?_
              refine pst (i := 2) (N := some 37) (bz 18 7) (any_of HT_.out (by kernel_rfl)) ?_
              refine pst (i := 3) (N := some 38) (bz 18 15) (any_of HT_.out (by kernel_rfl)) ?_
              refine pst (i := 4) (N := some 39) (bz 18 31) (any_of HT_.out (by kernel_rfl)) ?_
              refine pst (i := 5) (N := some 40) (bz 18 63) (any_of HT_.out (by kernel_rfl)) ?_
              refine pst (i := 6) (N := some 41) (bz 18 127) (any_of HT_.out (by kernel_rfl)) ?_
              refine pst (i := 7) (N := some 42) (bz 18 255) (any_of HT_.out (by kernel_rfl)) ?_
              refine pst (i := 8) (N := some 43) (bz 18 511) (any_of HT_.out (by kernel_rfl)) ?_
              refine pst (i := 9) (N := some 44) (bz 18 1023) (any_of HT_.out (by kernel_rfl)) ?_
              refine pst (i := 11) (N := some 46) (bz 18 3071) (any_of HT_.out (by kernel_rfl)) ?_
              refine pst (i := 12) (N := some 47) (bz 18 7167) (any_of HT_.out (by kernel_rfl)) ?_
              refine pst (i := 13) (N := some 48) (bz 18 15359) (any_of HT_.out (by kernel_rfl)) ?_
              refine tst3 (i := 10) (N := some 45) (bz 18 16383) (take_ofW HT_.out HW_.out (by kernel_rfl)) hHeld ?_
              refine tst3 (i := 14) (N := some 49) (bz 18 32767) (take_ofW HT_.out HW_.out (by kernel_rfl)) hHeld ?_
              refine pst (i := 15) (N := some 50) (bz 18 65535) (any_of HT_.out (by kernel_rfl)) ?_
              refine pst (i := 16) (N := some 51) (bz 18 131071) (any_of HT_.out (by kernel_rfl)) ?_
              refine pst (i := 17) (N := some 34) (bz 18 262143) (any_of HT_.out (by kernel_rfl)) ?_
              refine done_ (done_of HT_.out (by kernel_rfl)) ?_
              try go_wp2
              have n0_ := Aside0.mk (Kd.R_drew HO_6.out)
              have n1_ := Aside0.mk (below_drew1 HB.out)
              clear HO_6
              clear HB
              have HO_6 := n0_
              have HB := n1_
              clear n0_ n1_
              have p159 : 0 ≤ (x7_1 : Int) := of_decide_eq_true asz
              have q159 : x7_1 < (l0.length : Int) := of_decide_eq_true asz
              obtain ⟨ad159, e159, hx159_0⟩ := Kd.at_int HR0.out x7_1 p159 q159
              have hw159_0 := hx159_0
              obtain rfl : ad156 = ad159 := (by injection e159)
              replace hx159_0 := (HB.out.cell (World.block_lt_of_cell? w _ hx159_0)).trans hx159_0
              replace p159 := eq_true p159
              replace q159 := eq_true q159
              have p160 : 0 ≤ ((ji21) : Int) := of_decide_eq_true asz
              have q160 : (ji21) < (l0.length : Int) := of_decide_eq_true asz
              obtain ⟨ad160, e160, hx160_0⟩ := Kd.at_int HR0.out (ji21) p160 q160
              have hw160_0 := hx160_0
              obtain rfl : ad156 = ad160 := (by injection e160)
              replace hx160_0 := (HB.out.cell (World.block_lt_of_cell? w _ hx160_0)).trans hx160_0
              replace p160 := eq_true p160
              replace q160 := eq_true q160
              refine start_ (n := 14) (S := fun w' => w'.cell? (ad156.add (x7_1).toNat) = some (.int .i64 (rd l0 x7_1)) ∧ w'.cell? (ad156.add ((ji21)).toNat) = some (.int .i64 (rd l0 (ji21)))) (ds := []) #[false, false, false, false, false, false, false, false, false, false, false, false, false, false] (by kernel_rfl) rfl rfl ⟨((HB.out.cell (World.block_lt_of_cell? w _ hw159_0)).trans hw159_0), ((HB.out.cell (World.block_lt_of_cell? w _ hw160_0)).trans hw160_0)⟩ (fun hHeld => ?_); refine with_tabW dropperref01_made.tab5 dropperref01_made.bits5 (fun HT_ HW_ => ?_)
              generalize w24.drew = w26 at HO_6 HB hx159_0 hx160_0 hHeld ⊢
              refine pst (i := 0) (N := some 15) (bz 14 1) (any_of HT_.out (by kernel_rfl)) ?_
              refine pst (i := 1) (N := some 16) (bz 14 3) (any_of HT_.out (by kernel_rfl)) ?_
              refine pst (i := 2) (N := some 17) (bz 14 7) (any_of HT_.out (by kernel_rfl)) ?_
              refine pst (i := 3) (N := some 18) (bz 14 15) (any_of HT_.out (by kernel_rfl)) ?_
              refine pst (i := 5) (N := some 20) (bz 14 47) (any_of HT_.out (by kernel_rfl)) ?_
              refine pst (i := 6) (N := some 21) (bz 14 111) (any_of HT_.out (by kernel_rfl)) ?_
              refine pst (i := 7) (N := some 22) (bz 14 239) (any_of HT_.out (by kernel_rfl)) ?_
              refine pst (i := 8) (N := some 23) (bz 14 495) (any_of HT_.out (by kernel_rfl)) ?_
              refine tst2 (i := 4) (N := some 19) (bz 14 511) (take_ofW HT_.out HW_.out (by kernel_rfl)) hHeld ?_
              refine tst2 (i := 9) (N := some 24) (bz 14 1023) (take_ofW HT_.out HW_.out (by kernel_rfl)) hHeld ?_
              refine pst (i := 10) (N := some 25) (bz 14 2047) (any_of HT_.out (by kernel_rfl)) ?_
              refine one_ (i := 11) (N := some 26) #[true, true, true, true, true, true, true, true, true, true, true, true, false, false] rfl rfl (one_of HT_.out (by kernel_rfl)) (by decide) (fun K hK => ?_)
              refine value_ (w1 := ?_) (v := ?_) (by rfl) rfl ?_ ?_
              rotate_left 2
              ·
               go_simp
               constructor
               ·
                rfl
               ·
                rfl
              refine hK.out _ _ ⟨(World.cell?_alloc_lt _ _ _ (World.block_lt_of_cell? _ _ (((HB.out.cell (World.block_lt_of_cell? w _ hw159_0)).trans hw159_0)))).trans (((HB.out.cell (World.block_lt_of_cell? w _ hw159_0)).trans hw159_0)), (World.cell?_alloc_lt _ _ _ (World.block_lt_of_cell? _ _ (((HB.out.cell (World.block_lt_of_cell? w _ hw160_0)).trans hw160_0)))).trans (((HB.out.cell (World.block_lt_of_cell? w _ hw160_0)).trans hw160_0))⟩ (fun hHeld => ?_)
              clear hK K
              refine norm_ (a' := ?_) ?_ ?_
              rotate_left
              ·
               show Act.put _ (some 26) _ = _
               simp only [Act.put, List.setIfInBounds_toArray, List.set_cons_zero, List.set_cons_succ, i64_w, i32_w]
               rfl
              refine one_ (i := 12) (N := some 27) #[true, true, true, true, true, true, true, true, true, true, true, true, true, false] rfl rfl (one_of HT_.out (by kernel_rfl)) (by decide) (fun K hK => ?_)
              refine Kd.R_append_step k46 (w0 := w) w.heap.size (by rfl) (.tmp 15) (.tmp 26) 22 46 (.agg #[(.int .i64 0), (.int .i64 0)]) 16 rfl Tryd.underlying22 info46 rfl (by decide) (by omega) (.slice (some ad155) x6_1.length co25) x6_1 (⟨rd l0 x7_1, rd l0 (ji21)⟩ : S46) [.int .i64 (rd l0 x7_1), .int .i64 (rd l0 (ji21))] (fun _ => True) (fun _ => False) rfl rfl ?aP (fun _ hk => hk.elim) ?aF ?aO ?aB ?aS ?aL ?_
              (case aP => exact k46_mkM _ _ _ (⟨rd l0 x7_1, rd l0 (ji21)⟩ : S46))
              (case aB => exact bel)
              (case aF => exact (fun _ _ => trivial))
              (case aO => exact (ownx HO_6))
              (case aS => exact (below_size bel))
              (case aL => have := LMc23.out; omega)
              intro v162 w27 ho hb hg hat
              rw [← Ny161.out] at ho
              have n0_ := Aside0.mk (hb)
              have n1_ := Aside0.mk (ho)
              clear HB
              clear HO_6
              have HB := n0_
              have HO163 := n1_
              clear n0_ n1_
              clear ho hb hg hat
              refine hK.out _ _ ⟨((HB.out.cell (World.block_lt_of_cell? w _ hw159_0)).trans hw159_0), ((HB.out.cell (World.block_lt_of_cell? w _ hw160_0)).trans hw160_0)⟩ (fun hHeld => ?_)
              clear hK K
              refine norm_ (a' := ?_) ?_ ?_
              rotate_left
              ·
               show Act.put _ (some 27) _ = _
               simp only [Act.put, List.setIfInBounds_toArray, List.set_cons_zero, List.set_cons_succ, i64_w, i32_w]
               rfl
              refine pst (i := 13) (N := some 6) (bz 14 16383) (any_of HT_.out (by kernel_rfl)) ?_
              refine done_ (done_of HT_.out (by kernel_rfl)) ?_
              try go_wp2
              go_roundg k1
              case measure => have := HK1.out; omega
              case rel => exact ⟨(y161), (ji21), (by first | rfl | (simp; done) | (simp only [← hji21] <;> (first | rfl | simp)) | (simp [*]; done)), H', ⟨by have := HK1.out; omega⟩, ⟨by (with_reducible repeat (first | apply Kd.R_alloc | apply Kd.R_drewN | apply Kd.R_drew)); exact HO163.out⟩, ⟨bel⟩⟩
             ·
              rw [if_neg c23] at H
              exact absurd H (by simp)
            ·
             rw [if_neg c22] at H
             exact absurd H (by simp)
          ·
           rw [if_neg c12] at H
           exact absurd H (by simp)
         ·
          rw [if_neg c11] at H
          exact absurd H (by simp)
        ·
         rw [if_neg c10] at H
         exact absurd H (by simp)
       ·
        rw [if_neg c8] at H
        have c8b0 : decide (0 < (x6_1.length : Int)) = false := decide_eq_false c8
        have c8b1 : decide (0 < x6_1.length) = false := decide_eq_false (by omega)
        clear c8
        by_cases c28 : x7_1 < (l0.length : Int)
        ·
         rw [if_pos c28] at H
         have c28b0 : decide (x7_1 < (l0.length : Int)) = true := decide_eq_true c28
         clear c28
         obtain ⟨ji29, hji29⟩ : ∃ j_ : Int, (wrap64 (x7_1 + 1)) = j_ := ⟨_, rfl⟩
         replace H : (if 0 ≤ (ji29) then (if x6_1.length < 8796093022208 then (dropperref01_made.l0 k1 l0 l1 (x6_1 ++ [(⟨rd l0 x7_1, rd l0 (ji29)⟩ : S46)]) ji29) else (none)) else (none)) = some (r1, r2) := by first | (rw [hji29] at H; exact H) | (simp only [hji29] at H ⊢; exact H)
         (try rw [hji29] at c3b0)
         have hji29w : (IntKind.i64.wrap (x7_1 + 1)) = ji29 := (i64_w _).trans hji29
         by_cases c30 : 0 ≤ (ji29)
         ·
          rw [if_pos c30] at H
          have c30b0 : decide (0 ≤ (ji29)) = true := decide_eq_true c30
          clear c30
          by_cases c31 : x6_1.length < 8796093022208
          ·
           rw [if_pos c31] at H
           have LMc31 := Aside0.mk c31
           clear c31
           obtain ⟨y166, hy166⟩ : ∃ y_ : List (S46), y_ = (x6_1 ++ [(⟨rd l0 x7_1, rd l0 (ji29)⟩ : S46)]) := ⟨_, rfl⟩
           replace H : (dropperref01_made.l0 k1 l0 l1 y166 ji29) = some (r1, r2) := by first | (rw [hy166]; with_reducible exact H) | (have H2_ := (Option.bind_some _ _).symm.trans H; rw [hy166]; with_reducible exact H2_) | (have H2_ := (Option.bind_some _ _).symm.trans H; with_reducible exact H2_) | with_reducible exact H | (rw [hy166]; exact H) | exact H
           have Ny166 := Aside0.mk hy166
           clear hy166
           have H' := Aside0.mk H
           clear H
           have p154 : 0 ≤ (x7_1 : Int) := of_decide_eq_true asz
           have q154 : x7_1 < (l1.length : Int) := of_decide_eq_true asz
           obtain ⟨ad154, e154, hx154_0⟩ := Kd.at_bool HR1.out x7_1 p154 q154
           (try rw [← Nbq6.out] at hx154_0)
           cases e154
           replace hx154_0 := (HB.out.cell (World.block_lt_of_cell? w _ hx154_0)).trans hx154_0
           replace p154 := eq_true p154
           replace q154 := eq_true q154
           try go_wp2
           have n0_ := Aside0.mk (Kd.R_drew HO_6.out)
           have n1_ := Aside0.mk (below_drew1 HB.out)
           clear HO_6
           clear HB
           have HO_6 := n0_
           have HB := n1_
           clear n0_ n1_
           obtain ⟨Ao33, co33, eo33⟩ := Kd.R_slice HO_6.out
           (first | subst eo33 | (injection eo33 with f1_ f2_ f3_; have f4_ := f1_.symm; have f5_ := f3_.symm; clear f1_ f2_ f3_; subst f4_; subst f5_))
           refine start_ (n := 18) (S := fun w' => True) (ds := []) #[false, false, false, false, false, false, false, false, false, false, false, false, false, false, false, false, false, false] (by kernel_rfl) rfl rfl trivial (fun hHeld => ?_); refine with_tabW dropperref01_made.tab7 dropperref01_made.bits7 (fun HT_ HW_ => ?_)
           generalize wr.drew = w32 at HO_6 HB hHeld ⊢
           refine pst (i := 0) (N := some 35) (bz 18 1) (any_of HT_.out (by kernel_rfl)) ?_
           refine pst (i := 1) (N := some 36) (bz 18 3) (any_of HT_.out (by kernel_rfl)) ?_
           refine pst (i := 2) (N := some 37) (bz 18 7) (any_of HT_.out (by kernel_rfl)) ?_
           refine pst (i := 3) (N := some 38) (bz 18 15) (any_of HT_.out (by kernel_rfl)) ?_
           refine pso (i := 4) (N := some 39) (bz 18 31) (any_of HT_.out (by kernel_rfl)) ?_
           refine pso (i := 5) (N := some 40) (bz 18 63) (any_of HT_.out (by kernel_rfl)) ?_
           refine pso (i := 6) (N := some 41) (bz 18 127) (any_of HT_.out (by kernel_rfl)) ?_
           refine pso (i := 7) (N := some 42) (bz 18 255) (any_of HT_.out (by kernel_rfl)) ?_
           refine pso (i := 8) (N := some 43) (bz 18 511) (any_of HT_.out (by kernel_rfl)) ?_
           refine pso (i := 9) (N := some 44) (bz 18 1023) (any_of HT_.out (by kernel_rfl)) ?_
           refine pso (i := 10) (N := some 45) (bz 18 2047) (any_of HT_.out (by kernel_rfl)) ?_
           refine pso (i := 11) (N := some 46) (bz 18 4095) (any_of HT_.out (by kernel_rfl)) ?_
           refine pso (i := 12) (N := some 47) (bz 18 8191) (any_of HT_.out (by kernel_rfl)) ?_
           refine pso (i := 13) (N := some 48) (bz 18 16383) (any_of HT_.out (by kernel_rfl)) ?_
           refine pso (i := 14) (N := some 49) (bz 18 32767) (any_of HT_.out (by kernel_rfl)) ?_
           refine pso (i := 15) (N := some 50) (bz 18 65535) (any_of HT_.out (by kernel_rfl)) ?_
           refine pst (i := 16) (N := some 51) (bz 18 131071) (any_of HT_.out (by kernel_rfl)) ?_
           refine pst (i := 17) (N := some 34) (bz 18 262143) (any_of HT_.out (by kernel_rfl)) ?_
           refine done_ (done_of HT_.out (by kernel_rfl)) ?_
           try go_wp2
           have n0_ := Aside0.mk (Kd.R_drew HO_6.out)
           have n1_ := Aside0.mk (below_drew1 HB.out)
           clear HO_6
           clear HB
           have HO_6 := n0_
           have HB := n1_
           clear n0_ n1_
           have p164 : 0 ≤ (x7_1 : Int) := of_decide_eq_true asz
           have q164 : x7_1 < (l0.length : Int) := of_decide_eq_true asz
           obtain ⟨ad164, e164, hx164_0⟩ := Kd.at_int HR0.out x7_1 p164 q164
           have hw164_0 := hx164_0
           cases e164
           replace hx164_0 := (HB.out.cell (World.block_lt_of_cell? w _ hx164_0)).trans hx164_0
           replace p164 := eq_true p164
           replace q164 := eq_true q164
           have p165 : 0 ≤ ((ji29) : Int) := of_decide_eq_true asz
           have q165 : (ji29) < (l0.length : Int) := of_decide_eq_true asz
           obtain ⟨ad165, e165, hx165_0⟩ := Kd.at_int HR0.out (ji29) p165 q165
           have hw165_0 := hx165_0
           obtain rfl : ad164 = ad165 := (by injection e165)
           replace hx165_0 := (HB.out.cell (World.block_lt_of_cell? w _ hx165_0)).trans hx165_0
           replace p165 := eq_true p165
           replace q165 := eq_true q165
           refine start_ (n := 14) (S := fun w' => w'.cell? (ad164.add (x7_1).toNat) = some (.int .i64 (rd l0 x7_1)) ∧ w'.cell? (ad164.add ((ji29)).toNat) = some (.int .i64 (rd l0 (ji29)))) (ds := []) #[false, false, false, false, false, false, false, false, false, false, false, false, false, false] (by kernel_rfl) rfl rfl ⟨((HB.out.cell (World.block_lt_of_cell? w _ hw164_0)).trans hw164_0), ((HB.out.cell (World.block_lt_of_cell? w _ hw165_0)).trans hw165_0)⟩ (fun hHeld => ?_); refine with_tabW dropperref01_made.tab5 dropperref01_made.bits5 (fun HT_ HW_ => ?_)
           generalize w32.drew = w34 at HO_6 HB hx164_0 hx165_0 hHeld ⊢
           refine pst (i := 0) (N := some 15) (bz 14 1) (any_of HT_.out (by kernel_rfl)) ?_
           refine pst (i := 1) (N := some 16) (bz 14 3) (any_of HT_.out (by kernel_rfl)) ?_
           refine pst (i := 2) (N := some 17) (bz 14 7) (any_of HT_.out (by kernel_rfl)) ?_
           refine pst (i := 3) (N := some 18) (bz 14 15) (any_of HT_.out (by kernel_rfl)) ?_
           refine pst (i := 5) (N := some 20) (bz 14 47) (any_of HT_.out (by kernel_rfl)) ?_
           refine pst (i := 6) (N := some 21) (bz 14 111) (any_of HT_.out (by kernel_rfl)) ?_
           refine pst (i := 7) (N := some 22) (bz 14 239) (any_of HT_.out (by kernel_rfl)) ?_
           refine pst (i := 8) (N := some 23) (bz 14 495) (any_of HT_.out (by kernel_rfl)) ?_
           refine tst2 (i := 4) (N := some 19) (bz 14 511) (take_ofW HT_.out HW_.out (by kernel_rfl)) hHeld ?_
           refine tst2 (i := 9) (N := some 24) (bz 14 1023) (take_ofW HT_.out HW_.out (by kernel_rfl)) hHeld ?_
           refine pst (i := 10) (N := some 25) (bz 14 2047) (any_of HT_.out (by kernel_rfl)) ?_
           refine one_ (i := 11) (N := some 26) #[true, true, true, true, true, true, true, true, true, true, true, true, false, false] rfl rfl (one_of HT_.out (by kernel_rfl)) (by decide) (fun K hK => ?_)
           refine value_ (w1 := ?_) (v := ?_) (by rfl) rfl ?_ ?_
           rotate_left 2
           ·
            go_simp
            constructor
            ·
             rfl
            ·
             rfl
           refine hK.out _ _ ⟨(World.cell?_alloc_lt _ _ _ (World.block_lt_of_cell? _ _ (((HB.out.cell (World.block_lt_of_cell? w _ hw164_0)).trans hw164_0)))).trans (((HB.out.cell (World.block_lt_of_cell? w _ hw164_0)).trans hw164_0)), (World.cell?_alloc_lt _ _ _ (World.block_lt_of_cell? _ _ (((HB.out.cell (World.block_lt_of_cell? w _ hw165_0)).trans hw165_0)))).trans (((HB.out.cell (World.block_lt_of_cell? w _ hw165_0)).trans hw165_0))⟩ (fun hHeld => ?_)
           clear hK K
           refine norm_ (a' := ?_) ?_ ?_
           rotate_left
           ·
            show Act.put _ (some 26) _ = _
            simp only [Act.put, List.setIfInBounds_toArray, List.set_cons_zero, List.set_cons_succ, i64_w, i32_w]
            rfl
           refine one_ (i := 12) (N := some 27) #[true, true, true, true, true, true, true, true, true, true, true, true, true, false] rfl rfl (one_of HT_.out (by kernel_rfl)) (by decide) (fun K hK => ?_)
           refine Kd.R_append_step k46 (w0 := w) w.heap.size (by rfl) (.tmp 15) (.tmp 26) 22 46 (.agg #[(.int .i64 0), (.int .i64 0)]) 16 rfl Tryd.underlying22 info46 rfl (by decide) (by omega) (.slice Ao33 x6_1.length co33) x6_1 (⟨rd l0 x7_1, rd l0 (ji29)⟩ : S46) [.int .i64 (rd l0 x7_1), .int .i64 (rd l0 (ji29))] (fun _ => True) (fun _ => False) rfl rfl ?aP (fun _ hk => hk.elim) ?aF ?aO ?aB ?aS ?aL ?_
           (case aP => exact k46_mkM _ _ _ (⟨rd l0 x7_1, rd l0 (ji29)⟩ : S46))
           (case aB => exact bel)
           (case aF => exact (fun _ _ => trivial))
           (case aO => exact (ownx HO_6))
           (case aS => exact (below_size bel))
           (case aL => have := LMc31.out; omega)
           intro v167 w35 ho hb hg hat
           rw [← Ny166.out] at ho
           have n0_ := Aside0.mk (hb)
           have n1_ := Aside0.mk (ho)
           clear HB
           clear HO_6
           have HB := n0_
           have HO168 := n1_
           clear n0_ n1_
           clear ho hb hg hat
           refine hK.out _ _ ⟨((HB.out.cell (World.block_lt_of_cell? w _ hw164_0)).trans hw164_0), ((HB.out.cell (World.block_lt_of_cell? w _ hw165_0)).trans hw165_0)⟩ (fun hHeld => ?_)
           clear hK K
           refine norm_ (a' := ?_) ?_ ?_
           rotate_left
           ·
            show Act.put _ (some 27) _ = _
            simp only [Act.put, List.setIfInBounds_toArray, List.set_cons_zero, List.set_cons_succ, i64_w, i32_w]
            rfl
           refine pst (i := 13) (N := some 6) (bz 14 16383) (any_of HT_.out (by kernel_rfl)) ?_
           refine done_ (done_of HT_.out (by kernel_rfl)) ?_
           try go_wp2
           go_roundg k1
           case measure => have := HK1.out; omega
           case rel => exact ⟨(y166), (ji29), (by first | rfl | (simp; done) | (simp only [← hji29] <;> (first | rfl | simp)) | (simp [*]; done)), H', ⟨by have := HK1.out; omega⟩, ⟨by (with_reducible repeat (first | apply Kd.R_alloc | apply Kd.R_drewN | apply Kd.R_drew)); exact HO168.out⟩, ⟨bel⟩⟩
          ·
           rw [if_neg c31] at H
           exact absurd H (by simp)
         ·
          rw [if_neg c30] at H
          exact absurd H (by simp)
        ·
         rw [if_neg c28] at H
         exact absurd H (by simp)
      ·
       replace c7 := Bool.eq_false_iff.mpr c7
       subst c7
       rw [if_neg (show ¬ (false = true) by decide)] at H
       have H' := Aside0.mk H
       clear H
       have p154 : 0 ≤ (x7_1 : Int) := of_decide_eq_true asz
       have q154 : x7_1 < (l1.length : Int) := of_decide_eq_true asz
       obtain ⟨ad154, e154, hx154_0⟩ := Kd.at_bool HR1.out x7_1 p154 q154
       (try rw [← Nbq6.out] at hx154_0)
       cases e154
       replace hx154_0 := (HB.out.cell (World.block_lt_of_cell? w _ hx154_0)).trans hx154_0
       replace p154 := eq_true p154
       replace q154 := eq_true q154
       go_wp2
       go_roundg k1
       case measure => have := HK1.out; omega
       case rel => exact ⟨(x6_1), (wrap64 (x7_1 + 1)), rsz, H', ⟨by have := HK1.out; omega⟩, ⟨by (with_reducible repeat (first | apply Kd.R_alloc | apply Kd.R_drewN | apply Kd.R_drew)); exact HO_6.out⟩, ⟨bel⟩⟩
     ·
      rw [if_neg c5] at H
      exact absurd H (by simp)
    ·
     rw [if_neg c4] at H
     exact absurd H (by simp)
   ·
    rw [if_neg c3] at H
    have c3b0 : decide ((wrap64 (x7_1 + 1)) < (l0.length : Int)) = false := decide_eq_false c3
    clear c3
    by_cases c36 : (x6_1.length : Int) > 60
    ·
     rw [if_pos c36] at H
     have c36b0 : decide (60 < (x6_1.length : Int)) = true := decide_eq_true c36
     have c36b1 : decide (60 < x6_1.length) = true := decide_eq_true (by omega)
     clear c36
     simp only [Option.some.injEq, Prod.mk.injEq] at H
     obtain ⟨rfl, rfl⟩ := H
     obtain ⟨Ao37, co37, eo37⟩ := Kd.R_slice HO_6.out
     subst eo37
     go_wp2
     go_ret2
     exact ⟨_, ezz, by first | exact Kd.R_nil _ _ _ _ _ | exact Kd.N_nil _ _ _ _ _ | exact Kd.V_nil _ _ _ _ _ | exact Kd.Q_nil _ _ _ _ _ | exact Kd.S_nil _ _ _ _ _, bel⟩
    ·
     rw [if_neg c36] at H
     have c36b0 : decide (60 < (x6_1.length : Int)) = false := decide_eq_false c36
     have c36b1 : decide (60 < x6_1.length) = false := decide_eq_false (by omega)
     clear c36
     simp only [Option.some.injEq, Prod.mk.injEq] at H
     obtain ⟨rfl, rfl⟩ := H
     obtain ⟨Ao38, co38, eo38⟩ := Kd.R_slice HO_6.out
     subst eo38
     go_wp2
     go_ret2
     exact ⟨_, ezz, by (with_reducible repeat (first | apply Kd.R_alloc | apply Kd.R_drewN | apply Kd.R_drew)); exact HO_6.out, bel⟩

/-! ### dropperref01_often: function 43 -/
def dropperref01_often.l0 : Nat → List (S46) → Int → List Int → List Bool → Int → Option ((List (S46)) × Int)
 | 0, _, _, _, _, _ => none
 | k + 1, x0, x1, x6, x7, x8 => if x8 < (x6.length : Int) then (if 0 ≤ x8 then ((dropperref01_depth.f k x0 (rd x6 x8)).bind fun t173 => (if x7.length < 140737488355328 then (dropperref01_often.l0 k x0 x1 x6 (x7 ++ [decide (t173 ≥ x1)]) (wrap64 (x8 + 1))) else (none))) else (none)) else ((dropperref01_made.f k x6 x7).bind fun bt177 => (some (bt177.1, bt177.2)))
def dropperref01_often.f (k : Nat) (l0 : List (S46)) (a1 : Int) : Option ((List (S46)) × Int) := (dropperref01_bounds.f l0 ([] : List (S46))).bind fun t169 => (dropperref01_often.l0 k l0 a1 t169 ([] : List Bool) 0)
set_option maxHeartbeats 8000000 in
set_option maxRecDepth 100000 in
theorem dropperref01_often.calls (k : Nat) (A0 : Option Addr) (c0 : Nat) (l0 : List (S46)) (a1 : Int) (r1 : List (S46)) (r2 : Int) (w : World) (hr0 : Kd.C k46 w A0 l0.length l0) (hc0 : l0.length ≤ c0) (h : dropperref01_often.f k l0 a1 = some (r1, r2)) :
  Calls Tryd.prog 43 #[.slice A0 l0.length c0, .int .i64 a1] w fun e w' => ∃ v0_ : Value, e = .returned (.tuple #[v0_, .int .i64 r2]) ∧ Kd.R k46 46 w' w.heap.size (fun _ => True) v0_ r1 ∧ Below w.heap.size w w' := by
 have HR0 := Aside0.mk hr0
 have HC0 := Aside0.mk hc0
 clear hr0 hc0
 have HB := Aside0.mk (Below.refl w.heap.size w)
 have H : ((dropperref01_bounds.f l0 ([] : List (S46))).bind fun t169 => (dropperref01_often.l0 k l0 a1 t169 ([] : List Bool) 0)) = some (r1, r2) := h
 clear h
 replace H := Option.bind_eq_some_iff.mp H
 obtain ⟨t169, A30, H⟩ := H
 try dsimp only at H
 have A3 := Aside0.mk A30
 clear A30
 have H' := Aside0.mk H
 clear H
 go_enter Tryd.func43, Tryd.ntmps43
 go_wp2_with (first | ((with_reducible refine gate_callee (f := 48) rfl ?_); refine goesL_ (some 10) rfl rfl Tryd.func48 (by kernel_rfl) rfl #[.slice A0 l0.length c0, .slice none 0 0] rfl mapz ?_; (refine (dropperref01_bounds.calls _ _ l0 _ _ ([] : List (S46)) t169 _ ?side1 HC0.out ?side3 ?side4 A3.out).mono ?_); (case side1 => repeat (first | exact HR0.out | (with_reducible refine Kd.C_alloc ?_ _) | (with_reducible refine Kd.C_drewN ?_ _) | (with_reducible refine Kd.C_drew ?_))); (case side3 => exact Kd.C_nil _ _); (case side4 => exact Nat.le_refl _); rintro e w4 ⟨v170, rfl, ho0, hb⟩; refine ⟨_, rfl, ?_⟩; have HO171 := Aside0.mk (Kd.R_lower ho0 (below_size bel)); replace HB := Aside0.mk (below_step bel hb); (try clear hb); (try clear hb2); (try clear hk); (try clear hi); (try clear ho0)))
 go_loopg [7, 8] k (fun kq v7 v8 w' => ∃ (x7_1 : List Bool) (x8_1 : Int), v8 = .int .i64 x8_1 ∧ Aside0 (dropperref01_often.l0 kq l0 a1 t169 x7_1 x8_1 = some (r1, r2)) ∧ Aside0 (kq ≤ k) ∧ Aside0 (Kd.R (Kd.int .i64) 3 w' w.heap.size (fun _ => True) v170 t169) ∧ Aside0 (Kd.R Kd.bool 4 w' w.heap.size (fun _ => True) v7 x7_1) ∧ Aside0 (Below w.heap.size w w'))
 case atStart => exact ⟨(([] : List Bool)), (0), rsz, H', ⟨Nat.le_refl _⟩, ⟨by (with_reducible repeat (first | apply Kd.R_alloc | apply Kd.R_drewN | apply Kd.R_drew)); exact HO171.out⟩, ⟨by first | exact Kd.R_nil _ _ _ _ _ | exact Kd.N_nil _ _ _ _ _ | exact Kd.V_nil _ _ _ _ _ | exact Kd.Q_nil _ _ _ _ _ | exact Kd.S_nil _ _ _ _ _⟩, ⟨bel⟩⟩
 case round =>
  clear H'
  (try clear p2); (try clear c4)
  obtain ⟨x7_1, x8_1, rfl, HA, HK1, HO_6, HO_7, HB⟩ := hrel
  cases gk with
  | zero => exact absurd HA.out (by simp [dropperref01_often.l0])
  | succ k1 =>
   have H := HA.out
   clear HA
   simp only [dropperref01_often.l0] at H
   by_cases c5 : x8_1 < (t169.length : Int)
   ·
    rw [if_pos c5] at H
    have c5b0 : decide (x8_1 < (t169.length : Int)) = true := decide_eq_true c5
    clear c5
    by_cases c6 : 0 ≤ x8_1
    ·
     rw [if_pos c6] at H
     have c6b0 : decide (0 ≤ x8_1) = true := decide_eq_true c6
     clear c6
     replace H := Option.bind_eq_some_iff.mp H
     obtain ⟨t173, A70, H⟩ := H
     try dsimp only at H
     have A7 := Aside0.mk A70
     clear A70
     by_cases c8 : x7_1.length < 140737488355328
     ·
      rw [if_pos c8] at H
      have LMc8 := Aside0.mk c8
      clear c8
      obtain ⟨y174, hy174⟩ : ∃ y_ : List Bool, y_ = (x7_1 ++ [decide (t173 ≥ a1)]) := ⟨_, rfl⟩
      replace H : (dropperref01_often.l0 k1 l0 a1 t169 y174 (wrap64 (x8_1 + 1))) = some (r1, r2) := by first | (rw [hy174]; with_reducible exact H) | (have H2_ := (Option.bind_some _ _).symm.trans H; rw [hy174]; with_reducible exact H2_) | (have H2_ := (Option.bind_some _ _).symm.trans H; with_reducible exact H2_) | with_reducible exact H | (rw [hy174]; exact H) | exact H
      have Ny174 := Aside0.mk hy174
      clear hy174
      have H' := Aside0.mk H
      clear H
      obtain ⟨Ao9, co9, eo9⟩ := Kd.R_slice HO_6.out
      subst eo9
      have p172 : 0 ≤ (x8_1 : Int) := of_decide_eq_true asz
      have q172 : x8_1 < (t169.length : Int) := of_decide_eq_true asz
      obtain ⟨ad172, e172, hx172_0⟩ := Kd.at_int (Kd.R_reads' HO_6.out).2.2 x8_1 p172 q172
      cases e172
      replace p172 := eq_true p172
      replace q172 := eq_true q172
      go_wp2_with (first | ((with_reducible refine gate_callee (f := 49) rfl ?_); refine goesL_ (some 23) rfl rfl Tryd.func49 (by kernel_rfl) rfl #[.slice A0 l0.length c0, .int .i64 (rd t169 x8_1)] rfl mapz ?_; (with_reducible refine (dropperref01_depth.calls k1 _ _ l0 (rd t169 x8_1) t173 _ (cbz HR0) HC0.out A7.out).mono ?_); rintro e w' ⟨rfl, ⟨nd, rfl⟩⟩; refine ⟨_, rfl, ?_⟩) | ((with_reducible refine gate_builtin (b := .append) (xs := #[.tmp 17, .tmp 26]) rfl ?_); at_builtin; refine Kd.R_append Kd.bool (w0 := w) w.heap.size rfl (.tmp 17) (.tmp 26) 65 4 (.bool false) 1 rfl Tryd.underlying65 info4 rfl (by decide) (by omega) u7 x7_1 (decide (t173 ≥ a1)) [.bool (decide (t173 ≥ a1))] (fun _ => True) (fun _ => False) rfl rfl ?aP (fun _ hk => hk.elim) ?aF ?aO ?aB ?aS ?aL ?_; (case aP => exact rfl); (case aB => exact bel); (case aF => exact (fun _ _ => trivial)); (case aO => exact (ownx HO_7)); (case aS => exact (below_size bel)); (case aL => have := LMc8.out; omega); intro v175 w10 ho hb hg hat; rw [← Ny174.out] at ho; have n0_ := Aside0.mk (Kd.R_over' (ownx HO_6) (Kd.R_typed (ownx HO_7)) (by decide) hg); have n1_ := Aside0.mk (hb); have n2_ := Aside0.mk (ho); clear HO_6; clear HB; clear HO_7; have HO_6 := n0_; have HB := n1_; have HO176 := n2_; clear n0_ n1_ n2_; clear ho hb hg hat))
      go_roundg k1
      case measure => have := HK1.out; omega
      case rel => exact ⟨(y174), (wrap64 (x8_1 + 1)), rsz, H', ⟨by have := HK1.out; omega⟩, ⟨by (with_reducible repeat (first | apply Kd.R_alloc | apply Kd.R_drewN | apply Kd.R_drew)); exact HO_6.out⟩, ⟨by (with_reducible repeat (first | apply Kd.R_alloc | apply Kd.R_drewN | apply Kd.R_drew)); exact HO176.out⟩, ⟨bel⟩⟩
     ·
      rw [if_neg c8] at H
      exact absurd H (by simp)
    ·
     rw [if_neg c6] at H
     exact absurd H (by simp)
   ·
    rw [if_neg c5] at H
    have c5b0 : decide (x8_1 < (t169.length : Int)) = false := decide_eq_false c5
    clear c5
    replace H := Option.bind_eq_some_iff.mp H
    obtain ⟨⟨t177, t178⟩, A110, H⟩ := H
    try dsimp only at H
    have A11 := Aside0.mk A110
    clear A110
    simp only [Option.some.injEq, Prod.mk.injEq] at H
    obtain ⟨rfl, rfl⟩ := H
    obtain ⟨Ao12, co12, eo12⟩ := Kd.R_slice HO_6.out
    subst eo12
    obtain ⟨Ao13, co13, eo13⟩ := Kd.R_slice HO_7.out
    subst eo13
    go_wp2_with (first | ((with_reducible refine gate_callee (f := 67) rfl ?_); refine goesL_ (some 30) rfl rfl Tryd.func67 (by kernel_rfl) rfl #[.slice Ao12 t169.length co12, .slice Ao13 x7_1.length co13] rfl mapz ?_; (with_reducible refine (dropperref01_made.calls k1 _ _ t169 _ _ x7_1 t177 t178 _ ?side1 ?side2 ?side3 ?side4 A11.out).mono ?_); (case side1 => repeat (first | exact (Kd.R_reads' HO_6.out).2.2 | (with_reducible refine Kd.C_alloc ?_ _) | (with_reducible refine Kd.C_drewN ?_ _) | (with_reducible refine Kd.C_drew ?_))); (case side2 => exact (Kd.R_reads' HO_6.out).2.1); (case side3 => repeat (first | exact (Kd.R_reads' HO_7.out).2.2 | (with_reducible refine Kd.C_alloc ?_ _) | (with_reducible refine Kd.C_drewN ?_ _) | (with_reducible refine Kd.C_drew ?_))); (case side4 => exact (Kd.R_reads' HO_7.out).2.1); rintro e w14 ⟨v179, rfl, ho0, hb⟩; refine ⟨_, rfl, ?_⟩; have HO180 := Aside0.mk (Kd.R_lower ho0 (below_size bel)); replace HO_6 := Aside0.mk (Kd.R_below (ownx HO_6) hb); replace HO_7 := Aside0.mk (Kd.R_below (ownx HO_7) hb); replace HB := Aside0.mk (below_step bel hb); (try clear hb); (try clear hb2); (try clear hk); (try clear hi); (try clear ho0)))
    go_ret2
    exact ⟨_, ezz, by (with_reducible repeat (first | apply Kd.R_alloc | apply Kd.R_drewN | apply Kd.R_drew)); exact HO180.out, bel⟩

/-! ### dropperref01_Clean: function 13 -/
def dropperref01_Clean.f (k : Nat) (l0 : List (S46)) : Option ((List (S46)) × Int) := (dropperref01_raw.f k l0).bind fun t181 => (if t181 = true then ((dropperref01_often.f k l0 1).bind fun bt182 => (some (bt182.1, bt182.2))) else (some (([] : List (S46)), 2)))
set_option maxHeartbeats 8000000 in
set_option maxRecDepth 100000 in
theorem dropperref01_Clean.calls (k : Nat) (A0 : Option Addr) (c0 : Nat) (l0 : List (S46)) (r1 : List (S46)) (r2 : Int) (w : World) (hr0 : Kd.C k46 w A0 l0.length l0) (hc0 : l0.length ≤ c0) (h : dropperref01_Clean.f k l0 = some (r1, r2)) :
  Calls Tryd.prog 13 #[.slice A0 l0.length c0] w fun e w' => ∃ v0_ : Value, e = .returned (.tuple #[v0_, .int .i64 r2]) ∧ Kd.R k46 46 w' w.heap.size (fun _ => True) v0_ r1 ∧ Below w.heap.size w w' := by
 have HR0 := Aside0.mk hr0
 have HC0 := Aside0.mk hc0
 clear hr0 hc0
 have HB := Aside0.mk (Below.refl w.heap.size w)
 have H : ((dropperref01_raw.f k l0).bind fun t181 => (if t181 = true then ((dropperref01_often.f k l0 1).bind fun bt182 => (some (bt182.1, bt182.2))) else (some (([] : List (S46)), 2)))) = some (r1, r2) := h
 clear h
 replace H := Option.bind_eq_some_iff.mp H
 obtain ⟨t181, A20, H⟩ := H
 try dsimp only at H
 have A2 := Aside0.mk A20
 clear A20
 by_cases c3 : t181 = true
 ·
  subst c3
  rw [if_pos rfl] at H
  replace H := Option.bind_eq_some_iff.mp H
  obtain ⟨⟨t182, t183⟩, A40, H⟩ := H
  try dsimp only at H
  have A4 := Aside0.mk A40
  clear A40
  simp only [Option.some.injEq, Prod.mk.injEq] at H
  obtain ⟨rfl, rfl⟩ := H
  go_enter Tryd.func13, Tryd.ntmps13
  go_wp2_with (first | ((with_reducible refine gate_callee (f := 42) rfl ?_); refine goesL_ (some 5) rfl rfl Tryd.func42 (by kernel_rfl) rfl #[.slice A0 l0.length c0] rfl mapz ?_; (with_reducible refine (dropperref01_raw.calls k _ _ l0 true _ ?side1 HC0.out A2.out).mono ?_); (case side1 => repeat (first | exact HR0.out | (with_reducible refine Kd.C_alloc ?_ _) | (with_reducible refine Kd.C_drewN ?_ _) | (with_reducible refine Kd.C_drew ?_))); rintro e w5 ⟨rfl, hb⟩; refine ⟨_, rfl, ?_⟩; replace HB := Aside0.mk (below_step bel hb); clear hb) | ((with_reducible refine gate_callee (f := 43) rfl ?_); refine goesL_ (some 8) rfl rfl Tryd.func43 (by kernel_rfl) rfl #[.slice A0 l0.length c0, .int .i64 1] rfl mapz ?_; (with_reducible refine (dropperref01_often.calls k _ _ l0 1 t182 t183 _ (cbz HR0) HC0.out A4.out).mono ?_); rintro e w6 ⟨v184, rfl, ho0, hb⟩; refine ⟨_, rfl, ?_⟩; have HO185 := Aside0.mk (Kd.R_lower ho0 (below_size bel)); replace HB := Aside0.mk (below_step bel hb); (try clear hb); (try clear hb2); (try clear hk); (try clear hi); (try clear ho0)))
  go_ret2
  exact ⟨_, ezz, by (with_reducible repeat (first | apply Kd.R_alloc | apply Kd.R_drewN | apply Kd.R_drew)); exact HO185.out, bel⟩
 ·
  replace c3 := Bool.eq_false_iff.mpr c3
  subst c3
  rw [if_neg (show ¬ (false = true) by decide)] at H
  simp only [Option.some.injEq, Prod.mk.injEq] at H
  obtain ⟨rfl, rfl⟩ := H
  go_enter Tryd.func13, Tryd.ntmps13
  go_wp2_with (first | ((with_reducible refine gate_callee (f := 42) rfl ?_); refine goesL_ (some 5) rfl rfl Tryd.func42 (by kernel_rfl) rfl #[.slice A0 l0.length c0] rfl mapz ?_; (with_reducible refine (dropperref01_raw.calls k _ _ l0 false _ ?side1 HC0.out A2.out).mono ?_); (case side1 => repeat (first | exact HR0.out | (with_reducible refine Kd.C_alloc ?_ _) | (with_reducible refine Kd.C_drewN ?_ _) | (with_reducible refine Kd.C_drew ?_))); rintro e w7 ⟨rfl, hb⟩; refine ⟨_, rfl, ?_⟩; replace HB := Aside0.mk (below_step bel hb); clear hb))
  go_ret2
  exact ⟨_, ezz, by first | exact Kd.R_nil _ _ _ _ _ | exact Kd.N_nil _ _ _ _ _ | exact Kd.V_nil _ _ _ _ _ | exact Kd.Q_nil _ _ _ _ _ | exact Kd.S_nil _ _ _ _ _, bel⟩

/-! ### dropperref01_Often: function 15 -/
def dropperref01_Often.f (k : Nat) (l0 : List (S46)) (a1 : Int) : Option ((List (S46)) × Int) := (dropperref01_raw.f k l0).bind fun t186 => (if t186 = true then (if a1 < 1 then (some (([] : List (S46)), 2)) else (if a1 > 200 then (some (([] : List (S46)), 2)) else ((dropperref01_often.f k l0 a1).bind fun bt187 => (some (bt187.1, bt187.2))))) else (some (([] : List (S46)), 2)))
set_option maxHeartbeats 8000000 in
set_option maxRecDepth 100000 in
theorem dropperref01_Often.calls (k : Nat) (A0 : Option Addr) (c0 : Nat) (l0 : List (S46)) (a1 : Int) (r1 : List (S46)) (r2 : Int) (w : World) (hr0 : Kd.C k46 w A0 l0.length l0) (hc0 : l0.length ≤ c0) (h : dropperref01_Often.f k l0 a1 = some (r1, r2)) :
  Calls Tryd.prog 15 #[.slice A0 l0.length c0, .int .i64 a1] w fun e w' => ∃ v0_ : Value, e = .returned (.tuple #[v0_, .int .i64 r2]) ∧ Kd.R k46 46 w' w.heap.size (fun _ => True) v0_ r1 ∧ Below w.heap.size w w' := by
 have HR0 := Aside0.mk hr0
 have HC0 := Aside0.mk hc0
 clear hr0 hc0
 have HB := Aside0.mk (Below.refl w.heap.size w)
 have H : ((dropperref01_raw.f k l0).bind fun t186 => (if t186 = true then (if a1 < 1 then (some (([] : List (S46)), 2)) else (if a1 > 200 then (some (([] : List (S46)), 2)) else ((dropperref01_often.f k l0 a1).bind fun bt187 => (some (bt187.1, bt187.2))))) else (some (([] : List (S46)), 2)))) = some (r1, r2) := h
 clear h
 replace H := Option.bind_eq_some_iff.mp H
 obtain ⟨t186, A30, H⟩ := H
 try dsimp only at H
 have A3 := Aside0.mk A30
 clear A30
 by_cases c4 : t186 = true
 ·
  subst c4
  rw [if_pos rfl] at H
  by_cases c5 : a1 < 1
  ·
   rw [if_pos c5] at H
   have c5b0 : decide (a1 < 1) = true := decide_eq_true c5
   clear c5
   simp only [Option.some.injEq, Prod.mk.injEq] at H
   obtain ⟨rfl, rfl⟩ := H
   go_enter Tryd.func15, Tryd.ntmps15
   go_wp2_with (first | ((with_reducible refine gate_callee (f := 42) rfl ?_); refine goesL_ (some 7) rfl rfl Tryd.func42 (by kernel_rfl) rfl #[.slice A0 l0.length c0] rfl mapz ?_; (with_reducible refine (dropperref01_raw.calls k _ _ l0 true _ ?side1 HC0.out A3.out).mono ?_); (case side1 => repeat (first | exact HR0.out | (with_reducible refine Kd.C_alloc ?_ _) | (with_reducible refine Kd.C_drewN ?_ _) | (with_reducible refine Kd.C_drew ?_))); rintro e w6 ⟨rfl, hb⟩; refine ⟨_, rfl, ?_⟩; replace HB := Aside0.mk (below_step bel hb); clear hb))
   go_ret2
   exact ⟨_, ezz, by first | exact Kd.R_nil _ _ _ _ _ | exact Kd.N_nil _ _ _ _ _ | exact Kd.V_nil _ _ _ _ _ | exact Kd.Q_nil _ _ _ _ _ | exact Kd.S_nil _ _ _ _ _, bel⟩
  ·
   rw [if_neg c5] at H
   have c5b0 : decide (a1 < 1) = false := decide_eq_false c5
   clear c5
   by_cases c7 : a1 > 200
   ·
    rw [if_pos c7] at H
    have c7b0 : decide (200 < a1) = true := decide_eq_true c7
    clear c7
    simp only [Option.some.injEq, Prod.mk.injEq] at H
    obtain ⟨rfl, rfl⟩ := H
    go_enter Tryd.func15, Tryd.ntmps15
    go_wp2_with (first | ((with_reducible refine gate_callee (f := 42) rfl ?_); refine goesL_ (some 7) rfl rfl Tryd.func42 (by kernel_rfl) rfl #[.slice A0 l0.length c0] rfl mapz ?_; (with_reducible refine (dropperref01_raw.calls k _ _ l0 true _ ?side1 HC0.out A3.out).mono ?_); (case side1 => repeat (first | exact HR0.out | (with_reducible refine Kd.C_alloc ?_ _) | (with_reducible refine Kd.C_drewN ?_ _) | (with_reducible refine Kd.C_drew ?_))); rintro e w8 ⟨rfl, hb⟩; refine ⟨_, rfl, ?_⟩; replace HB := Aside0.mk (below_step bel hb); clear hb))
    go_ret2
    exact ⟨_, ezz, by first | exact Kd.R_nil _ _ _ _ _ | exact Kd.N_nil _ _ _ _ _ | exact Kd.V_nil _ _ _ _ _ | exact Kd.Q_nil _ _ _ _ _ | exact Kd.S_nil _ _ _ _ _, bel⟩
   ·
    rw [if_neg c7] at H
    have c7b0 : decide (200 < a1) = false := decide_eq_false c7
    clear c7
    replace H := Option.bind_eq_some_iff.mp H
    obtain ⟨⟨t187, t188⟩, A90, H⟩ := H
    try dsimp only at H
    have A9 := Aside0.mk A90
    clear A90
    simp only [Option.some.injEq, Prod.mk.injEq] at H
    obtain ⟨rfl, rfl⟩ := H
    go_enter Tryd.func15, Tryd.ntmps15
    go_wp2_with (first | ((with_reducible refine gate_callee (f := 42) rfl ?_); refine goesL_ (some 7) rfl rfl Tryd.func42 (by kernel_rfl) rfl #[.slice A0 l0.length c0] rfl mapz ?_; (with_reducible refine (dropperref01_raw.calls k _ _ l0 true _ ?side1 HC0.out A3.out).mono ?_); (case side1 => repeat (first | exact HR0.out | (with_reducible refine Kd.C_alloc ?_ _) | (with_reducible refine Kd.C_drewN ?_ _) | (with_reducible refine Kd.C_drew ?_))); rintro e w10 ⟨rfl, hb⟩; refine ⟨_, rfl, ?_⟩; replace HB := Aside0.mk (below_step bel hb); clear hb) | ((with_reducible refine gate_callee (f := 43) rfl ?_); refine goesL_ (some 19) rfl rfl Tryd.func43 (by kernel_rfl) rfl #[.slice A0 l0.length c0, .int .i64 a1] rfl mapz ?_; (with_reducible refine (dropperref01_often.calls k _ _ l0 a1 t187 t188 _ (cbz HR0) HC0.out A9.out).mono ?_); rintro e w11 ⟨v189, rfl, ho0, hb⟩; refine ⟨_, rfl, ?_⟩; have HO190 := Aside0.mk (Kd.R_lower ho0 (below_size bel)); replace HB := Aside0.mk (below_step bel hb); (try clear hb); (try clear hb2); (try clear hk); (try clear hi); (try clear ho0)))
    go_ret2
    exact ⟨_, ezz, by (with_reducible repeat (first | apply Kd.R_alloc | apply Kd.R_drewN | apply Kd.R_drew)); exact HO190.out, bel⟩
 ·
  replace c4 := Bool.eq_false_iff.mpr c4
  subst c4
  rw [if_neg (show ¬ (false = true) by decide)] at H
  simp only [Option.some.injEq, Prod.mk.injEq] at H
  obtain ⟨rfl, rfl⟩ := H
  go_enter Tryd.func15, Tryd.ntmps15
  go_wp2_with (first | ((with_reducible refine gate_callee (f := 42) rfl ?_); refine goesL_ (some 7) rfl rfl Tryd.func42 (by kernel_rfl) rfl #[.slice A0 l0.length c0] rfl mapz ?_; (with_reducible refine (dropperref01_raw.calls k _ _ l0 false _ ?side1 HC0.out A3.out).mono ?_); (case side1 => repeat (first | exact HR0.out | (with_reducible refine Kd.C_alloc ?_ _) | (with_reducible refine Kd.C_drewN ?_ _) | (with_reducible refine Kd.C_drew ?_))); rintro e w12 ⟨rfl, hb⟩; refine ⟨_, rfl, ?_⟩; replace HB := Aside0.mk (below_step bel hb); clear hb))
  go_ret2
  exact ⟨_, ezz, by first | exact Kd.R_nil _ _ _ _ _ | exact Kd.N_nil _ _ _ _ _ | exact Kd.V_nil _ _ _ _ _ | exact Kd.Q_nil _ _ _ _ _ | exact Kd.S_nil _ _ _ _ _, bel⟩

end Go.Proofs.YtcmdcgghpkcchaaDoor.XMast
-- Written by wip/xprint.py of this repo, over the kit's print.py: out of the translation; the oracles in it are by hand. Not trusted: Lean checks it.
namespace Go.Proofs.YtcmdcgghpkcchaaDoor.XMast
open Go.RowKit Go.Proofs.YtcmdcgghpkcchaaDoorW.PrintWords Go.Proofs.YtcmdcgghpkcchaaDoorW.PrintLast Go.Proofs.YtcmdcgghpkcchaaDoorW.PrintMore
attribute [local go_sem] max2_int min2_int max_two min_two max_three min_three max_four min_four   -- for this text's walks alone
set_option linter.unusedVariables false
set_option linter.unusedSimpArgs false

theorem eqA46 (d : Nat) (w : World) (x0 y0 : Int) (x1 y1 : Int) :
  (Op.equalIn (d + 2) 46 (.agg #[.int .i64 x0, .int .i64 x1]) (.agg #[.int .i64 y0, .int .i64 y1])).run Tryd.prog w = .ok (x0 == y0 && (x1 == y1)) w := by
 refine eqA_of Tryd.underlying46 (by kernel_rfl) ?_
 refine eqf_cons (by rfl) (by go_simp; rfl) (by go_simp; rfl) (by go_simp) ?_
 exact eqf_last (by rfl) (by go_simp; rfl) (by go_simp; rfl) (by go_simp)
end Go.Proofs.YtcmdcgghpkcchaaDoor.XMast

namespace Go.Proofs.YtcmdcgghpkcchaaDoor.XMast
open Go.RowKit Go.Proofs.YtcmdcgghpkcchaaDoorW.PrintWords Go.Proofs.YtcmdcgghpkcchaaDoorW.PrintLast Go.Proofs.YtcmdcgghpkcchaaDoorW.PrintMore
attribute [local go_sem] max2_int min2_int max_two min_two max_three min_three max_four min_four   -- for this text's walks alone
set_option linter.unusedVariables false
set_option linter.unusedSimpArgs false
attribute [local go_sem high] eqA46
/-! ### dropperlaw01_Same: function 16 -/
def dropperlaw01_Same.l0 : Nat → List (S46) → List (S46) → Int → Option (Bool)
 | 0, _, _, _ => none
 | k + 1, x0, x1, x5 => if x5 < (x0.length : Int) then (if 0 ≤ x5 then (if x5 < (x1.length : Int) then (if (!(((rd_T46 x0 x5).f0) == ((rd_T46 x1 x5).f0)) || (!(((rd_T46 x0 x5).f1) == ((rd_T46 x1 x5).f1)))) = true then (some false) else (dropperlaw01_Same.l0 k x0 x1 (wrap64 (x5 + 1)))) else (none)) else (none)) else (some true)
def dropperlaw01_Same.f (k : Nat) (l0 : List (S46)) (l1 : List (S46)) : Option (Bool) := if (l0.length : Int) = (l1.length : Int) then (dropperlaw01_Same.l0 k l0 l1 0) else (some false)
set_option maxHeartbeats 8000000 in
set_option maxRecDepth 100000 in
theorem dropperlaw01_Same.calls (k : Nat) (A0 : Option Addr) (c0 : Nat) (l0 : List (S46)) (A1 : Option Addr) (c1 : Nat) (l1 : List (S46)) (r : Bool) (w : World) (hr0 : Kd.C k46 w A0 l0.length l0) (hc0 : l0.length ≤ c0) (hr1 : Kd.C k46 w A1 l1.length l1) (hc1 : l1.length ≤ c1) (h : dropperlaw01_Same.f k l0 l1 = some r) :
  Calls Tryd.prog 16 #[.slice A0 l0.length c0, .slice A1 l1.length c1] w fun e w' => e = .returned (.bool r) ∧ Drawn0 w w' := by
 have hu46 := Tryd.underlying46
 have HR0 := Aside0.mk hr0
 have HC0 := Aside0.mk hc0
 clear hr0 hc0
 have HR1 := Aside0.mk hr1
 have HC1 := Aside0.mk hc1
 clear hr1 hc1
 have H : (if (l0.length : Int) = (l1.length : Int) then (dropperlaw01_Same.l0 k l0 l1 0) else (some false)) = some r := h
 clear h
 by_cases c3 : (l0.length : Int) = (l1.length : Int)
 ·
  rw [if_pos c3] at H
  have c3b0 : ((l0.length : Int) == (l1.length : Int)) = true := beq_iff_eq.mpr c3
  have c3b1 : ((l0.length : Int) != (l1.length : Int)) = false := bne_eq_false_iff_eq.mpr c3
  have c3b2 : (l0.length == l1.length) = true := by first | simpa using c3 | (simp at c3 ⊢; omega)
  clear c3
  have H' := Aside0.mk H
  clear H
  go_enter Tryd.func16, Tryd.ntmps16
  go_wp2
  repeat (go_quiet (fail); try go_wp2)
  go_loopg [5] k (fun kq v5 w' => ∃ (x5_1 : Int), v5 = .int .i64 x5_1 ∧ Aside0 (dropperlaw01_Same.l0 kq l0 l1 x5_1 = some r) ∧ Aside0 (kq ≤ k) ∧ Drawn0 w w')
  case atStart => exact ⟨(0), rsz, H', ⟨Nat.le_refl _⟩, drz⟩
  case round =>
   clear H'
   (try clear c1); (try clear p2); (try clear c3); (try clear c3b0); (try clear c3b1); (try clear c3b2)
   obtain ⟨x5_1, rfl, HA, HK1, ⟨m1, rfl⟩⟩ := hrel
   cases gk with
   | zero => exact absurd HA.out (by simp [dropperlaw01_Same.l0])
   | succ k1 =>
    have H := HA.out
    clear HA
    simp only [dropperlaw01_Same.l0] at H
    by_cases c4 : x5_1 < (l0.length : Int)
    ·
     rw [if_pos c4] at H
     have c4b0 : decide (x5_1 < (l0.length : Int)) = true := decide_eq_true c4
     clear c4
     by_cases c5 : 0 ≤ x5_1
     ·
      rw [if_pos c5] at H
      have c5b0 : decide (0 ≤ x5_1) = true := decide_eq_true c5
      clear c5
      by_cases c6 : x5_1 < (l1.length : Int)
      ·
       rw [if_pos c6] at H
       have c6b0 : decide (x5_1 < (l1.length : Int)) = true := decide_eq_true c6
       clear c6
       by_cases c7 : (!(((rd_T46 l0 x5_1).f0) == ((rd_T46 l1 x5_1).f0)) || (!(((rd_T46 l0 x5_1).f1) == ((rd_T46 l1 x5_1).f1)))) = true
       ·
        rw [if_pos c7] at H
        have c7b0 : (!(((rd_T46 l0 x5_1).f0) == ((rd_T46 l1 x5_1).f0)) || (!(((rd_T46 l0 x5_1).f1) == ((rd_T46 l1 x5_1).f1)))) = true := c7
        clear c7
        obtain rfl := Option.some.inj H
        have p191 : 0 ≤ (x5_1 : Int) := of_decide_eq_true asz
        have q191 : x5_1 < (l0.length : Int) := of_decide_eq_true asz
        obtain ⟨ad191, e191, hx191_0, hx191_1⟩ := at_T46 HR0.out x5_1 p191 q191
        cases e191
        replace p191 := eq_true p191
        replace q191 := eq_true q191
        have p192 : 0 ≤ (x5_1 : Int) := of_decide_eq_true asz
        have q192 : x5_1 < (l1.length : Int) := of_decide_eq_true asz
        obtain ⟨ad192, e192, hx192_0, hx192_1⟩ := at_T46 HR1.out x5_1 p192 q192
        cases e192
        replace p192 := eq_true p192
        replace q192 := eq_true q192
        go_wp2
        repeat (go_quiet (fail); try go_wp2)
        go_ret
        exact ⟨by first | rfl | (simp; done) | (simp [*]; done), drz⟩
       ·
        rw [if_neg c7] at H
        have c7b0 : (!(((rd_T46 l0 x5_1).f0) == ((rd_T46 l1 x5_1).f0)) || (!(((rd_T46 l0 x5_1).f1) == ((rd_T46 l1 x5_1).f1)))) = false := by simpa using c7
        clear c7
        have H' := Aside0.mk H
        clear H
        have p191 : 0 ≤ (x5_1 : Int) := of_decide_eq_true asz
        have q191 : x5_1 < (l0.length : Int) := of_decide_eq_true asz
        obtain ⟨ad191, e191, hx191_0, hx191_1⟩ := at_T46 HR0.out x5_1 p191 q191
        cases e191
        replace p191 := eq_true p191
        replace q191 := eq_true q191
        have p192 : 0 ≤ (x5_1 : Int) := of_decide_eq_true asz
        have q192 : x5_1 < (l1.length : Int) := of_decide_eq_true asz
        obtain ⟨ad192, e192, hx192_0, hx192_1⟩ := at_T46 HR1.out x5_1 p192 q192
        cases e192
        replace p192 := eq_true p192
        replace q192 := eq_true q192
        go_wp2
        repeat (go_quiet (fail); try go_wp2)
        go_roundg k1
        case measure => have := HK1.out; omega
        case rel => exact ⟨(wrap64 (x5_1 + 1)), rsz, H', ⟨by have := HK1.out; omega⟩, drz⟩
      ·
       rw [if_neg c6] at H
       exact absurd H (by simp)
     ·
      rw [if_neg c5] at H
      exact absurd H (by simp)
    ·
     rw [if_neg c4] at H
     have c4b0 : decide (x5_1 < (l0.length : Int)) = false := decide_eq_false c4
     clear c4
     obtain rfl := Option.some.inj H
     go_wp2
     repeat (go_quiet (fail); try go_wp2)
     go_ret
     exact ⟨by first | rfl | (simp; done) | (simp [*]; done), drz⟩
 ·
  rw [if_neg c3] at H
  have c3b0 : ((l0.length : Int) == (l1.length : Int)) = false := beq_eq_false_iff_ne.mpr c3
  have c3b1 : ((l0.length : Int) != (l1.length : Int)) = true := bne_iff_ne.mpr c3
  have c3b2 : (l0.length == l1.length) = false := by first | simpa using c3 | (simp at c3 ⊢; omega)
  obtain rfl := Option.some.inj H
  go_enter Tryd.func16, Tryd.ntmps16
  go_wp2
  repeat (go_quiet (fail); try go_wp2)
  go_ret
  exact ⟨by first | rfl | (simp; done) | (simp [*]; done), drz⟩

end Go.Proofs.YtcmdcgghpkcchaaDoor.XMast
namespace Go.Proofs.YtcmdcgghpkcchaaDoor.XMast
open Go.RowKit Go.Proofs.YtcmdcgghpkcchaaDoorW.PrintWords Go.Proofs.YtcmdcgghpkcchaaDoorW.PrintLast Go.Proofs.YtcmdcgghpkcchaaDoorW.PrintMore
attribute [local go_sem] max2_int min2_int max_two min_two max_three min_three max_four min_four   -- for this text's walks alone
set_option linter.unusedVariables false
set_option linter.unusedSimpArgs false
/-! ### mast_Deepest: function 17 -/
def mast_Deepest.f (l0 : List S46) : Option (Int × Int × Int) := (mast_raw.f l0).bind fun e => if e = 0 then some ((Lay.deep (Lay.srt (Lay.chg 1 l0)) 0 0 0).1, (Lay.deep (Lay.srt (Lay.chg 1 l0)) 0 0 0).2, 0) else some (0, 0, e)
set_option maxHeartbeats 8000000 in
set_option maxRecDepth 100000 in
theorem mast_Deepest.calls (A0 : Option Addr) (c0 : Nat) (l0 : List S46) (r1 r2 r3 : Int) (w : World) (hr0 : Kd.C k46 w A0 l0.length l0) (hc0 : l0.length ≤ c0) (h : mast_Deepest.f l0 = some (r1, r2, r3)) :
  Calls Tryd.prog 17 #[.slice A0 l0.length c0] w fun e w' => e = .returned (.tuple #[.int .i64 r1, .int .i64 r2, .int .i64 r3]) ∧ Below w.heap.size w w' := by
 have HR := Aside0.mk hr0
 have HC := Aside0.mk hc0
 have hu2 := Tryd.underlying54
 clear hr0 hc0
 unfold mast_Deepest.f at h
 obtain ⟨e0, he0, h1⟩ := Option.bind_eq_some_iff.1 h
 have HE := Aside0.mk he0
 clear h he0
 by_cases hz : e0 = 0
 ·
  subst hz
  rw [if_pos rfl] at h1
  have HRW := Aside0.mk (mast_Often.raw0 HE.out)
  have H1 := Aside0.mk (Option.some.inj h1)
  clear h1
  have L0 : Aside0 (l0.length ≤ 1000) := ⟨by have := HRW.out.1; omega⟩
  go_enter Tryd.func17, Tryd.ntmps17
  go_wp2_with (first | (go_at_call 44; (with_reducible refine (mast_raw.calls _ _ l0 0 _ HR.out HC.out HE.out).mono ?_); rintro e w1 ⟨rfl, hb⟩; have HB0 := Aside0.mk hb; clear hb) | (go_at_call 46; (with_reducible refine (Lay.changes _ _ l0 1 _ (Kd.C_below HR.out HB0.out) HC.out L0.out (Or.inl rfl)).mono ?_); rintro e w2 ⟨v, ys, rfl, hp, hs, hr, hb⟩; obtain ⟨A, cc, e2⟩ := Kd.R_slice hr; subst e2; have HP := Aside0.mk hp; have HSO := Aside0.mk hs; have HRY := Aside0.mk hr; have HB := Aside0.mk (below_step HB0.out hb); clear hp hs hr hb))
  obtain ⟨RES, hRES⟩ : ∃ RES, RES = Lay.deep ys 0 0 0 := ⟨_, rfl⟩
  have HRES := Aside0.mk hRES
  have HN : Aside0 (ys.length ≤ 1000) := ⟨by rw [HP.out.length_eq, Lay.chg_length]; have := HRW.out.1; omega⟩
  clear hRES
  obtain ⟨n0, hn0⟩ : ∃ n0, n0 = ys.length := ⟨_, rfl⟩
  rw [← hn0]
  have HN0 := Aside0.mk hn0
  have hn1000 : n0 ≤ 1000 := by rw [hn0]; exact HN.out
  clear hn0
  have HRY0 : Aside0 (Lay.kCh.R 54 w2 w.heap.size (fun _ => True) (.slice A n0 cc) ys) := ⟨by rw [HN0.out]; exact Kd.R_lower HRY.out (below_size HB0.out)⟩
  clear HRY
  go_loopg [2, 3, 6, 19] n0 (fun kq v2 v3 v6 v19 w' => ∃ (x lv m d : Int), v2 = .int .i64 m ∧ v3 = .int .i64 d ∧ v6 = .int .i64 lv ∧ v19 = .int .i64 x ∧ Aside0 (0 ≤ x ∧ x ≤ n0) ∧ Aside0 (kq = n0 - x.toNat) ∧ Aside0 (Lay.deep (ys.drop x.toNat) lv m d = RES) ∧ Aside0 (Lay.kCh.R 54 w' w.heap.size (fun _ => True) (.slice A n0 cc) ys) ∧ Aside0 (Below w.heap.size w w'))
  case atStart => exact ⟨0, 0, 0, 0, rfl, rfl, rfl, rfl, ⟨by omega, by omega⟩, ⟨rfl⟩, ⟨HRES.out.symm⟩, HRY0, HB⟩
  case round =>
   clear HRY0 HB
   obtain ⟨x, lv, m, d, rfl, rfl, rfl, rfl, HI, HK, HS, HRY, HB⟩ := hrel
   by_cases hlt : x < (n0 : Int)
   ·
    have h1 : decide (x < (n0 : Int)) = true := decide_eq_true hlt
    have p1 : 0 ≤ x := HI.out.1
    obtain ⟨A', c', e2, hc2, hread⟩ := Kd.R_reads HRY.out
    have e2' : A = A' := by injection e2
    subst e2'
    rw [← HN0.out] at hread
    have HRD := Aside0.mk hread
    clear hread hc2 e2
    obtain ⟨ad, e1, hx0, hx1⟩ := Lay.atCh HRD.out x p1 hlt
    cases e1
    obtain ⟨hd1, hd2⟩ := Lay.rdCh_get (l := ys) p1 (by rw [← HN0.out]; exact hlt)
    have p2 : (x : Int) ≤ 1000 := by omega
    have hs := HS.out
    rw [hd1, Lay.deep] at hs
    obtain ⟨X, hX⟩ : ∃ X, X = Lay.rdCh ys x := ⟨_, rfl⟩
    rw [← hX] at hx0 hx1 hs
    clear hX hd1 hd2
    have HSS := Aside0.mk hs
    clear hs HS
    go_wp2_with (fail)
    obtain ⟨w1, hw1⟩ : ∃ w1, w1 = wr.alloc (.cells #[.int .i64 X.f0, .int .i64 X.f1] 54) := ⟨_, rfl⟩
    have B1 : Aside0 (w1.heap[wr.heap.size]? = some (.cells #[.int .i64 X.f0, .int .i64 X.f1] 54 (0, 0))) := ⟨by rw [hw1]; exact blk_new _ _⟩
    have HRY1 : Aside0 (Lay.kCh.R 54 w1 w.heap.size (fun _ => True) (.slice (some ad) n0 cc) ys) := ⟨by rw [hw1]; exact Kd.R_below HRY.out (below_alloc (Below.refl _ _) _)⟩
    have HRD1 : Aside0 (Kd.C Lay.kCh w1 (some ad) n0 ys) := ⟨by rw [hw1]; exact Kd.C_below HRD.out (below_alloc (Below.refl _ _) _)⟩
    have HB1 : Aside0 (Below w.heap.size w w1) := ⟨by rw [hw1]; exact below_alloc HB.out _⟩
    rw [← hw1]
    clear hw1 HRY HB HRD hx0 hx1
    generalize wr.heap.size = gb at B1 ⊢
    have hss := HSS.out
    generalize wrap64 (lv + X.f1) = lz at hss ⊢
    clear HSS
    have k0 := blkc B1.out 0 (.int .i64 X.f0) rfl
    have rw1 : IntKind.i64.wrap (x + 1) = x + 1 := by rw [IntKind.wrap_i64]; omega
    by_cases hn : x + 1 < (n0 : Int)
    ·
     have hn1 : (x + 1 == (n0 : Int)) = false := by simp; omega
     have hn2 : x + 1 ≠ (n0 : Int) := by omega
     have q1 : (0 : Int) ≤ x + 1 := by omega
     obtain ⟨ad', e1, hy0, hy1⟩ := Lay.atCh HRD1.out (x + 1) q1 hn
     have e1' : ad = ad' := by injection e1
     subst e1'
     clear e1
     obtain ⟨hd1, hd2⟩ := Lay.rdCh_get (l := ys) q1 (by rw [← HN0.out]; exact hn)
     obtain ⟨Y, hY⟩ : ∃ Y, Y = Lay.rdCh ys (x + 1) := ⟨_, rfl⟩
     rw [← hY] at hy0 hy1 hd2
     clear hY hd1
     by_cases heq : Y.f0 = X.f0
     ·
      have b2 : (Y.f0 == X.f0) = true := by simp [heq]
      have b3 : (Y.f0 != X.f0) = false := by simp [heq]
      rw [if_neg (by rw [hd2]; simp [heq])] at hss
      have HS2 := Aside0.mk hss
      clear hss heq hd2
      go_quiet (fail)
      have B2 := Aside0.mk (blk_drewN B1.out nq)
      have HRY2 := Aside0.mk (Kd.R_drewN HRY1.out nq)
      have HB2 := Aside0.mk (pw_below_drewN HB1.out nq)
      clear B1 HRY1 HB1 HRD1 k0
      generalize w1.drewN nq = w2 at B2 HRY2 HB2 ⊢
      have k0 := blkc B2.out 0 (.int .i64 X.f0) rfl
      go_wp2
      go_roundg (n0 - (x + 1).toNat)
      case measure => have := HI.out; have := HK.out; omega
      case rel => exact ⟨x + 1, lz, m, d, rfl, rfl, rfl, by first | rfl | (rw [show wrap64 (x + 1) = x + 1 by unfold wrap64; omega]), ⟨by omega, by omega⟩, ⟨rfl⟩, HS2, HRY2, HB2⟩
     ·
      have b2 : (Y.f0 == X.f0) = false := by simp [heq]
      have b3 : (Y.f0 != X.f0) = true := by simp [heq]
      by_cases hgt : d < lz
      ·
       have b4 : decide (d < lz) = true := decide_eq_true hgt
       rw [if_pos ⟨by rw [hd2]; simp [heq], hgt⟩] at hss
       have HS2 := Aside0.mk hss
       clear hss heq hd2
       go_quiet (fail)
       have B2 := Aside0.mk (blk_drewN B1.out nq)
       have HRY2 := Aside0.mk (Kd.R_drewN HRY1.out nq)
       have HB2 := Aside0.mk (pw_below_drewN HB1.out nq)
       clear B1 HRY1 HB1 HRD1 k0
       generalize w1.drewN nq = w2 at B2 HRY2 HB2 ⊢
       have k0 := blkc B2.out 0 (.int .i64 X.f0) rfl
       go_wp2
       go_roundg (n0 - (x + 1).toNat)
       case measure => have := HI.out; have := HK.out; omega
       case rel => exact ⟨x + 1, lz, X.f0, lz, rfl, rfl, rfl, by first | rfl | (rw [show wrap64 (x + 1) = x + 1 by unfold wrap64; omega]), ⟨by omega, by omega⟩, ⟨rfl⟩, HS2, HRY2, HB2⟩
      ·
       have b4 : decide (d < lz) = false := decide_eq_false hgt
       rw [if_neg (fun h => hgt h.2)] at hss
       have HS2 := Aside0.mk hss
       clear hss heq hd2
       go_quiet (fail)
       have B2 := Aside0.mk (blk_drewN B1.out nq)
       have HRY2 := Aside0.mk (Kd.R_drewN HRY1.out nq)
       have HB2 := Aside0.mk (pw_below_drewN HB1.out nq)
       clear B1 HRY1 HB1 HRD1 k0
       generalize w1.drewN nq = w2 at B2 HRY2 HB2 ⊢
       have k0 := blkc B2.out 0 (.int .i64 X.f0) rfl
       go_wp2
       go_roundg (n0 - (x + 1).toNat)
       case measure => have := HI.out; have := HK.out; omega
       case rel => exact ⟨x + 1, lz, m, d, rfl, rfl, rfl, by first | rfl | (rw [show wrap64 (x + 1) = x + 1 by unfold wrap64; omega]), ⟨by omega, by omega⟩, ⟨rfl⟩, HS2, HRY2, HB2⟩
    ·
     have hn1 : (x + 1 == (n0 : Int)) = true := by simp; omega
     have hd2 : (ys.drop (x + 1).toNat).head? = none := by
      have h2 : ys.length ≤ (x + 1).toNat := by have := HN0.out; omega
      rw [List.drop_eq_nil_of_le h2]; rfl
     by_cases hgt : d < lz
     ·
      have b4 : decide (d < lz) = true := decide_eq_true hgt
      rw [if_pos ⟨by rw [hd2]; simp, hgt⟩] at hss
      have HS2 := Aside0.mk hss
      clear hss hd2
      go_quiet (fail)
      have B2 := Aside0.mk (blk_drewN B1.out nq)
      have HRY2 := Aside0.mk (Kd.R_drewN HRY1.out nq)
      have HB2 := Aside0.mk (pw_below_drewN HB1.out nq)
      clear B1 HRY1 HB1 HRD1 k0
      generalize w1.drewN nq = w2 at B2 HRY2 HB2 ⊢
      have k0 := blkc B2.out 0 (.int .i64 X.f0) rfl
      go_wp2
      go_roundg (n0 - (x + 1).toNat)
      case measure => have := HI.out; have := HK.out; omega
      case rel => exact ⟨x + 1, lz, X.f0, lz, rfl, rfl, rfl, by first | rfl | (rw [show wrap64 (x + 1) = x + 1 by unfold wrap64; omega]), ⟨by omega, by omega⟩, ⟨rfl⟩, HS2, HRY2, HB2⟩
     ·
      have b4 : decide (d < lz) = false := decide_eq_false hgt
      rw [if_neg (fun h => hgt h.2)] at hss
      have HS2 := Aside0.mk hss
      clear hss hd2
      go_quiet (fail)
      have B2 := Aside0.mk (blk_drewN B1.out nq)
      have HRY2 := Aside0.mk (Kd.R_drewN HRY1.out nq)
      have HB2 := Aside0.mk (pw_below_drewN HB1.out nq)
      clear B1 HRY1 HB1 HRD1 k0
      generalize w1.drewN nq = w2 at B2 HRY2 HB2 ⊢
      have k0 := blkc B2.out 0 (.int .i64 X.f0) rfl
      go_wp2
      go_roundg (n0 - (x + 1).toNat)
      case measure => have := HI.out; have := HK.out; omega
      case rel => exact ⟨x + 1, lz, m, d, rfl, rfl, rfl, by first | rfl | (rw [show wrap64 (x + 1) = x + 1 by unfold wrap64; omega]), ⟨by omega, by omega⟩, ⟨rfl⟩, HS2, HRY2, HB2⟩
   ·
    have h1 : decide (x < (n0 : Int)) = false := decide_eq_false hlt
    have hs := HS.out
    rw [List.drop_eq_nil_of_le (by have := HN0.out; omega), Lay.deep] at hs
    have hgood := mast_Often.good HRW.out
    have hq : Lay.deep ys 0 0 0 = Lay.deep (Lay.srt (Lay.chg 1 l0)) 0 0 0 :=
     Lay.deep_perm (HP.out.trans (Lay.srt_perm _).symm) HSO.out (Lay.srt_sorted _) ⟨by rw [HP.out.length_eq]; exact hgood.1, fun c hc => hgood.2 c (HP.out.mem_iff.1 hc)⟩
    rw [HRES.out, hq] at hs
    have hf := H1.out
    rw [← hs] at hf
    injection hf with f1 f2
    injection f2 with f2 f3
    subst f1 f2 f3
    clear hs hgood hq
    go_wp2
    go_ret3
    exact ⟨rfl, HB.out⟩
 ·
  rw [if_neg hz] at h1
  have h1' := Option.some.inj h1
  injection h1' with h3 h4
  injection h4 with h4 h5
  subst h3 h4 h5
  clear h1
  have hz1 : (e0 == 0) = false := by simp [hz]
  have hz2 : (e0 != 0) = true := by simp [hz]
  go_enter Tryd.func17, Tryd.ntmps17
  go_wp2_with (go_at_call 44; refine (mast_raw.calls _ _ l0 e0 _ HR.out HC.out HE.out).mono ?_; rintro e w1 ⟨rfl, hb⟩; have HB1 := Aside0.mk hb; clear hb)
  go_ret3
  exact ⟨rfl, HB1.out⟩

/-! ### dropperref01_Deepest: function 18 -/
def dropperref01_Deepest.l0 : Nat → List (S46) → List Int → Int → Int → Int → Option (Int × Int × Int)
 | 0, _, _, _, _, _ => none
 | k + 1, x0, x5, x6, x7, x8 => if x8 < (x5.length : Int) then (if 0 ≤ x8 then ((dropperref01_depth.f k x0 (rd x5 x8)).bind fun t198 => (if t198 > x7 then (dropperref01_Deepest.l0 k x0 x5 (rd x5 x8) t198 (wrap64 (x8 + 1))) else (dropperref01_Deepest.l0 k x0 x5 x6 x7 (wrap64 (x8 + 1))))) else (none)) else (some (x6, x7, 0))
def dropperref01_Deepest.f (k : Nat) (l0 : List (S46)) : Option (Int × Int × Int) := (dropperref01_raw.f k l0).bind fun t193 => (if t193 = true then ((dropperref01_bounds.f l0 ([] : List (S46))).bind fun t194 => (dropperref01_Deepest.l0 k l0 t194 0 0 0)) else (some (0, 0, 2)))
set_option maxHeartbeats 8000000 in
set_option maxRecDepth 100000 in
theorem dropperref01_Deepest.calls (k : Nat) (A0 : Option Addr) (c0 : Nat) (l0 : List (S46)) (r1 : Int) (r2 : Int) (r3 : Int) (w : World) (hr0 : Kd.C k46 w A0 l0.length l0) (hc0 : l0.length ≤ c0) (h : dropperref01_Deepest.f k l0 = some (r1, r2, r3)) :
  Calls Tryd.prog 18 #[.slice A0 l0.length c0] w fun e w' => e = .returned (.tuple #[.int .i64 r1, .int .i64 r2, .int .i64 r3]) ∧ Below w.heap.size w w' := by
 have HR0 := Aside0.mk hr0
 have HC0 := Aside0.mk hc0
 clear hr0 hc0
 have HB := Aside0.mk (Below.refl w.heap.size w)
 have H : ((dropperref01_raw.f k l0).bind fun t193 => (if t193 = true then ((dropperref01_bounds.f l0 ([] : List (S46))).bind fun t194 => (dropperref01_Deepest.l0 k l0 t194 0 0 0)) else (some (0, 0, 2)))) = some (r1, r2, r3) := h
 clear h
 replace H := Option.bind_eq_some_iff.mp H
 obtain ⟨t193, A20, H⟩ := H
 try dsimp only at H
 have A2 := Aside0.mk A20
 clear A20
 by_cases c3 : t193 = true
 ·
  subst c3
  rw [if_pos rfl] at H
  replace H := Option.bind_eq_some_iff.mp H
  obtain ⟨t194, A40, H⟩ := H
  try dsimp only at H
  have A4 := Aside0.mk A40
  clear A40
  have H' := Aside0.mk H
  clear H
  go_enter Tryd.func18, Tryd.ntmps18
  go_wp2_with (first | ((with_reducible refine gate_callee (f := 42) rfl ?_); refine goesL_ (some 11) rfl rfl Tryd.func42 (by kernel_rfl) rfl #[.slice A0 l0.length c0] rfl mapz ?_; (with_reducible refine (dropperref01_raw.calls k _ _ l0 true _ ?side1 HC0.out A2.out).mono ?_); (case side1 => repeat (first | exact HR0.out | (with_reducible refine Kd.C_alloc ?_ _) | (with_reducible refine Kd.C_drewN ?_ _) | (with_reducible refine Kd.C_drew ?_))); rintro e w5 ⟨rfl, hb⟩; refine ⟨_, rfl, ?_⟩; replace HB := Aside0.mk (below_step bel hb); clear hb) | ((with_reducible refine gate_callee (f := 48) rfl ?_); refine goesL_ (some 14) rfl rfl Tryd.func48 (by kernel_rfl) rfl #[.slice A0 l0.length c0, .slice none 0 0] rfl mapz ?_; (refine (dropperref01_bounds.calls _ _ l0 _ _ ([] : List (S46)) t194 _ (cbz HR0) HC0.out ?side3 ?side4 A4.out).mono ?_); (case side3 => exact Kd.C_nil _ _); (case side4 => exact Nat.le_refl _); rintro e w6 ⟨v195, rfl, ho0, hb⟩; refine ⟨_, rfl, ?_⟩; have HO196 := Aside0.mk (Kd.R_lower ho0 (below_size bel)); replace HB := Aside0.mk (below_step bel hb); (try clear hb); (try clear hb2); (try clear hk); (try clear hi); (try clear ho0)))
  go_loopg [6, 7, 8] k (fun kq v6 v7 v8 w' => ∃ (x6_1 : Int) (x7_1 : Int) (x8_1 : Int), v6 = .int .i64 x6_1 ∧ v7 = .int .i64 x7_1 ∧ v8 = .int .i64 x8_1 ∧ Aside0 (dropperref01_Deepest.l0 kq l0 t194 x6_1 x7_1 x8_1 = some (r1, r2, r3)) ∧ Aside0 (kq ≤ k) ∧ Aside0 (Kd.R (Kd.int .i64) 3 w' w.heap.size (fun _ => True) v195 t194) ∧ Aside0 (Below w.heap.size w w'))
  case atStart => exact ⟨(0), (0), (0), rsz, rsz, rsz, H', ⟨Nat.le_refl _⟩, ⟨by (with_reducible repeat (first | apply Kd.R_alloc | apply Kd.R_drewN | apply Kd.R_drew)); exact HO196.out⟩, ⟨bel⟩⟩
  case round =>
   clear H'
   (try clear c1); (try clear p2); (try clear c3); (try clear c4)
   obtain ⟨x6_1, x7_1, x8_1, rfl, rfl, rfl, HA, HK1, HO_5, HB⟩ := hrel
   cases gk with
   | zero => exact absurd HA.out (by simp [dropperref01_Deepest.l0])
   | succ k1 =>
    have H := HA.out
    clear HA
    simp only [dropperref01_Deepest.l0] at H
    by_cases c7 : x8_1 < (t194.length : Int)
    ·
     rw [if_pos c7] at H
     have c7b0 : decide (x8_1 < (t194.length : Int)) = true := decide_eq_true c7
     clear c7
     by_cases c8 : 0 ≤ x8_1
     ·
      rw [if_pos c8] at H
      have c8b0 : decide (0 ≤ x8_1) = true := decide_eq_true c8
      clear c8
      replace H := Option.bind_eq_some_iff.mp H
      obtain ⟨t198, A90, H⟩ := H
      try dsimp only at H
      have A9 := Aside0.mk A90
      clear A90
      by_cases c10 : t198 > x7_1
      ·
       rw [if_pos c10] at H
       have c10b0 : decide (x7_1 < t198) = true := decide_eq_true c10
       clear c10
       have H' := Aside0.mk H
       clear H
       obtain ⟨Ao11, co11, eo11⟩ := Kd.R_slice HO_5.out
       subst eo11
       have p197 : 0 ≤ (x8_1 : Int) := of_decide_eq_true asz
       have q197 : x8_1 < (t194.length : Int) := of_decide_eq_true asz
       obtain ⟨ad197, e197, hx197_0⟩ := Kd.at_int (Kd.R_reads' HO_5.out).2.2 x8_1 p197 q197
       cases e197
       replace p197 := eq_true p197
       replace q197 := eq_true q197
       go_wp2_with (first | ((with_reducible refine gate_callee (f := 49) rfl ?_); refine goesL_ (some 26) rfl rfl Tryd.func49 (by kernel_rfl) rfl #[.slice A0 l0.length c0, .int .i64 (rd t194 x8_1)] rfl mapz ?_; (with_reducible refine (dropperref01_depth.calls k1 _ _ l0 (rd t194 x8_1) t198 _ (cbz HR0) HC0.out A9.out).mono ?_); rintro e w' ⟨rfl, ⟨nd, rfl⟩⟩; refine ⟨_, rfl, ?_⟩; have p199 : 0 ≤ (x8_1 : Int) := of_decide_eq_true asz; have q199 : x8_1 < (t194.length : Int) := of_decide_eq_true asz; obtain ⟨ad199, e199, hx199_0⟩ := Kd.at_int (Kd.R_reads' HO_5.out).2.2 x8_1 p199 q199; obtain rfl : ad197 = ad199 := (by injection e199); replace p199 := eq_true p199; replace q199 := eq_true q199))
       go_roundg k1
       case measure => have := HK1.out; omega
       case rel => exact ⟨(rd t194 x8_1), (t198), (wrap64 (x8_1 + 1)), rsz, rsz, rsz, H', ⟨by have := HK1.out; omega⟩, ⟨by (with_reducible repeat (first | apply Kd.R_alloc | apply Kd.R_drewN | apply Kd.R_drew)); exact HO_5.out⟩, ⟨bel⟩⟩
      ·
       rw [if_neg c10] at H
       have c10b0 : decide (x7_1 < t198) = false := decide_eq_false c10
       clear c10
       have H' := Aside0.mk H
       clear H
       obtain ⟨Ao12, co12, eo12⟩ := Kd.R_slice HO_5.out
       subst eo12
       have p197 : 0 ≤ (x8_1 : Int) := of_decide_eq_true asz
       have q197 : x8_1 < (t194.length : Int) := of_decide_eq_true asz
       obtain ⟨ad197, e197, hx197_0⟩ := Kd.at_int (Kd.R_reads' HO_5.out).2.2 x8_1 p197 q197
       cases e197
       replace p197 := eq_true p197
       replace q197 := eq_true q197
       go_wp2_with (first | ((with_reducible refine gate_callee (f := 49) rfl ?_); refine goesL_ (some 26) rfl rfl Tryd.func49 (by kernel_rfl) rfl #[.slice A0 l0.length c0, .int .i64 (rd t194 x8_1)] rfl mapz ?_; (with_reducible refine (dropperref01_depth.calls k1 _ _ l0 (rd t194 x8_1) t198 _ (cbz HR0) HC0.out A9.out).mono ?_); rintro e w' ⟨rfl, ⟨nd, rfl⟩⟩; refine ⟨_, rfl, ?_⟩))
       go_roundg k1
       case measure => have := HK1.out; omega
       case rel => exact ⟨(x6_1), (x7_1), (wrap64 (x8_1 + 1)), rsz, rsz, rsz, H', ⟨by have := HK1.out; omega⟩, ⟨by (with_reducible repeat (first | apply Kd.R_alloc | apply Kd.R_drewN | apply Kd.R_drew)); exact HO_5.out⟩, ⟨bel⟩⟩
     ·
      rw [if_neg c8] at H
      exact absurd H (by simp)
    ·
     rw [if_neg c7] at H
     have c7b0 : decide (x8_1 < (t194.length : Int)) = false := decide_eq_false c7
     clear c7
     simp only [Option.some.injEq, Prod.mk.injEq] at H
     obtain ⟨rfl, rfl, rfl⟩ := H
     obtain ⟨Ao13, co13, eo13⟩ := Kd.R_slice HO_5.out
     subst eo13
     go_wp2
     go_ret3
     exact ⟨ezz, bel⟩
 ·
  replace c3 := Bool.eq_false_iff.mpr c3
  subst c3
  rw [if_neg (show ¬ (false = true) by decide)] at H
  simp only [Option.some.injEq, Prod.mk.injEq] at H
  obtain ⟨rfl, rfl, rfl⟩ := H
  go_enter Tryd.func18, Tryd.ntmps18
  go_wp2_with (first | ((with_reducible refine gate_callee (f := 42) rfl ?_); refine goesL_ (some 11) rfl rfl Tryd.func42 (by kernel_rfl) rfl #[.slice A0 l0.length c0] rfl mapz ?_; (with_reducible refine (dropperref01_raw.calls k _ _ l0 false _ ?side1 HC0.out A2.out).mono ?_); (case side1 => repeat (first | exact HR0.out | (with_reducible refine Kd.C_alloc ?_ _) | (with_reducible refine Kd.C_drewN ?_ _) | (with_reducible refine Kd.C_drew ?_))); rintro e w14 ⟨rfl, hb⟩; refine ⟨_, rfl, ?_⟩; replace HB := Aside0.mk (below_step bel hb); clear hb))
  go_ret3
  exact ⟨ezz, bel⟩

/-! ### dropperref01_Valid: function 37 -/
def dropperref01_Valid.l0 : Nat → List (S46) → Int → Option (Bool)
 | 0, _, _ => none
 | k + 1, x0, x3 => if x3 < (x0.length : Int) then (if 0 ≤ x3 then ((dropperref01_isStretch.f ((rd_T46 x0 x3).f0) ((rd_T46 x0 x3).f1)).bind fun t232 => (if t232 = true then (if x3 > 0 then (if 0 ≤ (wrap64 (x3 - 1)) then (if (wrap64 (x3 - 1)) < (x0.length : Int) then (if ((rd_T46 x0 x3).f0) ≤ ((rd_T46 x0 (wrap64 (x3 - 1))).f1) then (some false) else (dropperref01_Valid.l0 k x0 (wrap64 (x3 + 1)))) else (none)) else (none)) else (dropperref01_Valid.l0 k x0 (wrap64 (x3 + 1)))) else (some false))) else (none)) else (some (decide ((x0.length : Int) ≤ 60)))
def dropperref01_Valid.f (k : Nat) (l0 : List (S46)) : Option (Bool) := dropperref01_Valid.l0 k l0 0
def dropperref01_Valid.T4 : Bool × List (List Nat × List Nat) := (true, [([], []), ([], []), ([0, 1], [0, 1]), ([2], [2]), ([3], [3]), ([4], [4]), ([5, 4], [5]), ([6], [6]), ([7, 6], [6, 7]), ([8, 6, 6], [6, 8]), ([9], [9]), ([9], [9]), ([10, 11, 9], [9, 10, 11]), ([12, 9], [9, 12]), ([13, 9], [9, 13]), ([9], [9]), ([9], [9]), ([16, 9], [9, 16]), ([15, 17, 9], [9, 15, 17]), ([18, 9], [9, 18]), ([19, 9], [9, 19]), ([14, 20, 9], [9, 14, 20]), ([9, 21, 6], [6, 9, 21]), ([6, 22], [6, 22])])
def dropperref01_Valid.B4 : List Nat := [0, 0, 3, 7, 15, 31, 63, 127, 255, 511, 1023, 1023, 4095, 8191, 16383, 1023, 1023, 66559, 230399, 492543, 1016831, 2097151, 4194303, 8388607]
theorem dropperref01_Valid.tab4 : rtab .any (opsOf Tryd.f37 4) = dropperref01_Valid.T4 := by kernel_rfl
theorem dropperref01_Valid.bits4 : waitsOk dropperref01_Valid.T4.2 dropperref01_Valid.B4 = true := by kernel_rfl
set_option maxHeartbeats 8000000 in
set_option maxRecDepth 100000 in
theorem dropperref01_Valid.calls (k : Nat) (A0 : Option Addr) (c0 : Nat) (l0 : List (S46)) (r : Bool) (w : World) (hr0 : Kd.C k46 w A0 l0.length l0) (hc0 : l0.length ≤ c0) (h : dropperref01_Valid.f k l0 = some r) :
  Calls Tryd.prog 37 #[.slice A0 l0.length c0] w fun e w' => e = .returned (.bool r) ∧ Below w.heap.size w w' := by
 have hu46 := Tryd.underlying46
 have HR0 := Aside0.mk hr0
 have HC0 := Aside0.mk hc0
 clear hr0 hc0
 have HB := Aside0.mk (Below.refl w.heap.size w)
 have H : (dropperref01_Valid.l0 k l0 0) = some r := h
 clear h
 have H' := Aside0.mk H
 clear H
 go_enter Tryd.func37, Tryd.ntmps37
 go_wp2
 go_loopg [3] k (fun kq v3 w' => ∃ (x3_1 : Int), v3 = .int .i64 x3_1 ∧ Aside0 (dropperref01_Valid.l0 kq l0 x3_1 = some r) ∧ Aside0 (kq ≤ k) ∧ Aside0 (Below w.heap.size w w'))
 case atStart => exact ⟨(0), rsz, H', ⟨Nat.le_refl _⟩, ⟨bel⟩⟩
 case round =>
  clear H'
  obtain ⟨x3_1, rfl, HA, HK1, HB⟩ := hrel
  cases gk with
  | zero => exact absurd HA.out (by simp [dropperref01_Valid.l0])
  | succ k1 =>
   have H := HA.out
   clear HA
   simp only [dropperref01_Valid.l0] at H
   by_cases c2 : x3_1 < (l0.length : Int)
   ·
    rw [if_pos c2] at H
    have c2b0 : decide (x3_1 < (l0.length : Int)) = true := decide_eq_true c2
    clear c2
    by_cases c3 : 0 ≤ x3_1
    ·
     rw [if_pos c3] at H
     have c3b0 : decide (0 ≤ x3_1) = true := decide_eq_true c3
     clear c3
     replace H := Option.bind_eq_some_iff.mp H
     obtain ⟨t232, A40, H⟩ := H
     try dsimp only at H
     have A4 := Aside0.mk A40
     clear A40
     by_cases c5 : t232 = true
     ·
      subst c5
      rw [if_pos rfl] at H
      by_cases c6 : x3_1 > 0
      ·
       rw [if_pos c6] at H
       have c6b0 : decide (0 < x3_1) = true := decide_eq_true c6
       clear c6
       obtain ⟨ji7, hji7⟩ : ∃ j_ : Int, (wrap64 (x3_1 - 1)) = j_ := ⟨_, rfl⟩
       replace H : (if 0 ≤ (ji7) then (if (ji7) < (l0.length : Int) then (if ((rd_T46 l0 x3_1).f0) ≤ ((rd_T46 l0 (ji7)).f1) then (some false) else (dropperref01_Valid.l0 k1 l0 (wrap64 (x3_1 + 1)))) else (none)) else (none)) = some r := by first | (rw [hji7] at H; exact H) | (simp only [hji7] at H ⊢; exact H)
       (try rw [hji7] at A4)
       have hji7w : (IntKind.i64.wrap (x3_1 - 1)) = ji7 := (i64_w _).trans hji7
       by_cases c8 : 0 ≤ (ji7)
       ·
        rw [if_pos c8] at H
        have c8b0 : decide (0 ≤ (ji7)) = true := decide_eq_true c8
        clear c8
        by_cases c9 : (ji7) < (l0.length : Int)
        ·
         rw [if_pos c9] at H
         have c9b0 : decide ((ji7) < (l0.length : Int)) = true := decide_eq_true c9
         clear c9
         by_cases c10 : ((rd_T46 l0 x3_1).f0) ≤ ((rd_T46 l0 (ji7)).f1)
         ·
          rw [if_pos c10] at H
          have c10b0 : decide (((rd_T46 l0 x3_1).f0) ≤ ((rd_T46 l0 (ji7)).f1)) = true := decide_eq_true c10
          clear c10
          obtain rfl := Option.some.inj H
          try go_wp2
          have n0_ := Aside0.mk (below_drew1 HB.out)
          clear HB
          have HB := n0_
          clear n0_
          have p231 : 0 ≤ (x3_1 : Int) := of_decide_eq_true asz
          have q231 : x3_1 < (l0.length : Int) := of_decide_eq_true asz
          obtain ⟨ad231, e231, hx231_0, hx231_1⟩ := at_T46 HR0.out x3_1 p231 q231
          have hw231_1 := hx231_1
          have hw231_0 := hx231_0
          cases e231
          replace hx231_0 := (HB.out.cell (World.block_lt_of_cell? w _ hx231_0)).trans hx231_0
          replace hx231_1 := (HB.out.cell (World.block_lt_of_cell? w _ hx231_1)).trans hx231_1
          replace p231 := eq_true p231
          replace q231 := eq_true q231
          have p233 : 0 ≤ (x3_1 : Int) := of_decide_eq_true asz
          have q233 : x3_1 < (l0.length : Int) := of_decide_eq_true asz
          obtain ⟨ad233, e233, hx233_0, hx233_1⟩ := at_T46 HR0.out x3_1 p233 q233
          have hw233_1 := hx233_1
          have hw233_0 := hx233_0
          obtain rfl : ad231 = ad233 := (by injection e233)
          replace hx233_0 := (HB.out.cell (World.block_lt_of_cell? w _ hx233_0)).trans hx233_0
          replace hx233_1 := (HB.out.cell (World.block_lt_of_cell? w _ hx233_1)).trans hx233_1
          replace p233 := eq_true p233
          replace q233 := eq_true q233
          have p234 : 0 ≤ ((ji7) : Int) := of_decide_eq_true asz
          have q234 : (ji7) < (l0.length : Int) := of_decide_eq_true asz
          obtain ⟨ad234, e234, hx234_0, hx234_1⟩ := at_T46 HR0.out (ji7) p234 q234
          have hw234_1 := hx234_1
          have hw234_0 := hx234_0
          obtain rfl : ad231 = ad234 := (by injection e234)
          replace hx234_0 := (HB.out.cell (World.block_lt_of_cell? w _ hx234_0)).trans hx234_0
          replace hx234_1 := (HB.out.cell (World.block_lt_of_cell? w _ hx234_1)).trans hx234_1
          replace p234 := eq_true p234
          replace q234 := eq_true q234
          refine start_ (n := 24) (S := fun w' => w'.cell? (ad231.add ((x3_1).toNat * 2)) = some (.int .i64 ((rd_T46 l0 x3_1).f0)) ∧ w'.cell? ⟨(ad231.add ((x3_1).toNat * 2)).block, (ad231.add ((x3_1).toNat * 2)).off + 1, none⟩ = some (.int .i64 ((rd_T46 l0 x3_1).f1)) ∧ w'.cell? (ad231.add ((x3_1).toNat * 2)) = some (.int .i64 ((rd_T46 l0 x3_1).f0)) ∧ w'.cell? ⟨(ad231.add ((x3_1).toNat * 2)).block, (ad231.add ((x3_1).toNat * 2)).off + 1, none⟩ = some (.int .i64 ((rd_T46 l0 x3_1).f1)) ∧ w'.cell? (ad231.add (((ji7)).toNat * 2)) = some (.int .i64 ((rd_T46 l0 (ji7)).f0)) ∧ w'.cell? ⟨(ad231.add (((ji7)).toNat * 2)).block, (ad231.add (((ji7)).toNat * 2)).off + 1, none⟩ = some (.int .i64 ((rd_T46 l0 (ji7)).f1))) (ds := []) #[false, false, false, false, false, false, false, false, false, false, false, false, false, false, false, false, false, false, false, false, false, false, false, false] (by kernel_rfl) rfl rfl ⟨((HB.out.cell (World.block_lt_of_cell? w _ hw231_0)).trans hw231_0), ((HB.out.cell (World.block_lt_of_cell? w _ hw231_1)).trans hw231_1), ((HB.out.cell (World.block_lt_of_cell? w _ hw233_0)).trans hw233_0), ((HB.out.cell (World.block_lt_of_cell? w _ hw233_1)).trans hw233_1), ((HB.out.cell (World.block_lt_of_cell? w _ hw234_0)).trans hw234_0), ((HB.out.cell (World.block_lt_of_cell? w _ hw234_1)).trans hw234_1)⟩ (fun hHeld => ?_); refine with_tabW dropperref01_Valid.tab4 dropperref01_Valid.bits4 (fun HT_ HW_ => ?_)
          generalize wr.drew = w11 at HB hx231_0 hx231_1 hx233_0 hx233_1 hx234_0 hx234_1 hHeld ⊢
          refine pst (i := 0) (N := some 10) (bz 24 1) (any_of HT_.out (by kernel_rfl)) ?_
          refine pst (i := 1) (N := some 11) (bz 24 3) (any_of HT_.out (by kernel_rfl)) ?_
          refine pst (i := 2) (N := some 12) (bz 24 7) (any_of HT_.out (by kernel_rfl)) ?_
          refine tst6 (i := 3) (N := some 13) (bz 24 15) (take_ofW HT_.out HW_.out (by kernel_rfl)) hHeld ?_
          refine one_ (i := 4) (N := some 14) #[true, true, true, true, true, false, false, false, false, false, false, false, false, false, false, false, false, false, false, false, false, false, false, false] rfl rfl (one_of HT_.out (by kernel_rfl)) (by decide) (fun K hK => ?_)
          refine goes_ Tryd.func63 (by kernel_rfl) rfl #[.agg #[.int .i64 ((rd_T46 l0 x3_1).f0), .int .i64 ((rd_T46 l0 x3_1).f1)]] (by rfl) rfl rfl mapz ?_
          with_reducible refine (dropperref01_isStretch.calls ((rd_T46 l0 x3_1).f0) ((rd_T46 l0 x3_1).f1) true _ A4.out).mono ?_
          rintro e w12 ⟨rfl, hb⟩
          refine ⟨_, rfl, ?_⟩
          have n0_ := Aside0.mk (below_step bel hb)
          clear HB
          have HB := n0_
          clear n0_
          (try clear hb)
          (try clear hb2)
          (try clear hk)
          (try clear hi)
          refine hK.out _ _ ⟨((HB.out.cell (World.block_lt_of_cell? w _ hw231_0)).trans hw231_0), ((HB.out.cell (World.block_lt_of_cell? w _ hw231_1)).trans hw231_1), ((HB.out.cell (World.block_lt_of_cell? w _ hw233_0)).trans hw233_0), ((HB.out.cell (World.block_lt_of_cell? w _ hw233_1)).trans hw233_1), ((HB.out.cell (World.block_lt_of_cell? w _ hw234_0)).trans hw234_0), ((HB.out.cell (World.block_lt_of_cell? w _ hw234_1)).trans hw234_1)⟩ (fun hHeld => ?_)
          clear hK K
          refine norm_ (a' := ?_) ?_ ?_
          rotate_left
          ·
           show Act.put _ (some 14) _ = _
           simp only [Act.put, List.setIfInBounds_toArray, List.set_cons_zero, List.set_cons_succ, i64_w, i32_w]
           rfl
          refine pst (i := 5) (N := some 15) (bz 24 63) (any_of HT_.out (by kernel_rfl)) ?_
          refine pst (i := 6) (N := some 16) (bz 24 127) (any_of HT_.out (by kernel_rfl)) ?_
          refine pst (i := 7) (N := some 17) (bz 24 255) (any_of HT_.out (by kernel_rfl)) ?_
          refine pst (i := 8) (N := some 18) (bz 24 511) (any_of HT_.out (by kernel_rfl)) ?_
          refine pst (i := 9) (N := some 19) (bz 24 1023) (any_of HT_.out (by kernel_rfl)) ?_
          refine pst (i := 10) (N := some 20) (bz 24 2047) (any_of HT_.out (by kernel_rfl)) ?_
          refine pst (i := 11) (N := some 21) (bz 24 4095) (any_of HT_.out (by kernel_rfl)) ?_
          refine pst (i := 12) (N := some 22) (bz 24 8191) (any_of HT_.out (by kernel_rfl)) ?_
          refine pst (i := 13) (N := some 23) (bz 24 16383) (any_of HT_.out (by kernel_rfl)) ?_
          refine pst (i := 15) (N := some 25) (bz 24 49151) (any_of HT_.out (by kernel_rfl)) ?_
          refine pst (i := 16) (N := some 26) (bz 24 114687) (any_of HT_.out (by kernel_rfl)) ?_
          refine pst (i := 17) (N := some 27) (bz 24 245759) (any_of HT_.out (by kernel_rfl)) ?_
          refine pst (i := 18) (N := some 28) (bz 24 507903) (any_of HT_.out (by kernel_rfl)) ?_
          refine pst (i := 19) (N := some 29) (bz 24 1032191) (any_of HT_.out (by kernel_rfl)) ?_
          refine tst6 (i := 14) (N := some 24) (bz 24 1048575) (take_ofW HT_.out HW_.out (by kernel_rfl)) hHeld ?_
          refine tst6 (i := 20) (N := some 30) (bz 24 2097151) (take_ofW HT_.out HW_.out (by kernel_rfl)) hHeld ?_
          refine pst (i := 21) (N := some 31) (bz 24 4194303) (any_of HT_.out (by kernel_rfl)) ?_
          refine pst (i := 22) (N := some 32) (bz 24 8388607) (any_of HT_.out (by kernel_rfl)) ?_
          refine pst (i := 23) (N := some 33) (bz 24 16777215) (any_of HT_.out (by kernel_rfl)) ?_
          refine done_ (done_of HT_.out (by kernel_rfl)) ?_
          try go_wp2
          go_ret
          exact ⟨by first | rfl | (simp [errW_none, errW_some] <;> rfl) | (simp only [← hji7]; first | rfl | (simp [errW_none, errW_some] <;> rfl)) | (simp [*, errW_none, errW_some] <;> rfl), bel⟩
         ·
          rw [if_neg c10] at H
          have c10b0 : decide (((rd_T46 l0 x3_1).f0) ≤ ((rd_T46 l0 (ji7)).f1)) = false := decide_eq_false c10
          clear c10
          have H' := Aside0.mk H
          clear H
          try go_wp2
          have n0_ := Aside0.mk (below_drew1 HB.out)
          clear HB
          have HB := n0_
          clear n0_
          have p231 : 0 ≤ (x3_1 : Int) := of_decide_eq_true asz
          have q231 : x3_1 < (l0.length : Int) := of_decide_eq_true asz
          obtain ⟨ad231, e231, hx231_0, hx231_1⟩ := at_T46 HR0.out x3_1 p231 q231
          have hw231_1 := hx231_1
          have hw231_0 := hx231_0
          cases e231
          replace hx231_0 := (HB.out.cell (World.block_lt_of_cell? w _ hx231_0)).trans hx231_0
          replace hx231_1 := (HB.out.cell (World.block_lt_of_cell? w _ hx231_1)).trans hx231_1
          replace p231 := eq_true p231
          replace q231 := eq_true q231
          have p233 : 0 ≤ (x3_1 : Int) := of_decide_eq_true asz
          have q233 : x3_1 < (l0.length : Int) := of_decide_eq_true asz
          obtain ⟨ad233, e233, hx233_0, hx233_1⟩ := at_T46 HR0.out x3_1 p233 q233
          have hw233_1 := hx233_1
          have hw233_0 := hx233_0
          obtain rfl : ad231 = ad233 := (by injection e233)
          replace hx233_0 := (HB.out.cell (World.block_lt_of_cell? w _ hx233_0)).trans hx233_0
          replace hx233_1 := (HB.out.cell (World.block_lt_of_cell? w _ hx233_1)).trans hx233_1
          replace p233 := eq_true p233
          replace q233 := eq_true q233
          have p234 : 0 ≤ ((ji7) : Int) := of_decide_eq_true asz
          have q234 : (ji7) < (l0.length : Int) := of_decide_eq_true asz
          obtain ⟨ad234, e234, hx234_0, hx234_1⟩ := at_T46 HR0.out (ji7) p234 q234
          have hw234_1 := hx234_1
          have hw234_0 := hx234_0
          obtain rfl : ad231 = ad234 := (by injection e234)
          replace hx234_0 := (HB.out.cell (World.block_lt_of_cell? w _ hx234_0)).trans hx234_0
          replace hx234_1 := (HB.out.cell (World.block_lt_of_cell? w _ hx234_1)).trans hx234_1
          replace p234 := eq_true p234
          replace q234 := eq_true q234
          refine start_ (n := 24) (S := fun w' => w'.cell? (ad231.add ((x3_1).toNat * 2)) = some (.int .i64 ((rd_T46 l0 x3_1).f0)) ∧ w'.cell? ⟨(ad231.add ((x3_1).toNat * 2)).block, (ad231.add ((x3_1).toNat * 2)).off + 1, none⟩ = some (.int .i64 ((rd_T46 l0 x3_1).f1)) ∧ w'.cell? (ad231.add ((x3_1).toNat * 2)) = some (.int .i64 ((rd_T46 l0 x3_1).f0)) ∧ w'.cell? ⟨(ad231.add ((x3_1).toNat * 2)).block, (ad231.add ((x3_1).toNat * 2)).off + 1, none⟩ = some (.int .i64 ((rd_T46 l0 x3_1).f1)) ∧ w'.cell? (ad231.add (((ji7)).toNat * 2)) = some (.int .i64 ((rd_T46 l0 (ji7)).f0)) ∧ w'.cell? ⟨(ad231.add (((ji7)).toNat * 2)).block, (ad231.add (((ji7)).toNat * 2)).off + 1, none⟩ = some (.int .i64 ((rd_T46 l0 (ji7)).f1))) (ds := []) #[false, false, false, false, false, false, false, false, false, false, false, false, false, false, false, false, false, false, false, false, false, false, false, false] (by kernel_rfl) rfl rfl ⟨((HB.out.cell (World.block_lt_of_cell? w _ hw231_0)).trans hw231_0), ((HB.out.cell (World.block_lt_of_cell? w _ hw231_1)).trans hw231_1), ((HB.out.cell (World.block_lt_of_cell? w _ hw233_0)).trans hw233_0), ((HB.out.cell (World.block_lt_of_cell? w _ hw233_1)).trans hw233_1), ((HB.out.cell (World.block_lt_of_cell? w _ hw234_0)).trans hw234_0), ((HB.out.cell (World.block_lt_of_cell? w _ hw234_1)).trans hw234_1)⟩ (fun hHeld => ?_); refine with_tabW dropperref01_Valid.tab4 dropperref01_Valid.bits4 (fun HT_ HW_ => ?_)
          generalize wr.drew = w13 at HB hx231_0 hx231_1 hx233_0 hx233_1 hx234_0 hx234_1 hHeld ⊢
          refine pst (i := 0) (N := some 10) (bz 24 1) (any_of HT_.out (by kernel_rfl)) ?_
          refine pst (i := 1) (N := some 11) (bz 24 3) (any_of HT_.out (by kernel_rfl)) ?_
          refine pst (i := 2) (N := some 12) (bz 24 7) (any_of HT_.out (by kernel_rfl)) ?_
          refine tst6 (i := 3) (N := some 13) (bz 24 15) (take_ofW HT_.out HW_.out (by kernel_rfl)) hHeld ?_
          refine one_ (i := 4) (N := some 14) #[true, true, true, true, true, false, false, false, false, false, false, false, false, false, false, false, false, false, false, false, false, false, false, false] rfl rfl (one_of HT_.out (by kernel_rfl)) (by decide) (fun K hK => ?_)
          refine goes_ Tryd.func63 (by kernel_rfl) rfl #[.agg #[.int .i64 ((rd_T46 l0 x3_1).f0), .int .i64 ((rd_T46 l0 x3_1).f1)]] (by rfl) rfl rfl mapz ?_
          with_reducible refine (dropperref01_isStretch.calls ((rd_T46 l0 x3_1).f0) ((rd_T46 l0 x3_1).f1) true _ A4.out).mono ?_
          rintro e w14 ⟨rfl, hb⟩
          refine ⟨_, rfl, ?_⟩
          have n0_ := Aside0.mk (below_step bel hb)
          clear HB
          have HB := n0_
          clear n0_
          (try clear hb)
          (try clear hb2)
          (try clear hk)
          (try clear hi)
          refine hK.out _ _ ⟨((HB.out.cell (World.block_lt_of_cell? w _ hw231_0)).trans hw231_0), ((HB.out.cell (World.block_lt_of_cell? w _ hw231_1)).trans hw231_1), ((HB.out.cell (World.block_lt_of_cell? w _ hw233_0)).trans hw233_0), ((HB.out.cell (World.block_lt_of_cell? w _ hw233_1)).trans hw233_1), ((HB.out.cell (World.block_lt_of_cell? w _ hw234_0)).trans hw234_0), ((HB.out.cell (World.block_lt_of_cell? w _ hw234_1)).trans hw234_1)⟩ (fun hHeld => ?_)
          clear hK K
          refine norm_ (a' := ?_) ?_ ?_
          rotate_left
          ·
           show Act.put _ (some 14) _ = _
           simp only [Act.put, List.setIfInBounds_toArray, List.set_cons_zero, List.set_cons_succ, i64_w, i32_w]
           rfl
          refine pst (i := 5) (N := some 15) (bz 24 63) (any_of HT_.out (by kernel_rfl)) ?_
          refine pst (i := 6) (N := some 16) (bz 24 127) (any_of HT_.out (by kernel_rfl)) ?_
          refine pst (i := 7) (N := some 17) (bz 24 255) (any_of HT_.out (by kernel_rfl)) ?_
          refine pst (i := 8) (N := some 18) (bz 24 511) (any_of HT_.out (by kernel_rfl)) ?_
          refine pst (i := 9) (N := some 19) (bz 24 1023) (any_of HT_.out (by kernel_rfl)) ?_
          refine pst (i := 10) (N := some 20) (bz 24 2047) (any_of HT_.out (by kernel_rfl)) ?_
          refine pst (i := 11) (N := some 21) (bz 24 4095) (any_of HT_.out (by kernel_rfl)) ?_
          refine pst (i := 12) (N := some 22) (bz 24 8191) (any_of HT_.out (by kernel_rfl)) ?_
          refine pst (i := 13) (N := some 23) (bz 24 16383) (any_of HT_.out (by kernel_rfl)) ?_
          refine pst (i := 15) (N := some 25) (bz 24 49151) (any_of HT_.out (by kernel_rfl)) ?_
          refine pst (i := 16) (N := some 26) (bz 24 114687) (any_of HT_.out (by kernel_rfl)) ?_
          refine pst (i := 17) (N := some 27) (bz 24 245759) (any_of HT_.out (by kernel_rfl)) ?_
          refine pst (i := 18) (N := some 28) (bz 24 507903) (any_of HT_.out (by kernel_rfl)) ?_
          refine pst (i := 19) (N := some 29) (bz 24 1032191) (any_of HT_.out (by kernel_rfl)) ?_
          refine tst6 (i := 14) (N := some 24) (bz 24 1048575) (take_ofW HT_.out HW_.out (by kernel_rfl)) hHeld ?_
          refine tst6 (i := 20) (N := some 30) (bz 24 2097151) (take_ofW HT_.out HW_.out (by kernel_rfl)) hHeld ?_
          refine pst (i := 21) (N := some 31) (bz 24 4194303) (any_of HT_.out (by kernel_rfl)) ?_
          refine pst (i := 22) (N := some 32) (bz 24 8388607) (any_of HT_.out (by kernel_rfl)) ?_
          refine pst (i := 23) (N := some 33) (bz 24 16777215) (any_of HT_.out (by kernel_rfl)) ?_
          refine done_ (done_of HT_.out (by kernel_rfl)) ?_
          try go_wp2
          go_roundg k1
          case measure => have := HK1.out; omega
          case rel => exact ⟨(wrap64 (x3_1 + 1)), rsz, H', ⟨by have := HK1.out; omega⟩, ⟨bel⟩⟩
        ·
         rw [if_neg c9] at H
         exact absurd H (by simp)
       ·
        rw [if_neg c8] at H
        exact absurd H (by simp)
      ·
       rw [if_neg c6] at H
       have c6b0 : decide (0 < x3_1) = false := decide_eq_false c6
       clear c6
       have H' := Aside0.mk H
       clear H
       try go_wp2
       have n0_ := Aside0.mk (below_drew1 HB.out)
       clear HB
       have HB := n0_
       clear n0_
       have p231 : 0 ≤ (x3_1 : Int) := of_decide_eq_true asz
       have q231 : x3_1 < (l0.length : Int) := of_decide_eq_true asz
       obtain ⟨ad231, e231, hx231_0, hx231_1⟩ := at_T46 HR0.out x3_1 p231 q231
       have hw231_1 := hx231_1
       have hw231_0 := hx231_0
       cases e231
       replace hx231_0 := (HB.out.cell (World.block_lt_of_cell? w _ hx231_0)).trans hx231_0
       replace hx231_1 := (HB.out.cell (World.block_lt_of_cell? w _ hx231_1)).trans hx231_1
       replace p231 := eq_true p231
       replace q231 := eq_true q231
       refine start_ (n := 24) (S := fun w' => w'.cell? (ad231.add ((x3_1).toNat * 2)) = some (.int .i64 ((rd_T46 l0 x3_1).f0)) ∧ w'.cell? ⟨(ad231.add ((x3_1).toNat * 2)).block, (ad231.add ((x3_1).toNat * 2)).off + 1, none⟩ = some (.int .i64 ((rd_T46 l0 x3_1).f1))) (ds := []) #[false, false, false, false, false, false, false, false, false, false, false, false, false, false, false, false, false, false, false, false, false, false, false, false] (by kernel_rfl) rfl rfl ⟨((HB.out.cell (World.block_lt_of_cell? w _ hw231_0)).trans hw231_0), ((HB.out.cell (World.block_lt_of_cell? w _ hw231_1)).trans hw231_1)⟩ (fun hHeld => ?_); refine with_tabW dropperref01_Valid.tab4 dropperref01_Valid.bits4 (fun HT_ HW_ => ?_)
       generalize wr.drew = w15 at HB hx231_0 hx231_1 hHeld ⊢
       refine pst (i := 0) (N := some 10) (bz 24 1) (any_of HT_.out (by kernel_rfl)) ?_
       refine pst (i := 1) (N := some 11) (bz 24 3) (any_of HT_.out (by kernel_rfl)) ?_
       refine pst (i := 2) (N := some 12) (bz 24 7) (any_of HT_.out (by kernel_rfl)) ?_
       refine tst2 (i := 3) (N := some 13) (bz 24 15) (take_ofW HT_.out HW_.out (by kernel_rfl)) hHeld ?_
       refine one_ (i := 4) (N := some 14) #[true, true, true, true, true, false, false, false, false, false, false, false, false, false, false, false, false, false, false, false, false, false, false, false] rfl rfl (one_of HT_.out (by kernel_rfl)) (by decide) (fun K hK => ?_)
       refine goes_ Tryd.func63 (by kernel_rfl) rfl #[.agg #[.int .i64 ((rd_T46 l0 x3_1).f0), .int .i64 ((rd_T46 l0 x3_1).f1)]] (by rfl) rfl rfl mapz ?_
       with_reducible refine (dropperref01_isStretch.calls ((rd_T46 l0 x3_1).f0) ((rd_T46 l0 x3_1).f1) true _ A4.out).mono ?_
       rintro e w16 ⟨rfl, hb⟩
       refine ⟨_, rfl, ?_⟩
       have n0_ := Aside0.mk (below_step bel hb)
       clear HB
       have HB := n0_
       clear n0_
       (try clear hb)
       (try clear hb2)
       (try clear hk)
       (try clear hi)
       refine hK.out _ _ ⟨((HB.out.cell (World.block_lt_of_cell? w _ hw231_0)).trans hw231_0), ((HB.out.cell (World.block_lt_of_cell? w _ hw231_1)).trans hw231_1)⟩ (fun hHeld => ?_)
       clear hK K
       refine norm_ (a' := ?_) ?_ ?_
       rotate_left
       ·
        show Act.put _ (some 14) _ = _
        simp only [Act.put, List.setIfInBounds_toArray, List.set_cons_zero, List.set_cons_succ, i64_w, i32_w]
        rfl
       refine pst (i := 5) (N := some 15) (bz 24 63) (any_of HT_.out (by kernel_rfl)) ?_
       refine pst (i := 6) (N := some 16) (bz 24 127) (any_of HT_.out (by kernel_rfl)) ?_
       refine pst (i := 7) (N := some 17) (bz 24 255) (any_of HT_.out (by kernel_rfl)) ?_
       refine pst (i := 8) (N := some 18) (bz 24 511) (any_of HT_.out (by kernel_rfl)) ?_
       refine pst (i := 9) (N := some 19) (bz 24 1023) (any_of HT_.out (by kernel_rfl)) ?_
       refine pso (i := 10) (N := some 20) (bz 24 2047) (any_of HT_.out (by kernel_rfl)) ?_
       refine pso (i := 11) (N := some 21) (bz 24 4095) (any_of HT_.out (by kernel_rfl)) ?_
       refine pso (i := 12) (N := some 22) (bz 24 8191) (any_of HT_.out (by kernel_rfl)) ?_
       refine pso (i := 13) (N := some 23) (bz 24 16383) (any_of HT_.out (by kernel_rfl)) ?_
       refine pso (i := 14) (N := some 24) (bz 24 32767) (any_of HT_.out (by kernel_rfl)) ?_
       refine pso (i := 15) (N := some 25) (bz 24 65535) (any_of HT_.out (by kernel_rfl)) ?_
       refine pso (i := 16) (N := some 26) (bz 24 131071) (any_of HT_.out (by kernel_rfl)) ?_
       refine pso (i := 17) (N := some 27) (bz 24 262143) (any_of HT_.out (by kernel_rfl)) ?_
       refine pso (i := 18) (N := some 28) (bz 24 524287) (any_of HT_.out (by kernel_rfl)) ?_
       refine pso (i := 19) (N := some 29) (bz 24 1048575) (any_of HT_.out (by kernel_rfl)) ?_
       refine pso (i := 20) (N := some 30) (bz 24 2097151) (any_of HT_.out (by kernel_rfl)) ?_
       refine pso (i := 21) (N := some 31) (bz 24 4194303) (any_of HT_.out (by kernel_rfl)) ?_
       refine pst (i := 22) (N := some 32) (bz 24 8388607) (any_of HT_.out (by kernel_rfl)) ?_
       refine pst (i := 23) (N := some 33) (bz 24 16777215) (any_of HT_.out (by kernel_rfl)) ?_
       refine done_ (done_of HT_.out (by kernel_rfl)) ?_
       try go_wp2
       go_roundg k1
       case measure => have := HK1.out; omega
       case rel => exact ⟨(wrap64 (x3_1 + 1)), rsz, H', ⟨by have := HK1.out; omega⟩, ⟨bel⟩⟩
     ·
      replace c5 := Bool.eq_false_iff.mpr c5
      subst c5
      rw [if_neg (show ¬ (false = true) by decide)] at H
      obtain rfl := Option.some.inj H
      try go_wp2
      have n0_ := Aside0.mk (below_drew1 HB.out)
      clear HB
      have HB := n0_
      clear n0_
      have p231 : 0 ≤ (x3_1 : Int) := of_decide_eq_true asz
      have q231 : x3_1 < (l0.length : Int) := of_decide_eq_true asz
      obtain ⟨ad231, e231, hx231_0, hx231_1⟩ := at_T46 HR0.out x3_1 p231 q231
      have hw231_1 := hx231_1
      have hw231_0 := hx231_0
      cases e231
      replace hx231_0 := (HB.out.cell (World.block_lt_of_cell? w _ hx231_0)).trans hx231_0
      replace hx231_1 := (HB.out.cell (World.block_lt_of_cell? w _ hx231_1)).trans hx231_1
      replace p231 := eq_true p231
      replace q231 := eq_true q231
      refine start_ (n := 24) (S := fun w' => w'.cell? (ad231.add ((x3_1).toNat * 2)) = some (.int .i64 ((rd_T46 l0 x3_1).f0)) ∧ w'.cell? ⟨(ad231.add ((x3_1).toNat * 2)).block, (ad231.add ((x3_1).toNat * 2)).off + 1, none⟩ = some (.int .i64 ((rd_T46 l0 x3_1).f1))) (ds := []) #[false, false, false, false, false, false, false, false, false, false, false, false, false, false, false, false, false, false, false, false, false, false, false, false] (by kernel_rfl) rfl rfl ⟨((HB.out.cell (World.block_lt_of_cell? w _ hw231_0)).trans hw231_0), ((HB.out.cell (World.block_lt_of_cell? w _ hw231_1)).trans hw231_1)⟩ (fun hHeld => ?_); refine with_tabW dropperref01_Valid.tab4 dropperref01_Valid.bits4 (fun HT_ HW_ => ?_)
      generalize wr.drew = w17 at HB hx231_0 hx231_1 hHeld ⊢
      refine pst (i := 0) (N := some 10) (bz 24 1) (any_of HT_.out (by kernel_rfl)) ?_
      refine pst (i := 1) (N := some 11) (bz 24 3) (any_of HT_.out (by kernel_rfl)) ?_
      refine pst (i := 2) (N := some 12) (bz 24 7) (any_of HT_.out (by kernel_rfl)) ?_
      refine tst2 (i := 3) (N := some 13) (bz 24 15) (take_ofW HT_.out HW_.out (by kernel_rfl)) hHeld ?_
      refine one_ (i := 4) (N := some 14) #[true, true, true, true, true, false, false, false, false, false, false, false, false, false, false, false, false, false, false, false, false, false, false, false] rfl rfl (one_of HT_.out (by kernel_rfl)) (by decide) (fun K hK => ?_)
      refine goes_ Tryd.func63 (by kernel_rfl) rfl #[.agg #[.int .i64 ((rd_T46 l0 x3_1).f0), .int .i64 ((rd_T46 l0 x3_1).f1)]] (by rfl) rfl rfl mapz ?_
      with_reducible refine (dropperref01_isStretch.calls ((rd_T46 l0 x3_1).f0) ((rd_T46 l0 x3_1).f1) false _ A4.out).mono ?_
      rintro e w18 ⟨rfl, hb⟩
      refine ⟨_, rfl, ?_⟩
      have n0_ := Aside0.mk (below_step bel hb)
      clear HB
      have HB := n0_
      clear n0_
      (try clear hb)
      (try clear hb2)
      (try clear hk)
      (try clear hi)
      refine hK.out _ _ ⟨((HB.out.cell (World.block_lt_of_cell? w _ hw231_0)).trans hw231_0), ((HB.out.cell (World.block_lt_of_cell? w _ hw231_1)).trans hw231_1)⟩ (fun hHeld => ?_)
      clear hK K
      refine norm_ (a' := ?_) ?_ ?_
      rotate_left
      ·
       show Act.put _ (some 14) _ = _
       simp only [Act.put, List.setIfInBounds_toArray, List.set_cons_zero, List.set_cons_succ, i64_w, i32_w]
       rfl
      refine pst (i := 5) (N := some 15) (bz 24 63) (any_of HT_.out (by kernel_rfl)) ?_
      refine pst (i := 6) (N := some 16) (bz 24 127) (any_of HT_.out (by kernel_rfl)) ?_
      refine pso (i := 7) (N := some 17) (bz 24 255) (any_of HT_.out (by kernel_rfl)) ?_
      refine pso (i := 8) (N := some 18) (bz 24 511) (any_of HT_.out (by kernel_rfl)) ?_
      refine pso (i := 9) (N := some 19) (bz 24 1023) (any_of HT_.out (by kernel_rfl)) ?_
      refine pso (i := 10) (N := some 20) (bz 24 2047) (any_of HT_.out (by kernel_rfl)) ?_
      refine pso (i := 11) (N := some 21) (bz 24 4095) (any_of HT_.out (by kernel_rfl)) ?_
      refine pso (i := 12) (N := some 22) (bz 24 8191) (any_of HT_.out (by kernel_rfl)) ?_
      refine pso (i := 13) (N := some 23) (bz 24 16383) (any_of HT_.out (by kernel_rfl)) ?_
      refine pso (i := 14) (N := some 24) (bz 24 32767) (any_of HT_.out (by kernel_rfl)) ?_
      refine pso (i := 15) (N := some 25) (bz 24 65535) (any_of HT_.out (by kernel_rfl)) ?_
      refine pso (i := 16) (N := some 26) (bz 24 131071) (any_of HT_.out (by kernel_rfl)) ?_
      refine pso (i := 17) (N := some 27) (bz 24 262143) (any_of HT_.out (by kernel_rfl)) ?_
      refine pso (i := 18) (N := some 28) (bz 24 524287) (any_of HT_.out (by kernel_rfl)) ?_
      refine pso (i := 19) (N := some 29) (bz 24 1048575) (any_of HT_.out (by kernel_rfl)) ?_
      refine pso (i := 20) (N := some 30) (bz 24 2097151) (any_of HT_.out (by kernel_rfl)) ?_
      refine pso (i := 21) (N := some 31) (bz 24 4194303) (any_of HT_.out (by kernel_rfl)) ?_
      refine pso (i := 22) (N := some 32) (bz 24 8388607) (any_of HT_.out (by kernel_rfl)) ?_
      refine pst (i := 23) (N := some 33) (bz 24 16777215) (any_of HT_.out (by kernel_rfl)) ?_
      refine done_ (done_of HT_.out (by kernel_rfl)) ?_
      try go_wp2
      go_ret
      exact ⟨ezz, bel⟩
    ·
     rw [if_neg c3] at H
     exact absurd H (by simp)
   ·
    rw [if_neg c2] at H
    have c2b0 : decide (x3_1 < (l0.length : Int)) = false := decide_eq_false c2
    clear c2
    obtain rfl := Option.some.inj H
    go_wp2
    go_ret
    exact ⟨ezz, bel⟩

end Go.Proofs.YtcmdcgghpkcchaaDoor.XMast