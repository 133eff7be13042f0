-- Written by wip/pack.py of this repo: texts of this claim, put together.
import Derived.Test.YtcmdcgghpkcchaaDoorRows
import Derived.Test.YtcmdcgghpkcchaaDoorTie
import Derived.Test.YtcmdcgghpkcchaaDoorCards
import Derived.SevenTiedAt
import Derived.LaidMore
import Derived.Stop.Joined
import Derived.WalkKit
import Derived.ProofKit
import Derived.OpenShut
import Derived.ShutString
import Derived.ChangeOld
import Derived.Below
import Derived.SizedLaws
import Derived.Test.YtcmdcgghpkcchaaDoorKMastf
namespace Go.Proofs.YtcmdcgghpkcchaaDoor.XMast
open Go.RowKit Go.Proofs.YtcmdcgghpkcchaaDoorW.PrintWords Go.Proofs.YtcmdcgghpkcchaaDoorW.PrintLast Go.Proofs.YtcmdcgghpkcchaaDoorW.PrintMore
attribute [local go_sem] max2_int min2_int max_two min_two max_three min_three max_four min_four   -- for this text's walks alone
set_option linter.unusedVariables false
set_option linter.unusedSimpArgs false
/-! ### dropperlaw01_MastOften: function 8 -/
mutual
def dropperlaw01_MastOften.j0 : Nat → List (S46) → Int → Int → List (S46) → Bool → Option (Bool)
 | 0, _, _, _, _, _ => none
 | k + 1, x0, x3, x4, x6, x54 => if x54 = true then (none) else (dropperlaw01_MastOften.l0 k x0 x3 x4 x6 0 1)
def dropperlaw01_MastOften.l0 : Nat → List (S46) → Int → Int → List (S46) → Int → Int → Option (Bool)
 | 0, _, _, _, _, _, _ => none
 | k + 1, x0, x3, x4, x6, x7, x8 => if x8 ≤ (wrap64 (x4 + 1)) then ((mast_Often.f x0 x8).bind fun bt439 => ((mast_Length.f k bt439.1).bind fun bt443 => (if bt439.2 = 0 then (if bt443.2 = 0 then (if x8 = 1 then ((dropperlaw01_Same.f k bt439.1 x6).bind fun t445 => (if t445 = true then (if x8 = (wrap64 (x4 + 1)) then (dropperlaw01_MastOften.j2 k x0 x3 x4 x6 x7 x8 bt439.1 bt443.1 (bt443.1 != 0)) else (dropperlaw01_MastOften.j2 k x0 x3 x4 x6 x7 x8 bt439.1 bt443.1 false)) else (dropperlaw01_MastOften.j2 k x0 x3 x4 x6 x7 x8 bt439.1 bt443.1 true))) else (if x8 = (wrap64 (x4 + 1)) then (dropperlaw01_MastOften.j2 k x0 x3 x4 x6 x7 x8 bt439.1 bt443.1 (bt443.1 != 0)) else (dropperlaw01_MastOften.j2 k x0 x3 x4 x6 x7 x8 bt439.1 bt443.1 false))) else (dropperlaw01_MastOften.j2 k x0 x3 x4 x6 x7 x8 bt439.1 bt443.1 true)) else (dropperlaw01_MastOften.j2 k x0 x3 x4 x6 x7 x8 bt439.1 bt443.1 true)))) else ((dropperref01_Sum.f k x0).bind fun t437 => (if x7 = t437 then ((dropperlaw01_First.f k).bind fun t438 => (some t438)) else (none)))
def dropperlaw01_MastOften.j2 : Nat → List (S46) → Int → Int → List (S46) → Int → Int → List (S46) → Int → Bool → Option (Bool)
 | 0, _, _, _, _, _, _, _, _, _ => none
 | k + 1, x0, x3, x4, x6, x7, x8, x9, x11, x97 => if x97 = true then (none) else ((mast_Has.f k x9 x3).bind fun bt446 => (if bt446.2 = 0 then (if x8 ≤ x4 then (if bt446.1 = true then (dropperlaw01_MastOften.l0 k x0 x3 x4 x6 (wrap64 (x7 + x11)) (wrap64 (x8 + 1))) else (none)) else (dropperlaw01_MastOften.l0 k x0 x3 x4 x6 (wrap64 (x7 + x11)) (wrap64 (x8 + 1)))) else (none)))
end
def dropperlaw01_MastOften.f (k : Nat) (l0 : List (S46)) : Option (Bool) := if (l0.length : Int) > 30 then ((dropperlaw01_First.f k).bind fun t428 => (some t428)) else ((mast_Deepest.f l0).bind fun bt429 => (if bt429.2.2 = 0 then ((mast_Clean.f l0).bind fun bt433 => (if bt433.2 = 0 then (if bt429.2.1 < 0 then (dropperlaw01_MastOften.j0 k l0 bt429.1 bt429.2.1 bt433.1 true) else (if bt429.2.1 > (l0.length : Int) then (dropperlaw01_MastOften.j0 k l0 bt429.1 bt429.2.1 bt433.1 true) else (dropperlaw01_MastOften.j0 k l0 bt429.1 bt429.2.1 bt433.1 ((bt429.2.1 == 0) != ((l0.length : Int) == 0))))) else (none))) else (if bt429.2.2 = 2 then ((dropperlaw01_First.f k).bind fun t432 => (some t432)) else (none))))
set_option maxHeartbeats 8000000 in
set_option maxRecDepth 100000 in
theorem dropperlaw01_MastOften.calls (k : Nat) (A0 : Option Addr) (c0 : Nat) (l0 : List (S46)) (r : Bool) (w : World) (hr0 : Kd.C k46 w A0 l0.length l0) (hc0 : l0.length ≤ c0) (hT : Tab.Tabs w) (h : dropperlaw01_MastOften.f k l0 = some r) :
  Calls Tryd.prog 8 #[.slice A0 l0.length c0] w fun e w' => e = .returned (.bool r) ∧ Below w.heap.size w w' := by
 have HT := Aside0.mk hT
 clear hT
 have HR0 := Aside0.mk hr0
 have HC0 := Aside0.mk hc0
 clear hr0 hc0
 have HB := Aside0.mk (Below.refl w.heap.size w)
 have H : (if (l0.length : Int) > 30 then ((dropperlaw01_First.f k).bind fun t428 => (some t428)) else ((mast_Deepest.f l0).bind fun bt429 => (if bt429.2.2 = 0 then ((mast_Clean.f l0).bind fun bt433 => (if bt433.2 = 0 then (if bt429.2.1 < 0 then (dropperlaw01_MastOften.j0 k l0 bt429.1 bt429.2.1 bt433.1 true) else (if bt429.2.1 > (l0.length : Int) then (dropperlaw01_MastOften.j0 k l0 bt429.1 bt429.2.1 bt433.1 true) else (dropperlaw01_MastOften.j0 k l0 bt429.1 bt429.2.1 bt433.1 ((bt429.2.1 == 0) != ((l0.length : Int) == 0))))) else (none))) else (if bt429.2.2 = 2 then ((dropperlaw01_First.f k).bind fun t432 => (some t432)) else (none))))) = some r := h
 clear h
 by_cases c2 : (l0.length : Int) > 30
 ·
  rw [if_pos c2] at H
  have c2b0 : decide (30 < (l0.length : Int)) = true := decide_eq_true c2
  have c2b1 : decide (30 < l0.length) = true := decide_eq_true (by omega)
  clear c2
  replace H := Option.bind_eq_some_iff.mp H
  obtain ⟨t428, A30, H⟩ := H
  try dsimp only at H
  have A3 := Aside0.mk A30
  clear A30
  obtain rfl := Option.some.inj H
  go_enter Tryd.func8, Tryd.ntmps8
  go_wp2_with (first | ((with_reducible refine gate_callee (f := 11) rfl ?_); refine goesL_ (some 18) rfl rfl Tryd.func11 (by kernel_rfl) rfl #[] rfl mapz ?_; (with_reducible refine (dropperlaw01_First.calls k  t428 _ (tbz HT) A3.out).mono ?_); rintro e w4 ⟨rfl, hb⟩; refine ⟨_, rfl, ?_⟩; replace HB := Aside0.mk (below_step bel hb); clear hb))
  go_ret
  exact ⟨ezz, bel⟩
 ·
  rw [if_neg c2] at H
  have c2b0 : decide (30 < (l0.length : Int)) = false := decide_eq_false c2
  have c2b1 : decide (30 < l0.length) = false := decide_eq_false (by omega)
  clear c2
  replace H := Option.bind_eq_some_iff.mp H
  obtain ⟨⟨t429, t430, t431⟩, A50, H⟩ := H
  try dsimp only at H
  have A5 := Aside0.mk A50
  clear A50
  by_cases c6 : t431 = 0
  ·
   rw [if_pos c6] at H
   have c6b0 : (t431 == 0) = true := beq_iff_eq.mpr c6
   have c6b1 : (t431 != 0) = false := bne_eq_false_iff_eq.mpr c6
   clear c6
   replace H := Option.bind_eq_some_iff.mp H
   obtain ⟨⟨t433, t434⟩, A70, H⟩ := H
   try dsimp only at H
   have A7 := Aside0.mk A70
   clear A70
   by_cases c8 : t434 = 0
   ·
    rw [if_pos c8] at H
    have c8b0 : (t434 == 0) = true := beq_iff_eq.mpr c8
    have c8b1 : (t434 != 0) = false := bne_eq_false_iff_eq.mpr c8
    clear c8
    have HC9 := Aside0.mk H
    clear H
    go_enter Tryd.func8, Tryd.ntmps8
    go_upto_region 9 with (first | ((with_reducible refine gate_callee (f := 17) rfl ?_); refine goesL_ (some 21) rfl rfl Tryd.func17 (by kernel_rfl) rfl #[.slice A0 l0.length c0] rfl mapz ?_; (with_reducible refine (mast_Deepest.calls _ _ l0 t429 t430 t431 _ ?side1 HC0.out A5.out).mono ?_); (case side1 => repeat (first | exact HR0.out | (with_reducible refine Kd.C_alloc ?_ _) | (with_reducible refine Kd.C_drewN ?_ _) | (with_reducible refine Kd.C_drew ?_))); rintro e w10 ⟨rfl, hb⟩; refine ⟨_, rfl, ?_⟩; replace HB := Aside0.mk (below_step bel hb); clear hb) | ((with_reducible refine gate_callee (f := 12) rfl ?_); refine goesL_ (some 34) rfl rfl Tryd.func12 (by kernel_rfl) rfl #[.slice A0 l0.length c0] rfl mapz ?_; (with_reducible refine (mast_Clean.calls _ _ l0 t433 t434 _ (cbz HR0) HC0.out A7.out).mono ?_); rintro e w11 ⟨v435, rfl, ho0, hb⟩; refine ⟨_, rfl, ?_⟩; have HO436 := Aside0.mk (Kd.R_lower ho0 (below_size bel)); replace HB := Aside0.mk (below_step bel hb); (try clear hb); (try clear hb2); (try clear hk); (try clear hi); (try clear ho0)))
    (try simp only [Act.put, List.setIfInBounds_toArray, List.set_cons_zero, List.set_cons_succ])
    go_cut [54] (fun v54 wc => ∃ (kq : Nat) (x54_8 : Bool), v54 = .bool x54_8 ∧ Aside0 (dropperlaw01_MastOften.j0 kq l0 t429 t430 t433 x54_8 = some r) ∧ Aside0 (kq ≤ k) ∧ Aside0 (Kd.R k46 46 wc w.heap.size (fun _ => True) v435 t433) ∧ Aside0 (Below w.heap.size w wc))
    case first =>
     have H := HC9.out
     clear HC9
     by_cases c12 : t430 < 0
     ·
      rw [if_pos c12] at H
      have c12b0 : decide (t430 < 0) = true := decide_eq_true c12
      clear c12
      (first | rw [c12b0] | (simp only [i64_w, i32_w]; rw [c12b0]) | skip)
      have H' := Aside0.mk H
      clear H
      go_wp2
      go_meet
      case rel => exact ⟨_, (true), rsz, H', ⟨by first | omega | exact Nat.le_refl _⟩, ⟨by (with_reducible repeat (first | apply Kd.R_alloc | apply Kd.R_drewN | apply Kd.R_drew)); exact HO436.out⟩, ⟨bel⟩⟩
     ·
      rw [if_neg c12] at H
      have c12b0 : decide (t430 < 0) = false := decide_eq_false c12
      clear c12
      (first | rw [c12b0] | (simp only [i64_w, i32_w]; rw [c12b0]) | skip)
      by_cases c13 : t430 > (l0.length : Int)
      ·
       rw [if_pos c13] at H
       have c13b0 : decide ((l0.length : Int) < t430) = true := decide_eq_true c13
       clear c13
       have H' := Aside0.mk H
       clear H
       go_wp2
       go_meet
       case rel => exact ⟨_, (true), rsz, H', ⟨by first | omega | exact Nat.le_refl _⟩, ⟨by (with_reducible repeat (first | apply Kd.R_alloc | apply Kd.R_drewN | apply Kd.R_drew)); exact HO436.out⟩, ⟨bel⟩⟩
      ·
       rw [if_neg c13] at H
       have c13b0 : decide ((l0.length : Int) < t430) = false := decide_eq_false c13
       clear c13
       have H' := Aside0.mk H
       clear H
       go_wp2
       go_meet
       case rel => exact ⟨_, (((t430 == 0) != ((l0.length : Int) == 0))), rsz, H', ⟨by first | omega | exact Nat.le_refl _⟩, ⟨by (with_reducible repeat (first | apply Kd.R_alloc | apply Kd.R_drewN | apply Kd.R_drew)); exact HO436.out⟩, ⟨bel⟩⟩
    case rest =>
     clear HC9
     (try clear c1); (try clear c2); (try clear c2b0); (try clear c2b1); (try clear p2); (try clear c6); (try clear c6b0); (try clear c6b1); (try clear c8); (try clear c8b0); (try clear c8b1); (try clear c11); (try clear c12); (try clear c12b0); (try clear c13); (try clear c13b0)
     obtain ⟨kq, x54_8, rfl, HA, HJ8, HO_6, HB⟩ := hcut
     cases kq with
     | zero => exact absurd HA.out (by simp [dropperlaw01_MastOften.j0])
     | succ kj8 =>
      have H := HA.out
      clear HA
      simp only [dropperlaw01_MastOften.j0] at H
      by_cases c14 : x54_8 = true
      ·
       subst c14
       rw [if_pos rfl] at H
       exact absurd H (by simp)
      ·
       replace c14 := Bool.eq_false_iff.mpr c14
       subst c14
       rw [if_neg (show ¬ (false = true) by decide)] at H
       have H' := Aside0.mk H
       clear H
       go_wp2
       go_loopg [7, 8] kj8 (fun kq v7 v8 w' => ∃ (x7_2 : Int) (x8_2 : Int), v7 = .int .i64 x7_2 ∧ v8 = .int .i64 x8_2 ∧ Aside0 (dropperlaw01_MastOften.l0 kq l0 t429 t430 t433 x7_2 x8_2 = some r) ∧ Aside0 (kq ≤ kj8) ∧ Aside0 (Kd.R k46 46 w' w.heap.size (fun _ => True) v435 t433) ∧ Aside0 (Below w.heap.size w w'))
       case atStart => exact ⟨(0), (1), rsz, rsz, H', ⟨Nat.le_refl _⟩, ⟨by (with_reducible repeat (first | apply Kd.R_alloc | apply Kd.R_drewN | apply Kd.R_drew)); exact HO_6.out⟩, ⟨bel⟩⟩
       case round =>
        clear H'
        (try clear c1); (try clear c2); (try clear c2b0); (try clear c2b1); (try clear p2); (try clear c6); (try clear c6b0); (try clear c6b1); (try clear c8); (try clear c8b0); (try clear c8b1); (try clear c11); (try clear c12); (try clear c12b0); (try clear c13); (try clear c13b0); (try clear c14); (try clear p2)
        obtain ⟨x7_2, x8_2, rfl, rfl, HA, HK2, HO_6, HB⟩ := hrel
        cases gk with
        | zero => exact absurd HA.out (by simp [dropperlaw01_MastOften.l0])
        | succ k2 =>
         have H := HA.out
         clear HA
         simp only [dropperlaw01_MastOften.l0] at H
         by_cases c15 : x8_2 ≤ (wrap64 (t430 + 1))
         ·
          rw [if_pos c15] at H
          have c15b0 : decide (x8_2 ≤ (wrap64 (t430 + 1))) = true := decide_eq_true c15
          clear c15
          replace H := Option.bind_eq_some_iff.mp H
          obtain ⟨⟨t439, t440⟩, A160, H⟩ := H
          try dsimp only at H
          have A16 := Aside0.mk A160
          clear A160
          replace H := Option.bind_eq_some_iff.mp H
          obtain ⟨⟨t443, t444⟩, A170, H⟩ := H
          try dsimp only at H
          have A17 := Aside0.mk A170
          clear A170
          have HC18 := Aside0.mk H
          clear H
          go_upto_region 17 with (first | ((with_reducible refine gate_callee (f := 14) rfl ?_); refine goesL_ (some 64) rfl rfl Tryd.func14 (by kernel_rfl) rfl #[.slice A0 l0.length c0, .int .i64 x8_2] rfl mapz ?_; (with_reducible refine (mast_Often.calls _ _ l0 x8_2 t439 t440 _ (cbz HR0) HC0.out A16.out).mono ?_); rintro e w19 ⟨v441, rfl, ho0, hb⟩; refine ⟨_, rfl, ?_⟩; have HO442 := Aside0.mk (Kd.R_lower (Kd.R_new' ho0 (Kd.R_lt (ownx HO_6))) (below_size bel)); replace HO_6 := Aside0.mk (Kd.R_elder' (ownx HO_6) (Kd.R_base ho0) hb); replace HB := Aside0.mk (below_step bel hb); (try clear hb); (try clear hb2); (try clear hk); (try clear hi); (try clear ho0); obtain ⟨Ao20, co20, eo20⟩ := Kd.R_slice HO442.out; subst eo20) | ((with_reducible refine gate_callee (f := 19) rfl ?_); refine goesL_ (some 69) rfl rfl Tryd.func19 (by kernel_rfl) rfl #[.slice Ao20 t439.length co20] rfl mapz ?_; (with_reducible refine (mast_Length.calls k2 _ _ t439 t443 t444 _ ?side1 ?side2 A17.out).mono ?_); (case side1 => repeat (first | exact (Kd.R_reads' HO442.out).2.2 | (with_reducible refine Kd.C_alloc ?_ _) | (with_reducible refine Kd.C_drewN ?_ _) | (with_reducible refine Kd.C_drew ?_))); (case side2 => exact (Kd.R_reads' HO442.out).2.1); rintro e w21 ⟨rfl, hb⟩; refine ⟨_, rfl, ?_⟩; replace HO_6 := Aside0.mk (Kd.R_below (ownx HO_6) hb); replace HO442 := Aside0.mk (Kd.R_below (ownx HO442) hb); replace HB := Aside0.mk (below_step bel hb); clear hb))
          (try simp only [Act.put, List.setIfInBounds_toArray, List.set_cons_zero, List.set_cons_succ])
          go_cut [97] (fun v97 wc => ∃ (kq : Nat) (x97_17 : Bool), v97 = .bool x97_17 ∧ Aside0 (dropperlaw01_MastOften.j2 kq l0 t429 t430 t433 x7_2 x8_2 t439 t443 x97_17 = some r) ∧ Aside0 (kq ≤ k2) ∧ Aside0 (Kd.R k46 46 wc w.heap.size (fun k_ => some k_ ≠ ((.slice Ao20 t439.length co20) : Value).ownBlock) v435 t433) ∧ Aside0 (Kd.R k46 46 wc w.heap.size (fun k_ => some k_ ≠ (v435 : Value).ownBlock) (.slice Ao20 t439.length co20) t439) ∧ Aside0 (Below w.heap.size w wc))
          case first =>
           have H := HC18.out
           clear HC18
           by_cases c22 : t440 = 0
           ·
            rw [if_pos c22] at H
            have c22b0 : (t440 == 0) = true := beq_iff_eq.mpr c22
            have c22b1 : (t440 != 0) = false := bne_eq_false_iff_eq.mpr c22
            clear c22
            (first | rw [c22b0] | (simp only [i64_w, i32_w]; rw [c22b0]) | skip)
            by_cases c23 : t444 = 0
            ·
             rw [if_pos c23] at H
             have c23b0 : (t444 == 0) = true := beq_iff_eq.mpr c23
             have c23b1 : (t444 != 0) = false := bne_eq_false_iff_eq.mpr c23
             clear c23
             by_cases c24 : x8_2 = 1
             ·
              rw [if_pos c24] at H
              have c24b0 : (x8_2 == 1) = true := beq_iff_eq.mpr c24
              have c24b1 : (x8_2 != 1) = false := bne_eq_false_iff_eq.mpr c24
              clear c24
              replace H := Option.bind_eq_some_iff.mp H
              obtain ⟨t445, A250, H⟩ := H
              try dsimp only at H
              have A25 := Aside0.mk A250
              clear A250
              by_cases c26 : t445 = true
              ·
               subst c26
               rw [if_pos rfl] at H
               by_cases c27 : x8_2 = (wrap64 (t430 + 1))
               ·
                rw [if_pos c27] at H
                have c27b0 : (x8_2 == (wrap64 (t430 + 1))) = true := beq_iff_eq.mpr c27
                have c27b1 : (x8_2 != (wrap64 (t430 + 1))) = false := bne_eq_false_iff_eq.mpr c27
                clear c27
                have H' := Aside0.mk H
                clear H
                obtain ⟨Ao28, co28, eo28⟩ := Kd.R_slice HO_6.out
                subst eo28
                go_wp2_with (first | (go_at_call 16; (with_reducible refine (dropperlaw01_Same.calls k2 _ _ t439 _ _ t433 true _ ?side1 ?side2 ?side3 ?side4 A25.out).mono ?_); (case side1 => repeat (first | exact (Kd.R_reads' HO442.out).2.2 | (with_reducible refine Kd.C_alloc ?_ _) | (with_reducible refine Kd.C_drewN ?_ _) | (with_reducible refine Kd.C_drew ?_))); (case side2 => exact (Kd.R_reads' HO442.out).2.1); (case side3 => repeat (first | exact (Kd.R_reads' HO_6.out).2.2 | (with_reducible refine Kd.C_alloc ?_ _) | (with_reducible refine Kd.C_drewN ?_ _) | (with_reducible refine Kd.C_drew ?_))); (case side4 => exact (Kd.R_reads' HO_6.out).2.1); rintro e w' ⟨rfl, ⟨nd, rfl⟩⟩))
                go_meet
                case rel => exact ⟨_, ((t443 != 0)), rsz, H', ⟨by have := HJ8.out; have := HK2.out; first | omega | exact Nat.le_refl _⟩, ⟨by (with_reducible repeat (first | apply Kd.R_alloc | apply Kd.R_drewN | apply Kd.R_drew)); exact Kd.R_mono HO_6.out (fun _ hk => hk.2)⟩, ⟨by (with_reducible repeat (first | apply Kd.R_alloc | apply Kd.R_drewN | apply Kd.R_drew)); exact Kd.R_mono HO442.out (fun _ hk => hk.2)⟩, ⟨bel⟩⟩
               ·
                rw [if_neg c27] at H
                have c27b0 : (x8_2 == (wrap64 (t430 + 1))) = false := beq_eq_false_iff_ne.mpr c27
                have c27b1 : (x8_2 != (wrap64 (t430 + 1))) = true := bne_iff_ne.mpr c27
                have H' := Aside0.mk H
                clear H
                obtain ⟨Ao29, co29, eo29⟩ := Kd.R_slice HO_6.out
                subst eo29
                go_wp2_with (first | (go_at_call 16; (with_reducible refine (dropperlaw01_Same.calls k2 _ _ t439 _ _ t433 true _ ?side1 ?side2 ?side3 ?side4 A25.out).mono ?_); (case side1 => repeat (first | exact (Kd.R_reads' HO442.out).2.2 | (with_reducible refine Kd.C_alloc ?_ _) | (with_reducible refine Kd.C_drewN ?_ _) | (with_reducible refine Kd.C_drew ?_))); (case side2 => exact (Kd.R_reads' HO442.out).2.1); (case side3 => repeat (first | exact (Kd.R_reads' HO_6.out).2.2 | (with_reducible refine Kd.C_alloc ?_ _) | (with_reducible refine Kd.C_drewN ?_ _) | (with_reducible refine Kd.C_drew ?_))); (case side4 => exact (Kd.R_reads' HO_6.out).2.1); rintro e w' ⟨rfl, ⟨nd, rfl⟩⟩))
                go_meet
                case rel => exact ⟨_, (false), rsz, H', ⟨by have := HJ8.out; have := HK2.out; first | omega | exact Nat.le_refl _⟩, ⟨by (with_reducible repeat (first | apply Kd.R_alloc | apply Kd.R_drewN | apply Kd.R_drew)); exact Kd.R_mono HO_6.out (fun _ hk => hk.2)⟩, ⟨by (with_reducible repeat (first | apply Kd.R_alloc | apply Kd.R_drewN | apply Kd.R_drew)); exact Kd.R_mono HO442.out (fun _ hk => hk.2)⟩, ⟨bel⟩⟩
              ·
               replace c26 := Bool.eq_false_iff.mpr c26
               subst c26
               rw [if_neg (show ¬ (false = true) by decide)] at H
               have H' := Aside0.mk H
               clear H
               obtain ⟨Ao30, co30, eo30⟩ := Kd.R_slice HO_6.out
               subst eo30
               go_wp2_with (first | (go_at_call 16; (with_reducible refine (dropperlaw01_Same.calls k2 _ _ t439 _ _ t433 false _ ?side1 ?side2 ?side3 ?side4 A25.out).mono ?_); (case side1 => repeat (first | exact (Kd.R_reads' HO442.out).2.2 | (with_reducible refine Kd.C_alloc ?_ _) | (with_reducible refine Kd.C_drewN ?_ _) | (with_reducible refine Kd.C_drew ?_))); (case side2 => exact (Kd.R_reads' HO442.out).2.1); (case side3 => repeat (first | exact (Kd.R_reads' HO_6.out).2.2 | (with_reducible refine Kd.C_alloc ?_ _) | (with_reducible refine Kd.C_drewN ?_ _) | (with_reducible refine Kd.C_drew ?_))); (case side4 => exact (Kd.R_reads' HO_6.out).2.1); rintro e w' ⟨rfl, ⟨nd, rfl⟩⟩))
               go_meet
               case rel => exact ⟨_, (true), rsz, H', ⟨by have := HJ8.out; have := HK2.out; first | omega | exact Nat.le_refl _⟩, ⟨by (with_reducible repeat (first | apply Kd.R_alloc | apply Kd.R_drewN | apply Kd.R_drew)); exact Kd.R_mono HO_6.out (fun _ hk => hk.2)⟩, ⟨by (with_reducible repeat (first | apply Kd.R_alloc | apply Kd.R_drewN | apply Kd.R_drew)); exact Kd.R_mono HO442.out (fun _ hk => hk.2)⟩, ⟨bel⟩⟩
             ·
              rw [if_neg c24] at H
              have c24b0 : (x8_2 == 1) = false := beq_eq_false_iff_ne.mpr c24
              have c24b1 : (x8_2 != 1) = true := bne_iff_ne.mpr c24
              by_cases c31 : x8_2 = (wrap64 (t430 + 1))
              ·
               rw [if_pos c31] at H
               have c31b0 : (x8_2 == (wrap64 (t430 + 1))) = true := beq_iff_eq.mpr c31
               have c31b1 : (x8_2 != (wrap64 (t430 + 1))) = false := bne_eq_false_iff_eq.mpr c31
               clear c31
               have H' := Aside0.mk H
               clear H
               go_wp2
               go_meet
               case rel => exact ⟨_, ((t443 != 0)), rsz, H', ⟨by have := HJ8.out; have := HK2.out; first | omega | exact Nat.le_refl _⟩, ⟨by (with_reducible repeat (first | apply Kd.R_alloc | apply Kd.R_drewN | apply Kd.R_drew)); exact Kd.R_mono HO_6.out (fun _ hk => hk.2)⟩, ⟨by (with_reducible repeat (first | apply Kd.R_alloc | apply Kd.R_drewN | apply Kd.R_drew)); exact Kd.R_mono HO442.out (fun _ hk => hk.2)⟩, ⟨bel⟩⟩
              ·
               rw [if_neg c31] at H
               have c31b0 : (x8_2 == (wrap64 (t430 + 1))) = false := beq_eq_false_iff_ne.mpr c31
               have c31b1 : (x8_2 != (wrap64 (t430 + 1))) = true := bne_iff_ne.mpr c31
               have H' := Aside0.mk H
               clear H
               go_wp2
               go_meet
               case rel => exact ⟨_, (false), rsz, H', ⟨by have := HJ8.out; have := HK2.out; first | omega | exact Nat.le_refl _⟩, ⟨by (with_reducible repeat (first | apply Kd.R_alloc | apply Kd.R_drewN | apply Kd.R_drew)); exact Kd.R_mono HO_6.out (fun _ hk => hk.2)⟩, ⟨by (with_reducible repeat (first | apply Kd.R_alloc | apply Kd.R_drewN | apply Kd.R_drew)); exact Kd.R_mono HO442.out (fun _ hk => hk.2)⟩, ⟨bel⟩⟩
            ·
             rw [if_neg c23] at H
             have c23b0 : (t444 == 0) = false := beq_eq_false_iff_ne.mpr c23
             have c23b1 : (t444 != 0) = true := bne_iff_ne.mpr c23
             have H' := Aside0.mk H
             clear H
             go_wp2
             go_meet
             case rel => exact ⟨_, (true), rsz, H', ⟨by have := HJ8.out; have := HK2.out; first | omega | exact Nat.le_refl _⟩, ⟨by (with_reducible repeat (first | apply Kd.R_alloc | apply Kd.R_drewN | apply Kd.R_drew)); exact Kd.R_mono HO_6.out (fun _ hk => hk.2)⟩, ⟨by (with_reducible repeat (first | apply Kd.R_alloc | apply Kd.R_drewN | apply Kd.R_drew)); exact Kd.R_mono HO442.out (fun _ hk => hk.2)⟩, ⟨bel⟩⟩
           ·
            rw [if_neg c22] at H
            have c22b0 : (t440 == 0) = false := beq_eq_false_iff_ne.mpr c22
            have c22b1 : (t440 != 0) = true := bne_iff_ne.mpr c22
            (first | rw [c22b0] | (simp only [i64_w, i32_w]; rw [c22b0]) | skip)
            have H' := Aside0.mk H
            clear H
            go_wp2
            go_meet
            case rel => exact ⟨_, (true), rsz, H', ⟨by have := HJ8.out; have := HK2.out; first | omega | exact Nat.le_refl _⟩, ⟨by (with_reducible repeat (first | apply Kd.R_alloc | apply Kd.R_drewN | apply Kd.R_drew)); exact Kd.R_mono HO_6.out (fun _ hk => hk.2)⟩, ⟨by (with_reducible repeat (first | apply Kd.R_alloc | apply Kd.R_drewN | apply Kd.R_drew)); exact Kd.R_mono HO442.out (fun _ hk => hk.2)⟩, ⟨bel⟩⟩
          case rest =>
           clear HC18
           (try clear c1); (try clear c2); (try clear c2b0); (try clear c2b1); (try clear p2); (try clear c3); (try clear c6); (try clear c6b0); (try clear c6b1); (try clear p6); (try clear c8); (try clear c8b0); (try clear c8b1); (try clear c11); (try clear c12); (try clear c12b0); (try clear c13); (try clear c13b0); (try clear c14); (try clear c15); (try clear c15b0); (try clear c17); (try clear c19); (try clear c22); (try clear c22b0); (try clear c22b1); (try clear c23); (try clear c23b0); (try clear c23b1); (try clear c24); (try clear c24b0); (try clear c24b1); (try clear c26); (try clear c27); (try clear c27b0); (try clear c27b1); (try clear c31); (try clear c31b0); (try clear c31b1); (try clear p2)
           obtain ⟨kq, x97_17, rfl, HA, HJ17, HO_6, HO_9, HB⟩ := hcut
           cases kq with
           | zero => exact absurd HA.out (by simp [dropperlaw01_MastOften.j2])
           | succ kj17 =>
            have H := HA.out
            clear HA
            simp only [dropperlaw01_MastOften.j2] at H
            by_cases c32 : x97_17 = true
            ·
             subst c32
             rw [if_pos rfl] at H
             exact absurd H (by simp)
            ·
             replace c32 := Bool.eq_false_iff.mpr c32
             subst c32
             rw [if_neg (show ¬ (false = true) by decide)] at H
             replace H := Option.bind_eq_some_iff.mp H
             obtain ⟨⟨t446, t447⟩, A330, H⟩ := H
             try dsimp only at H
             have A33 := Aside0.mk A330
             clear A330
             by_cases c34 : t447 = 0
             ·
              rw [if_pos c34] at H
              have c34b0 : (t447 == 0) = true := beq_iff_eq.mpr c34
              have c34b1 : (t447 != 0) = false := bne_eq_false_iff_eq.mpr c34
              clear c34
              by_cases c35 : x8_2 ≤ t430
              ·
               rw [if_pos c35] at H
               have c35b0 : decide (x8_2 ≤ t430) = true := decide_eq_true c35
               clear c35
               by_cases c36 : t446 = true
               ·
                subst c36
                rw [if_pos rfl] at H
                have H' := Aside0.mk H
                clear H
                go_wp2_with (first | ((with_reducible refine gate_callee (f := 21) rfl ?_); refine goesL_ (some 101) rfl rfl Tryd.func21 (by kernel_rfl) rfl #[.slice Ao20 t439.length co20, .int .i64 t429] rfl mapz ?_; (with_reducible refine (mast_Has.calls kj17 _ _ t439 t429 true t447 _ ?side1 ?side2 A33.out).mono ?_); (case side1 => repeat (first | exact (Kd.R_reads' HO_9.out).2.2 | (with_reducible refine Kd.C_alloc ?_ _) | (with_reducible refine Kd.C_drewN ?_ _) | (with_reducible refine Kd.C_drew ?_))); (case side2 => exact (Kd.R_reads' HO_9.out).2.1); rintro e w37 ⟨rfl, hb⟩; refine ⟨_, rfl, ?_⟩; replace HO_6 := Aside0.mk (Kd.R_below (ownx HO_6) hb); replace HO_9 := Aside0.mk (Kd.R_below (ownx HO_9) hb); replace HB := Aside0.mk (below_step bel hb); clear hb))
                go_roundg kj17
                case measure => have := HJ8.out; have := HK2.out; have := HJ17.out; omega
                case rel => exact ⟨(wrap64 (x7_2 + t443)), (wrap64 (x8_2 + 1)), rsz, rsz, H', ⟨by have := HJ8.out; have := HK2.out; have := HJ17.out; omega⟩, ⟨by (with_reducible repeat (first | apply Kd.R_alloc | apply Kd.R_drewN | apply Kd.R_drew)); exact Kd.R_mono HO_6.out (fun _ hk => trivial)⟩, ⟨bel⟩⟩
               ·
                replace c36 := Bool.eq_false_iff.mpr c36
                subst c36
                rw [if_neg (show ¬ (false = true) by decide)] at H
                exact absurd H (by simp)
              ·
               rw [if_neg c35] at H
               have c35b0 : decide (x8_2 ≤ t430) = false := decide_eq_false c35
               clear c35
               have H' := Aside0.mk H
               clear H
               go_wp2_with (first | ((with_reducible refine gate_callee (f := 21) rfl ?_); refine goesL_ (some 101) rfl rfl Tryd.func21 (by kernel_rfl) rfl #[.slice Ao20 t439.length co20, .int .i64 t429] rfl mapz ?_; (with_reducible refine (mast_Has.calls kj17 _ _ t439 t429 t446 t447 _ ?side1 ?side2 A33.out).mono ?_); (case side1 => repeat (first | exact (Kd.R_reads' HO_9.out).2.2 | (with_reducible refine Kd.C_alloc ?_ _) | (with_reducible refine Kd.C_drewN ?_ _) | (with_reducible refine Kd.C_drew ?_))); (case side2 => exact (Kd.R_reads' HO_9.out).2.1); rintro e w38 ⟨rfl, hb⟩; refine ⟨_, rfl, ?_⟩; replace HO_6 := Aside0.mk (Kd.R_below (ownx HO_6) hb); replace HO_9 := Aside0.mk (Kd.R_below (ownx HO_9) hb); replace HB := Aside0.mk (below_step bel hb); clear hb))
               go_roundg kj17
               case measure => have := HJ8.out; have := HK2.out; have := HJ17.out; omega
               case rel => exact ⟨(wrap64 (x7_2 + t443)), (wrap64 (x8_2 + 1)), rsz, rsz, H', ⟨by have := HJ8.out; have := HK2.out; have := HJ17.out; omega⟩, ⟨by (with_reducible repeat (first | apply Kd.R_alloc | apply Kd.R_drewN | apply Kd.R_drew)); exact Kd.R_mono HO_6.out (fun _ hk => trivial)⟩, ⟨bel⟩⟩
             ·
              rw [if_neg c34] at H
              exact absurd H (by simp)
         ·
          rw [if_neg c15] at H
          have c15b0 : decide (x8_2 ≤ (wrap64 (t430 + 1))) = false := decide_eq_false c15
          clear c15
          replace H := Option.bind_eq_some_iff.mp H
          obtain ⟨t437, A390, H⟩ := H
          try dsimp only at H
          have A39 := Aside0.mk A390
          clear A390
          by_cases c40 : x7_2 = t437
          ·
           rw [if_pos c40] at H
           have c40b0 : (x7_2 == t437) = true := beq_iff_eq.mpr c40
           have c40b1 : (x7_2 != t437) = false := bne_eq_false_iff_eq.mpr c40
           clear c40
           replace H := Option.bind_eq_some_iff.mp H
           obtain ⟨t438, A410, H⟩ := H
           try dsimp only at H
           have A41 := Aside0.mk A410
           clear A410
           obtain rfl := Option.some.inj H
           go_wp2_with (first | ((with_reducible refine gate_callee (f := 38) rfl ?_); refine goesL_ (some 120) rfl rfl Tryd.func38 (by kernel_rfl) rfl #[.slice A0 l0.length c0] rfl mapz ?_; (with_reducible refine (dropperref01_Sum.calls k2 _ _ l0 t437 _ (cbz HR0) HC0.out A39.out).mono ?_); rintro e w' ⟨rfl, ⟨nd, rfl⟩⟩; refine ⟨_, rfl, ?_⟩) | (go_at_call 11; (with_reducible refine (dropperlaw01_First.calls k2  t438 _ (tbz HT) A41.out).mono ?_); rintro e w42 ⟨rfl, hb⟩; replace HO_6 := Aside0.mk (Kd.R_below (ownx HO_6) hb); replace HB := Aside0.mk (below_step bel hb); clear hb))
           go_ret
           exact ⟨ezz, bel⟩
          ·
           rw [if_neg c40] at H
           exact absurd H (by simp)
   ·
    rw [if_neg c8] at H
    exact absurd H (by simp)
  ·
   rw [if_neg c6] at H
   have c6b0 : (t431 == 0) = false := beq_eq_false_iff_ne.mpr c6
   have c6b1 : (t431 != 0) = true := bne_iff_ne.mpr c6
   by_cases c43 : t431 = 2
   ·
    rw [if_pos c43] at H
    have c43b0 : (t431 == 2) = true := beq_iff_eq.mpr c43
    have c43b1 : (t431 != 2) = false := bne_eq_false_iff_eq.mpr c43
    clear c43
    replace H := Option.bind_eq_some_iff.mp H
    obtain ⟨t432, A440, H⟩ := H
    try dsimp only at H
    have A44 := Aside0.mk A440
    clear A440
    obtain rfl := Option.some.inj H
    go_enter Tryd.func8, Tryd.ntmps8
    go_wp2_with (first | ((with_reducible refine gate_callee (f := 17) rfl ?_); refine goesL_ (some 21) rfl rfl Tryd.func17 (by kernel_rfl) rfl #[.slice A0 l0.length c0] rfl mapz ?_; (with_reducible refine (mast_Deepest.calls _ _ l0 t429 t430 t431 _ ?side1 HC0.out A5.out).mono ?_); (case side1 => repeat (first | exact HR0.out | (with_reducible refine Kd.C_alloc ?_ _) | (with_reducible refine Kd.C_drewN ?_ _) | (with_reducible refine Kd.C_drew ?_))); rintro e w45 ⟨rfl, hb⟩; refine ⟨_, rfl, ?_⟩; replace HB := Aside0.mk (below_step bel hb); clear hb) | (go_at_call 11; (with_reducible refine (dropperlaw01_First.calls k  t432 _ (tbz HT) A44.out).mono ?_); rintro e w46 ⟨rfl, hb⟩; replace HB := Aside0.mk (below_step bel hb); clear hb))
    go_ret
    exact ⟨ezz, bel⟩
   ·
    rw [if_neg c43] at H
    exact absurd H (by simp)

end Go.Proofs.YtcmdcgghpkcchaaDoor.XMast
-- Written by wip/xprint.py of this repo, over the kit's print.py: out of the translation; the oracles in it are by hand. Not trusted: Lean checks it.
namespace Go.Proofs.YtcmdcgghpkcchaaDoor.XMast
open Go.RowKit Go.Proofs.YtcmdcgghpkcchaaDoor.XMast Go.Proofs.YtcmdcgghpkcchaaDoorW.PrintWords Go.Proofs.YtcmdcgghpkcchaaDoorW.PrintLast Go.Proofs.YtcmdcgghpkcchaaDoorW.PrintMore
def dropperlaw01_MastOften.Pure : Prop := ∀ (l0 : List (S46)), (l0.length ≤ 9223372036854775807 ∧ ∀ y0 ∈ l0, ((Lit.int .i64 y0.f0).wf = true) ∧ ((Lit.int .i64 y0.f1).wf = true)) → ∃ k, dropperlaw01_MastOften.f k l0 = some true
end Go.Proofs.YtcmdcgghpkcchaaDoor.XMast

/- How many metres: the lengths of lays are sums over the metres; and how many stretches a lay has at most. -/
namespace Go.Proofs.YtcmdcgghpkcchaaDoor.Lay
set_option linter.unusedVariables false
set_option linter.unusedSimpArgs false
open Go.RowKit Go.Proofs.YtcmdcgghpkcchaaDoor.XMast Go.Proofs.YtcmdcgghpkcchaaDoorW.PrintWords Go.Proofs.YtcmdcgghpkcchaaDoorW.PrintLast Go.Proofs.YtcmdcgghpkcchaaDoorW.PrintMore
def S (f : Int → Int) : Nat → Int
 | 0 => 0
 | n + 1 => S f n + f (n : Int)
theorem S_congr {f g : Int → Int} : ∀ (n : Nat), (∀ x : Int, 0 ≤ x → x < (n : Int) → f x = g x) → S f n = S g n
 | 0, _ => rfl
 | n + 1, h => by rw [S, S, S_congr n (fun x h0 h1 => h x h0 (by omega)), h (n : Int) (by omega) (by omega)]
theorem S_add (f g : Int → Int) : ∀ n : Nat, S (fun x => f x + g x) n = S f n + S g n
 | 0 => rfl
 | n + 1 => by rw [S, S, S, S_add f g n]; omega
theorem sum_le_ {f g : Int → Int} : ∀ (n : Nat), (∀ x : Int, 0 ≤ x → x < (n : Int) → f x ≤ g x) → S f n ≤ S g n
 | 0, _ => Int.le_refl _
 | n + 1, h => by
  have h1 := sum_le_ n (fun x h0 h1 => h x h0 (by omega))
  have h2 := h (n : Int) (by omega) (by omega)
  rw [S, S]
  omega
theorem S_zero : ∀ n : Nat, S (fun _ => 0) n = 0
 | 0 => rfl
 | n + 1 => by rw [S, S_zero n]; rfl
theorem S_one : ∀ n : Nat, S (fun _ => 1) n = n
 | 0 => rfl
 | n + 1 => by rw [S, S_one n]; omega
theorem S_ind (a b : Int) (h0 : 0 ≤ a) (h1 : a ≤ b) : ∀ n : Nat, S (fun x => if a ≤ x ∧ x < b then 1 else 0) n = if (n : Int) ≤ a then 0 else if (n : Int) ≤ b then (n : Int) - a else b - a
 | 0 => by rw [S, if_pos (by omega)]
 | n + 1 => by
  rw [S, S_ind a b h0 h1 n]
  by_cases c1 : a ≤ (n : Int) ∧ (n : Int) < b
  ·
   rw [if_pos c1, if_neg (show ¬ ((n + 1 : Nat) : Int) ≤ a by omega), if_pos (show ((n + 1 : Nat) : Int) ≤ b by omega)]
   by_cases c2 : (n : Int) ≤ a
   ·
    rw [if_pos c2]; omega
   ·
    rw [if_neg c2, if_pos (by omega)]; omega
  ·
   rw [if_neg c1]
   by_cases c2 : (n : Int) < a
   ·
    rw [if_pos (show (n : Int) ≤ a by omega), if_pos (show ((n + 1 : Nat) : Int) ≤ a by omega)]; omega
   ·
    rw [if_neg (show ¬ ((n + 1 : Nat) : Int) ≤ a by omega), if_neg (show ¬ ((n + 1 : Nat) : Int) ≤ b by omega)]
    by_cases c3 : (n : Int) ≤ a
    ·
     rw [if_pos c3]; omega
    ·
     rw [if_neg c3]
     by_cases c4 : (n : Int) ≤ b
     ·
      rw [if_pos c4]; omega
     ·
      rw [if_neg c4]; omega
theorem tot_S : ∀ (l : List St), (∀ s ∈ l, isSt s) → tot l = S (cnt l) 100000
 | [], _ => (S_zero 100000).symm
 | s :: t, h => by
  have hs := h s List.mem_cons_self
  unfold isSt at hs
  have e : S (cnt (s :: t)) 100000 = S (fun x => (if s.f0 ≤ x ∧ x < s.f1 then 1 else 0) + cnt t x) 100000 := rfl
  rw [e, S_add, S_ind s.f0 s.f1 (by omega) (by omega), ← tot_S t (fun u hu => h u (List.mem_cons_of_mem _ hu)), tot]
  by_cases c : ((100000 : Nat) : Int) ≤ s.f1
  ·
   rw [if_neg (by omega), if_pos c]; omega
  ·
   rw [if_neg (by omega), if_neg c]
theorem Norm.cnt_cov {l : List St} (h : Norm l) (x : Int) : (cov l x ∧ cnt l x = 1) ∨ (¬ cov l x ∧ cnt l x = 0) := by
 have h1 := cnt_nonneg l x
 have h2 := h.cnt_le x
 by_cases hc : cov l x
 ·
  have := cnt_pos.2 hc; exact .inl ⟨hc, by omega⟩
 ·
  exact .inr ⟨hc, by have : ¬ 0 < cnt l x := fun h => hc (cnt_pos.1 h); omega⟩
/-! ### how many stretches -/
theorem asc_len : ∀ (o pts : List Int), o.Pairwise (· < ·) → (∀ x ∈ o, x ∈ pts) → o.length ≤ pts.length
 | [], _, _, _ => Nat.zero_le _
 | x :: t, pts, h, hm => by
  rw [List.pairwise_cons] at h
  have hx := hm x List.mem_cons_self
  have h1 := asc_len t (pts.erase x) h.2 (fun y hy => (List.mem_erase_of_ne (by have := h.1 y hy; omega)).2 (hm y (List.mem_cons_of_mem _ hy)))
  have h2 := List.length_erase_of_mem hx
  have h3 : 0 < pts.length := List.length_pos_of_mem hx
  rw [List.length_cons]
  omega
theorem lay_len {Q : Int → Prop} {o : List St} (h : IsLay Q o) (pts : List Int) (hp : ∀ x, 0 ≤ x → x < 100000 → Q x → (x = 0 ∨ ¬ Q (x - 1)) → x ∈ pts) : o.length ≤ pts.length := by
 have h1 : (o.map (·.f0)).Pairwise (· < ·) := by
  rw [List.pairwise_map]
  refine List.Pairwise.imp_of_mem (fun {a b} ha hb hlt => ?_) h.1.1
  have := h.1.2 a ha
  show a.f0 < b.f0
  omega
 have h2 := asc_len _ pts h1 (fun x hx => by
  obtain ⟨s, hs, rfl⟩ := List.mem_map.1 hx
  show s.f0 ∈ pts
  have hs2 := h.1.2 s hs
  have hc := (h.2 s.f0).1 ⟨s, hs, Int.le_refl _, hs2.2.1⟩
  refine hp _ hc.1 hc.2.1 hc.2.2 ?_
  by_cases h0 : s.f0 = 0
  ·
   exact .inl h0
  ·
   refine .inr fun hq => ?_
   obtain ⟨u, hu, h3, h4⟩ := (h.2 (s.f0 - 1)).2 ⟨by omega, by omega, hq⟩
   have hu2 := h.1.2 u hu
   obtain ⟨i, hi, rfl⟩ := List.mem_iff_getElem.1 hs
   obtain ⟨j, hj, rfl⟩ := List.mem_iff_getElem.1 hu
   rcases Nat.lt_trichotomy i j with h5 | h5 | h5
   ·
    have := h.1.lt hi hj h5; omega
   ·
    subst h5; omega
   ·
    have := h.1.lt hj hi h5; omega)
 rwa [List.length_map] at h2
theorem cov_begin {l : List St} {x : Int} (h : cov l x) (h' : ¬ cov l (x - 1)) : x ∈ l.map (·.f0) := by
 obtain ⟨s, hs, h1, h2⟩ := h
 refine List.mem_map.2 ⟨s, hs, ?_⟩
 rcases Int.lt_or_eq_of_le h1 with h3 | h3
 ·
  exact absurd ⟨s, hs, by omega, by omega⟩ h'
 ·
  exact h3
theorem cov_end {l : List St} {x : Int} (h : ¬ cov l x) (h' : cov l (x - 1)) : x ∈ l.map (·.f1) := by
 obtain ⟨s, hs, h1, h2⟩ := h'
 refine List.mem_map.2 ⟨s, hs, ?_⟩
 rcases Int.lt_or_le x s.f1 with h3 | h3
 ·
  exact absurd ⟨s, hs, by omega, by omega⟩ h
 ·
  show s.f1 = x; omega
theorem cnt_begin : ∀ {l : List St} {x : Int}, cnt l (x - 1) < cnt l x → x ∈ l.map (·.f0)
 | [], x, h => by simp [cnt] at h
 | s :: t, x, h => by
  rw [cnt, cnt] at h
  rw [List.map_cons, List.mem_cons]
  by_cases h1 : s.f0 = x
  ·
   exact .inl h1.symm
  ·
   refine .inr (cnt_begin ?_)
   by_cases h2 : s.f0 ≤ x ∧ x < s.f1
   ·
    rw [if_pos h2, if_pos (show s.f0 ≤ x - 1 ∧ x - 1 < s.f1 by omega)] at h; omega
   ·
    rw [if_neg h2] at h
    split at h <;> omega
theorem often_len {l : List St} (h : rawOk l) {n : Int} (hn : 1 ≤ n) : (oftenL l n).length ≤ l.length := by
 have h1 := lay_len (often_lay h n) (l.map (·.f0)) (fun x h0 h1 h2 h3 => cnt_begin (by
  rcases h3 with rfl | h3
  ·
   have e := cnt_before h.2 (x := 0 - 1) (by omega)
   rw [e]; omega
  ·
   omega))
 rwa [List.length_map] at h1
theorem join_cov {a b : List St} (ha : Ok a) (hb : Ok b) : IsLay (fun x => cov a x ∨ cov b x) (bothL mast_Join.p a b) :=
 (both_lay mast_Join.p ha hb).congr fun x _ _ => by
  rw [p_join (cnt_nonneg a x).1 (ha.1.cnt_le x) (cnt_nonneg b x).1 (hb.1.cnt_le x)]
  have e : tog 1 (cnt a x) (cnt b x) = (decide (0 < cnt a x) || decide (0 < cnt b x)) := rfl
  rw [e, Bool.or_eq_true, decide_eq_true_iff, decide_eq_true_iff, cnt_pos, cnt_pos]
theorem both_cov {a b : List St} (ha : Ok a) (hb : Ok b) : IsLay (fun x => cov a x ∧ cov b x) (bothL mast_Both.p a b) :=
 (both_lay mast_Both.p ha hb).congr fun x _ _ => by
  rw [p_both (cnt_nonneg a x).1 (ha.1.cnt_le x) (cnt_nonneg b x).1 (hb.1.cnt_le x)]
  have e : tog 2 (cnt a x) (cnt b x) = (decide (0 < cnt a x) && decide (0 < cnt b x)) := rfl
  rw [e, Bool.and_eq_true, decide_eq_true_iff, decide_eq_true_iff, cnt_pos, cnt_pos]
theorem rest_cov {l : List St} (h : Ok l) : IsLay (fun x => ¬ cov l x) (bothL mast_Rest.p l []) :=
 (both_lay mast_Rest.p h ok_nil).congr fun x _ _ => by
  have e : cnt [] x = 0 := rfl
  have h1 := cnt_nonneg l x
  unfold mast_Rest.p
  rw [beq_iff_eq, e, ← cnt_pos]
  omega
theorem join_len {a b : List St} (ha : Ok a) (hb : Ok b) : (bothL mast_Join.p a b).length ≤ a.length + b.length := by
 have h := lay_len (join_cov ha hb) (a.map (·.f0) ++ b.map (·.f0)) (fun x h0 h1 h2 h3 => by
  rw [List.mem_append]
  have n1 : x = 0 → ¬ cov a (x - 1) := fun e h => by have := cov_in ha.1 h; omega
  have n2 : x = 0 → ¬ cov b (x - 1) := fun e h => by have := cov_in hb.1 h; omega
  rcases h2 with h2 | h2
  ·
   exact .inl (cov_begin h2 (fun h => h3.elim (fun e => n1 e h) (fun h4 => h4 (.inl h))))
  ·
   exact .inr (cov_begin h2 (fun h => h3.elim (fun e => n2 e h) (fun h4 => h4 (.inr h)))))
 simpa using h
theorem both_len {a b : List St} (ha : Ok a) (hb : Ok b) : (bothL mast_Both.p a b).length ≤ a.length + b.length := by
 have h := lay_len (both_cov ha hb) (a.map (·.f0) ++ b.map (·.f0)) (fun x h0 h1 h2 h3 => by
  rw [List.mem_append]
  have n1 : x = 0 → ¬ cov a (x - 1) := fun e h => by have := cov_in ha.1 h; omega
  by_cases hc : cov a (x - 1)
  ·
   refine .inr (cov_begin h2.2 (fun h => ?_))
   exact h3.elim (fun e => n1 e hc) (fun h4 => h4 ⟨hc, h⟩)
  ·
   exact .inl (cov_begin h2.1 hc))
 simpa using h
theorem less_len {a b : List St} (ha : Ok a) (hb : Ok b) : (bothL mast_Without.p a b).length ≤ a.length + b.length := by
 have h := lay_len (less_cov ha hb) (a.map (·.f0) ++ b.map (·.f1)) (fun x h0 h1 h2 h3 => by
  rw [List.mem_append]
  have n1 : x = 0 → ¬ cov a (x - 1) := fun e h => by have := cov_in ha.1 h; omega
  by_cases hc : cov a (x - 1)
  ·
   refine .inr (cov_end h2.2 (Classical.byContradiction fun h => ?_))
   exact h3.elim (fun e => n1 e hc) (fun h4 => h4 ⟨hc, h⟩)
  ·
   exact .inl (cov_begin h2.1 hc))
 simpa using h
theorem rest_len {l : List St} (h : Ok l) : (bothL mast_Rest.p l []).length ≤ l.length + 1 := by
 have h := lay_len (rest_cov h) (0 :: l.map (·.f1)) (fun x h0 h1 h2 h3 => by
  rw [List.mem_cons]
  rcases h3 with h3 | h3
  ·
   exact .inl h3
  ·
   exact .inr (cov_end h2 (Classical.byContradiction h3)))
 simpa using h
theorem fin_ok {o : List St} (h : o.length ≤ 60) : fin o = (o, 0) := by unfold fin; rw [if_neg (by omega)]
theorem join_ev {a b : List St} (ha : Ok a) (hb : Ok b) (h : a.length + b.length ≤ 60) : Ok (bothL mast_Join.p a b) ∧ Ev (fun k => mast_Join.f k a b) (bothL mast_Join.p a b, 0) := by
 have h1 := join_len ha hb
 refine ⟨⟨(join_cov ha hb).1, by omega⟩, ?_⟩
 rw [← fin_ok (o := bothL mast_Join.p a b) (by omega)]
 exact both_ev mast_Join.p ha hb
theorem both_ev' {a b : List St} (ha : Ok a) (hb : Ok b) (h : a.length + b.length ≤ 60) : Ok (bothL mast_Both.p a b) ∧ Ev (fun k => mast_Both.f k a b) (bothL mast_Both.p a b, 0) := by
 have h1 := both_len ha hb
 refine ⟨⟨(both_cov ha hb).1, by omega⟩, ?_⟩
 rw [← fin_ok (o := bothL mast_Both.p a b) (by omega)]
 exact both_ev mast_Both.p ha hb
theorem less_ev {a b : List St} (ha : Ok a) (hb : Ok b) (h : a.length + b.length ≤ 60) : Ok (bothL mast_Without.p a b) ∧ Ev (fun k => mast_Without.f k a b) (bothL mast_Without.p a b, 0) := by
 have h1 := less_len ha hb
 refine ⟨⟨(less_cov ha hb).1, by omega⟩, ?_⟩
 rw [← fin_ok (o := bothL mast_Without.p a b) (by omega)]
 exact both_ev mast_Without.p ha hb
theorem rest_ev {l : List St} (hl : Ok l) (h : l.length + 1 ≤ 60) : Ok (bothL mast_Rest.p l []) ∧ Ev (fun k => mast_Rest.f k l) (bothL mast_Rest.p l [], 0) := by
 have h1 := rest_len hl
 refine ⟨⟨(rest_cov hl).1, by omega⟩, ?_⟩
 rw [← fin_ok (o := bothL mast_Rest.p l []) (by omega)]
 exact both_ev mast_Rest.p hl ok_nil
end Go.Proofs.YtcmdcgghpkcchaaDoor.Lay

/- Often by 1 is Clean; the lengths by all depths add up; the deepest metre lies in Often by its depth, which by one more is empty. -/
namespace Go.Proofs.YtcmdcgghpkcchaaDoor.Pure
set_option linter.unusedVariables false
set_option linter.unusedSimpArgs false
open Go.RowKit Go.Proofs.YtcmdcgghpkcchaaDoor.XMast Go.Proofs.YtcmdcgghpkcchaaDoorW.PrintWords Go.Proofs.YtcmdcgghpkcchaaDoorW.PrintLast Go.Proofs.YtcmdcgghpkcchaaDoorW.PrintMore
open Go.Proofs.YtcmdcgghpkcchaaDoor.Lay
theorem often_val {l : List St} (h : rawOk l) (hl : l.length ≤ 30) {n : Int} (h1 : 1 ≤ n) (h2 : n ≤ 31) : mast_Often.f l n = some (oftenL l n, 0) := by
 unfold mast_Often.f
 rcases mraw l with ⟨_, e⟩ | ⟨h', _⟩
 ·
  rw [e, Option.bind_some, if_pos rfl, if_neg (by omega), if_neg (by omega)]
  exact congrArg some (fin_ok (o := oftenL l n) (by have := often_len h h1; omega))
 ·
  exact absurd h h'
theorem cnt_often {l : List St} (h : rawOk l) (n : Int) {x : Int} (h0 : 0 ≤ x) (h1 : x < 100000) : cnt (oftenL l n) x = if n ≤ cnt l x then 1 else 0 := by
 have hl := often_lay h n
 rcases hl.1.cnt_cov x with ⟨h2, h3⟩ | ⟨h2, h3⟩
 ·
  rw [h3, if_pos ((hl.2 x).1 h2).2.2]
 ·
  rw [h3, if_neg (fun h4 => h2 ((hl.2 x).2 ⟨h0, h1, h4⟩))]
def low (l : List St) (n x : Int) : Int := if cnt l x ≤ n then cnt l x else n
theorem loop {l : List St} (h : rawOk l) (hl : l.length ≤ 30) (m d : Int) (hd : 0 ≤ d) (hd2 : d ≤ l.length) (hm : 0 < d → 0 ≤ m ∧ m < 100000 ∧ cnt l m = d) (hx : ∀ x, cnt l x ≤ d) :
  ∀ (t : Nat) (n : Int), n + t = d + 2 → 1 ≤ n → Ev (fun k => dropperlaw01_MastOften.l0 k l m d (oftenL l 1) (S (low l (n - 1)) 100000) n) true := by
 intro t
 induction t with
 | zero =>
  intro n hn h1
  refine Ev.step (fun k => by rw [dropperlaw01_MastOften.l0]) ?_
  rw [wrap_id (x := d + 1) (by omega) (by omega)]
  refine ev_neg (by omega) (Ev.bind (sum_ l (by omega) h.2) (ev_pos ?_ (Ev.bind first_ev (Ev.now _))))
  rw [tot_S l h.2]
  refine S_congr _ (fun x _ _ => ?_)
  unfold low
  have := hx x
  rw [if_pos (by omega)]
 | succ t ih =>
  intro n hn h1
  have ho := often_len h h1
  have hlay := often_lay h n
  have hok : Ok (oftenL l n) := ⟨hlay.1, by omega⟩
  have hb := tot_bound (oftenL l n) hlay.1.isSt
  have hS : wrap64 (S (low l (n - 1)) 100000 + tot (oftenL l n)) = S (low l (n + 1 - 1)) 100000 := by
   have e : S (low l (n + 1 - 1)) 100000 = S (low l (n - 1)) 100000 + tot (oftenL l n) := by
    rw [tot_S _ hlay.1.isSt, ← S_add]
    refine S_congr _ (fun x h0 h2 => ?_)
    show low l (n + 1 - 1) x = low l (n - 1) x + cnt (oftenL l n) x
    rw [cnt_often h n h0 (by omega)]
    unfold low
    by_cases c1 : n ≤ cnt l x
    ·
     rw [if_pos c1, if_neg (show ¬ cnt l x ≤ n - 1 by omega)]
     by_cases c2 : cnt l x ≤ n + 1 - 1
     ·
      rw [if_pos c2]; omega
     ·
      rw [if_neg c2]; omega
    ·
     rw [if_neg c1, if_pos (show cnt l x ≤ n - 1 by omega), if_pos (by omega)]; omega
   have e2 : S (low l (n + 1 - 1)) 100000 ≤ tot l ∧ 0 ≤ S (low l (n - 1)) 100000 := by
    constructor
    ·
     rw [tot_S l h.2]
     exact sum_le_ _ (fun x _ _ => by unfold low; split <;> omega)
    ·
     rw [← S_zero 100000]
     exact sum_le_ _ (fun x _ _ => by have := (cnt_nonneg l x).1; unfold low; split <;> omega)
   have e3 := tot_bound l h.2
   rw [e] at e2 ⊢
   exact wrap_id (by omega) (by omega)
  have hhas : Ev (fun k => mast_Has.f k (oftenL l n) m) (decide (cnt (oftenL l n) m > 0), 0) := by
   unfold mast_Has.f
   exact Ev.bind (mvalid _ (by have := hok.2; omega)) (ev_pos ((okB_iff _).2 hok) (ev_val (has_val hok.1 hok.2 m) (Ev.now _)))
  have hnext := ih (n + 1) (by omega) (by omega)
  have hj2 : Ev (fun k => dropperlaw01_MastOften.j2 k l m d (oftenL l 1) (S (low l (n - 1)) 100000) n (oftenL l n) (tot (oftenL l n)) false) true := by
   refine Ev.step (fun k => by rw [dropperlaw01_MastOften.j2]) (ev_neg (by simp) (Ev.bind hhas (ev_pos rfl ?_)))
   rw [hS, wrap_id (x := n + 1) (by omega) (by omega)]
   by_cases hnd : n ≤ d
   ·
    obtain ⟨m0, m1, m2⟩ := hm (by omega)
    refine ev_pos hnd (ev_pos (decide_eq_true ?_) hnext)
    rw [cnt_often h n m0 m1, if_pos (by omega)]
    decide
   ·
    exact ev_neg hnd hnext
  have hzero : n = d + 1 → (tot (oftenL l n) != 0) = false := fun e => by
   rw [tot_S _ hlay.1.isSt, bne_eq_false_iff_eq, ← S_zero 100000]
   refine S_congr _ (fun x h0 h2 => ?_)
   rw [cnt_often h n h0 (by omega), if_neg (by have := hx x; omega)]
  refine Ev.step (fun k => by rw [dropperlaw01_MastOften.l0]) ?_
  rw [wrap_id (x := d + 1) (by omega) (by omega)]
  refine ev_pos (by omega) (ev_val (often_val h hl h1 (by omega)) (Ev.bind (Length_ _ hok) (ev_pos rfl (ev_pos rfl ?_))))
  have hmid : Ev (fun k => if n = d + 1 then dropperlaw01_MastOften.j2 k l m d (oftenL l 1) (S (low l (n - 1)) 100000) n (oftenL l n) (tot (oftenL l n)) (tot (oftenL l n) != 0) else dropperlaw01_MastOften.j2 k l m d (oftenL l 1) (S (low l (n - 1)) 100000) n (oftenL l n) (tot (oftenL l n)) false) true := by
   by_cases hn1 : n = d + 1
   ·
    refine ev_pos hn1 ?_
    rw [hzero hn1]
    exact hj2
   ·
    exact ev_neg hn1 hj2
  by_cases hn1 : n = 1
  ·
   have hsame : Ev (fun k => dropperlaw01_Same.f k (oftenL l n) (oftenL l 1)) true := by
    rw [hn1]
    exact same_refl _ (by have := often_len h (Int.le_refl 1); omega)
   exact ev_pos hn1 (Ev.bind hsame (ev_pos rfl hmid))
  ·
   exact ev_neg hn1 hmid
theorem MastOften : dropperlaw01_MastOften.Pure := by
 intro l _
 refine Ev.rounds (r := true) (g := fun k => dropperlaw01_MastOften.f k l) ?_
 unfold dropperlaw01_MastOften.f
 by_cases hl : (l.length : Int) > 30
 ·
  exact ev_pos hl (Ev.bind first_ev (Ev.now _))
 refine ev_neg hl ?_
 rcases mraw l with ⟨h, e⟩ | ⟨h, e⟩
 ·
  have hd : mast_Deepest.f l = some ((deepL l).1, (deepL l).2, 0) := by unfold mast_Deepest.f; rw [e]; rfl
  have hc : mast_Clean.f l = some (oftenL l 1, 0) := by unfold mast_Clean.f; rw [often_val h (by omega) (Int.le_refl 1) (by omega)]; rfl
  have ht := deep_top h
  generalize (deepL l).1 = m at hd ht
  generalize (deepL l).2 = d at hd ht
  have hx : ∀ x, cnt l x ≤ d := fun x => by
   rcases ht with ⟨a, b, c⟩ | ⟨a, b, c, g, _⟩
   ·
    rw [a]; exact c x trivial
   ·
    exact g x trivial
  have hd0 : 0 ≤ d := by rcases ht with ⟨a, _⟩ | ⟨a, _⟩ <;> omega
  have hm : 0 < d → 0 ≤ m ∧ m < 100000 ∧ cnt l m = d := fun hp => by
   rcases ht with ⟨a, _⟩ | ⟨a, b, c, _⟩
   ·
    omega
   ·
    have hcv : cov l m := cnt_pos.1 (by omega)
    obtain ⟨s, hs, h1, h2⟩ := hcv
    have := h.2 s hs
    unfold isSt at this
    exact ⟨by omega, by omega, c⟩
  have hd1 : d ≤ l.length := by
   by_cases hp : 0 < d
   ·
    have := (hm hp).2.2; have := (cnt_nonneg l m).2; omega
   ·
    omega
  have hz : ((d == 0) != ((l.length : Int) == 0)) = false := by
   rw [bne_eq_false_iff_eq, Bool.eq_iff_iff, beq_iff_eq, beq_iff_eq]
   constructor
   ·
    intro h0
    cases l with
    | nil => rfl
    | cons s t =>
     have h1 := hx s.f0
     have h2 := h.2 s List.mem_cons_self
     unfold isSt at h2
     have h3 : 0 < cnt (s :: t) s.f0 := cnt_pos.2 ⟨s, List.mem_cons_self, Int.le_refl _, by omega⟩
     omega
   ·
    intro h0; omega
  refine ev_val hd (ev_pos rfl (ev_val hc (ev_pos rfl (ev_neg (by show ¬ d < 0; omega) (ev_neg (by show ¬ d > (l.length : Int); omega) ?_)))))
  show Ev (fun k => dropperlaw01_MastOften.j0 k l m d (oftenL l 1) ((d == 0) != ((l.length : Int) == 0))) true
  rw [hz]
  refine Ev.step (fun k => by rw [dropperlaw01_MastOften.j0]) (ev_neg (by simp) ?_)
  have h0 : S (low l (1 - 1)) 100000 = 0 := by
   rw [← S_zero 100000]
   refine S_congr _ (fun x _ _ => ?_)
   have := (cnt_nonneg l x).1
   unfold low
   split <;> omega
  have hgo := loop h (by omega) m d hd0 hd1 hm hx (d + 1).toNat 1 (by omega) (Int.le_refl 1)
  rw [h0] at hgo
  exact hgo
 ·
  have hd : mast_Deepest.f l = some (0, 0, 2) := by unfold mast_Deepest.f; rw [e]; rfl
  exact ev_val hd (ev_neg (by decide) (ev_pos rfl (Ev.bind first_ev (Ev.now _))))
end Go.Proofs.YtcmdcgghpkcchaaDoor.Pure

-- Written by wip/xprint.py of this repo, over the kit's print.py: out of the translation; the oracles in it are by hand. Not trusted: Lean checks it.
namespace Go.Proofs.YtcmdcgghpkcchaaDoor.mastOften
open Go.ChangeShapes Go.WideShapes Go.ChangeAt Go.RowKit Go.Proofs.YtcmdcgghpkcchaaDoor.Open Go.Proofs.YtcmdcgghpkcchaaDoor.XMast Go.Proofs.YtcmdcgghpkcchaaDoorW.PrintWords Go.Proofs.YtcmdcgghpkcchaaDoorW.PrintLast Go.Proofs.YtcmdcgghpkcchaaDoorW.PrintMore
open Go.ChangeMaps (open_string shut_string)
set_option linter.unusedVariables false
set_option linter.unusedSimpArgs false
theorem own : ownKnob Tryd.prog.godebug = none := by kernel_rfl
theorem laidOut : laidOutB Tryd.prog = true := by kernel_rfl
set_option maxRecDepth 100000 in
theorem lifted (os : Os) (started : os.Started) (H : Type) (enc : TypeId × Value → H) :
  ReturnsInHanded {} Tryd.checked os 8 .any (fun w args => (Rows.mastOftenSpec.pre enc Tryd.prog Tryd.f8 [] false w args ∧ laidMetH Tryd.prog Laid.laid2 w) ∧ sizedMet enc Tryd.prog Tryd.f8 (OpenSpec.ofChange Rows.mastOftenSpec) false w args) (Rows.mastOftenSpec.post enc Tryd.prog Tryd.f8 false true false false) := by
 refine returnsInHanded_of_change_and (C := Tryd.checked) (X := fun w _ => laidMetH Tryd.prog Laid.laid2 w) (fun _ _ _ hh h => h.of_heap hh) own started (by kernel_rfl) Tryd.func8
  (ChangeSpec.witness_shaped (enc := enc) (C := Tryd.checked) (os := os) (X := fun w _ => laidMetH Tryd.prog Laid.laid2 w) false (World.doorLaid Tryd.prog 4000 os) #[.slice none 0 0] 8 rfl (World.shaped_of_RefB (by kernel_rfl) (by kernel_rfl)) (by kernel_rfl) (by kernel_rfl) (by kernel_rfl) (Laid.door_met os _)) ?_
 intro W base args ds gs before hval0 hW hcnd hsz0 hL _
 have hval : ∀ (j : Nat) t v, Tryd.f8.params[j]? = some t → args[j]? = some v → Value.okWide Tryd.prog W .any base t v := hval0
 have hW' := hW
 obtain ⟨p, q, hA0, hV, rfl, hfz, hnd⟩ := hW
 have hA : DataW.TrodAll enc Tryd.prog W 0 (fun _ => true) true Tryd.f8.params.toList args.toList ds p := hA0
 rw [Tryd.params8] at hA hval
 obtain ⟨v0, vs0, d0, ds0, p0, q0, hargs, rfl, rfl, h0, r0⟩ := trodAll_cons hA
 obtain ⟨rfl, rfl, rfl⟩ := trodAll_nil r0
 obtain rfl : args = #[v0] := by cases args; simp_all
 obtain ⟨rfl, rfl⟩ := trodVars_none hV
 obtain ⟨b0, len0, cap0, rfl⟩ := okWide_slice Tryd.underlying22 (hval 0 22 v0 rfl rfl)
 have k0 := h0
 have lt0 : ∀ x ∈ p0, x.block < W.heap.size := by obtain ⟨m, hm⟩ := k0; exact DataW.trod_lt m _ _ _ hm
 obtain ⟨fuel0, hf0⟩ := h0
 obtain ⟨l0, ⟨A0, c0, hcs0, hc0, hr0⟩, hg0⟩ := (opens_slice Tryd.underlying22 (opens_iso (f := fun x : S46 => (x.f0, x.f1)) (fun p => ⟨p.1, p.2⟩) (fun _ => rfl) (opens_struct Tryd.underlying46 (by kernel_rfl) (opensF_cons rfl (by kernel_rfl) (opens_int Tryd.underlying3) (opensF_one rfl (by kernel_rfl) (opens_int Tryd.underlying3))))) (by kernel_rfl)) H enc W fuel0 _ _ hf0
 simp [Value.cells] at hcs0
 obtain ⟨rfl, rfl, rfl⟩ := hcs0
 clear hA0 hval0 hsz0
 obtain ⟨k, h⟩ := Pure.MastOften l0 hg0
 refine (dropperlaw01_MastOften.calls k _ _ l0 true W hr0 hc0 (Laid.tabs_of hL) h).mono fun e W' ⟨he, bel0⟩ => ?_
 have bel : Below W.heap.size W W' := bel0
 subst he
 exact ⟨_, rfl, _, _, _, [], _, [], hW', trodAll_mk1 (shut_bool Tryd.underlying4 _), (trodAll_cons_mk (Below.trod laidOut (by kernel_rfl) (of_decide_eq_true (by kernel_rfl)) k0 bel lt0) trodAll_mk0), rfl, bel.frame _, fun h => by cases h⟩
theorem over : Rows.mastOftenRow.holds Tryd.pinned (OpenSpec.ofChange Rows.mastOftenSpec) :=
 OpenClaim.holds_of_wide 8 Tryd.f8 rfl rfl rfl rfl rfl rfl rfl ⟨rfl, rfl, rfl, rfl, rfl⟩ rfl rfl rfl rfl rfl (by kernel_rfl) Tryd.func8 (by kernel_rfl)
  (of_decide_eq_true (by kernel_rfl)) (by unfold Func.isWrapper; first | (rw [if_pos (by decide +kernel)]; kernel_rfl) | (rw [if_neg (by decide +kernel)]; exact ⟨rfl, rfl⟩))
  (fun os started H enc _ => lifted os started H enc)
theorem card_holds : Rows.MastOftenCardSaid :=
 Claim7.holds_tied_plain_at .later [] [.data, .data, .data] true (true, "d919e17aca2791b8c412353f2b117ae8d034433952b93dc40eac1d6d377e885d") false
  over (fun _ h => by cases h) (by kernel_rfl) (fun _ h => by cases h) mastOften_row_tie rfl ⟨rfl, rfl⟩ (by kernel_rfl) rfl
  (fun f fn hf hfn => by
   obtain rfl : f = 8 := Option.some.inj ((show Tryd.prog.funcNamed "dropper/dropperlaw01.MastOften" = some 8 by kernel_rfl).symm.trans hf) |>.symm
   obtain rfl : fn = Tryd.f8 := (Option.some.inj (Tryd.func8.symm.trans hfn)).symm
   exact ⟨by kernel_rfl, fun j t ht => by
    rw [Tryd.params8] at ht
    have hall : ∀ t ∈ (#[22] : Array TypeId), Tryd.prog.wantsStandIn t = false := by decide +kernel
    exact hall t (Array.mem_of_getElem? ht)⟩)
  (by kernel_rfl)
#print axioms card_holds
end Go.Proofs.YtcmdcgghpkcchaaDoor.mastOften
namespace Go.Proofs.YtcmdcgghpkcchaaDoor
theorem mastOften_holds : Rows.MastOftenCardSaid := mastOften.card_holds
end Go.Proofs.YtcmdcgghpkcchaaDoor
