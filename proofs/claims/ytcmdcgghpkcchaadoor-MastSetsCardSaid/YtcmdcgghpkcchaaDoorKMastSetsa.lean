-- Written by wip/pack.py of this repo: texts of this claim, put together.
import Derived.Test.YtcmdcgghpkcchaaDoorRows
import Derived.Test.YtcmdcgghpkcchaaDoorTie
import Derived.Test.YtcmdcgghpkcchaaDoorCards
import Derived.SevenTiedAt
import Derived.LaidMore
import Derived.Stop.Joined
import Derived.WalkKit
import Derived.ProofKit
import Derived.OpenShut
import Derived.ShutString
import Derived.ChangeOld
import Derived.Below
import Derived.SizedLaws
import Derived.Test.YtcmdcgghpkcchaaDoorKMastf
namespace Go.Proofs.YtcmdcgghpkcchaaDoor.XMast
open Go.RowKit Go.Proofs.YtcmdcgghpkcchaaDoorW.PrintWords Go.Proofs.YtcmdcgghpkcchaaDoorW.PrintLast Go.Proofs.YtcmdcgghpkcchaaDoorW.PrintMore
attribute [local go_sem] max2_int min2_int max_two min_two max_three min_three max_four min_four   -- for this text's walks alone
set_option linter.unusedVariables false
set_option linter.unusedSimpArgs false
/-! ### dropperlaw01_MastSets: function 6 -/
def dropperlaw01_MastSets.j0 : Nat → List (S46) → List (S46) → Bool → Option (Bool)
 | 0, _, _, _ => none
 | k + 1, x0, x1, x62 => if x62 = true then (none) else ((mast_Without.f k x0 x1).bind fun bt397 => ((dropperref01_Without.f k x0 x1).bind fun bt401 => ((mast_Under.f k x0 x1).bind fun bt405 => ((dropperref01_Under.f k x0 x1).bind fun bt407 => ((dropperlaw01_Same.f k bt397.1 bt401.1).bind fun t409 => (if t409 = true then (if bt397.2 = bt401.2 then (if (bt405.1 == bt407.1) = true then (if bt405.2 = bt407.2 then ((dropperlaw01_First.f k).bind fun t410 => (some t410)) else (none)) else (none)) else (none)) else (none)))))))
def dropperlaw01_MastSets.f (k : Nat) (l0 : List (S46)) (l1 : List (S46)) : Option (Bool) := (dropperlaw01_Long.f l0 l1).bind fun t377 => (if t377 = true then ((dropperlaw01_First.f k).bind fun t378 => (some t378)) else ((mast_Join.f k l0 l1).bind fun bt379 => ((dropperref01_Join.f k l0 l1).bind fun bt383 => ((mast_Both.f k l0 l1).bind fun bt387 => ((dropperref01_Both.f k l0 l1).bind fun bt391 => ((dropperlaw01_Same.f k bt379.1 bt383.1).bind fun t395 => (if t395 = true then (if bt379.2 = bt383.2 then ((dropperlaw01_Same.f k bt387.1 bt391.1).bind fun t396 => (if t396 = true then (dropperlaw01_MastSets.j0 k l0 l1 (bt387.2 != bt391.2)) else (dropperlaw01_MastSets.j0 k l0 l1 true))) else (dropperlaw01_MastSets.j0 k l0 l1 true)) else (dropperlaw01_MastSets.j0 k l0 l1 true))))))))
set_option maxHeartbeats 8000000 in
set_option maxRecDepth 100000 in
theorem dropperlaw01_MastSets.calls (k : Nat) (A0 : Option Addr) (c0 : Nat) (l0 : List (S46)) (A1 : Option Addr) (c1 : Nat) (l1 : List (S46)) (r : Bool) (w : World) (hr0 : Kd.C k46 w A0 l0.length l0) (hc0 : l0.length ≤ c0) (hr1 : Kd.C k46 w A1 l1.length l1) (hc1 : l1.length ≤ c1) (hT : Tab.Tabs w) (h : dropperlaw01_MastSets.f k l0 l1 = some r) :
  Calls Tryd.prog 6 #[.slice A0 l0.length c0, .slice A1 l1.length c1] w fun e w' => e = .returned (.bool r) ∧ Below w.heap.size w w' := by
 have HT := Aside0.mk hT
 clear hT
 have HR0 := Aside0.mk hr0
 have HC0 := Aside0.mk hc0
 clear hr0 hc0
 have HR1 := Aside0.mk hr1
 have HC1 := Aside0.mk hc1
 clear hr1 hc1
 have HB := Aside0.mk (Below.refl w.heap.size w)
 have H : ((dropperlaw01_Long.f l0 l1).bind fun t377 => (if t377 = true then ((dropperlaw01_First.f k).bind fun t378 => (some t378)) else ((mast_Join.f k l0 l1).bind fun bt379 => ((dropperref01_Join.f k l0 l1).bind fun bt383 => ((mast_Both.f k l0 l1).bind fun bt387 => ((dropperref01_Both.f k l0 l1).bind fun bt391 => ((dropperlaw01_Same.f k bt379.1 bt383.1).bind fun t395 => (if t395 = true then (if bt379.2 = bt383.2 then ((dropperlaw01_Same.f k bt387.1 bt391.1).bind fun t396 => (if t396 = true then (dropperlaw01_MastSets.j0 k l0 l1 (bt387.2 != bt391.2)) else (dropperlaw01_MastSets.j0 k l0 l1 true))) else (dropperlaw01_MastSets.j0 k l0 l1 true)) else (dropperlaw01_MastSets.j0 k l0 l1 true))))))))) = some r := h
 clear h
 replace H := Option.bind_eq_some_iff.mp H
 obtain ⟨t377, A30, H⟩ := H
 try dsimp only at H
 have A3 := Aside0.mk A30
 clear A30
 by_cases c4 : t377 = true
 ·
  subst c4
  rw [if_pos rfl] at H
  replace H := Option.bind_eq_some_iff.mp H
  obtain ⟨t378, A50, H⟩ := H
  try dsimp only at H
  have A5 := Aside0.mk A50
  clear A50
  obtain rfl := Option.some.inj H
  go_enter Tryd.func6, Tryd.ntmps6
  go_wp2_with (first | ((with_reducible refine gate_callee (f := 10) rfl ?_); refine goesL_ (some 17) rfl rfl Tryd.func10 (by kernel_rfl) rfl #[.slice A0 l0.length c0, .slice A1 l1.length c1] rfl mapz ?_; (with_reducible refine (dropperlaw01_Long.calls _ _ l0 _ _ l1 true _ ?side1 HC0.out ?side3 HC1.out A3.out).mono ?_); (case side1 => repeat (first | exact HR0.out | (with_reducible refine Kd.C_alloc ?_ _) | (with_reducible refine Kd.C_drewN ?_ _) | (with_reducible refine Kd.C_drew ?_))); (case side3 => repeat (first | exact HR1.out | (with_reducible refine Kd.C_alloc ?_ _) | (with_reducible refine Kd.C_drewN ?_ _) | (with_reducible refine Kd.C_drew ?_))); rintro e w' ⟨rfl, ⟨nd, rfl⟩⟩; refine ⟨_, rfl, ?_⟩) | ((with_reducible refine gate_callee (f := 11) rfl ?_); refine goesL_ (some 18) rfl rfl Tryd.func11 (by kernel_rfl) rfl #[] rfl mapz ?_; (with_reducible refine (dropperlaw01_First.calls k  t378 _ (tbz HT) A5.out).mono ?_); rintro e w6 ⟨rfl, hb⟩; refine ⟨_, rfl, ?_⟩; replace HB := Aside0.mk (below_step bel hb); clear hb))
  go_ret
  exact ⟨ezz, bel⟩
 ·
  replace c4 := Bool.eq_false_iff.mpr c4
  subst c4
  rw [if_neg (show ¬ (false = true) by decide)] at H
  replace H := Option.bind_eq_some_iff.mp H
  obtain ⟨⟨t379, t380⟩, A70, H⟩ := H
  try dsimp only at H
  have A7 := Aside0.mk A70
  clear A70
  replace H := Option.bind_eq_some_iff.mp H
  obtain ⟨⟨t383, t384⟩, A80, H⟩ := H
  try dsimp only at H
  have A8 := Aside0.mk A80
  clear A80
  replace H := Option.bind_eq_some_iff.mp H
  obtain ⟨⟨t387, t388⟩, A90, H⟩ := H
  try dsimp only at H
  have A9 := Aside0.mk A90
  clear A90
  replace H := Option.bind_eq_some_iff.mp H
  obtain ⟨⟨t391, t392⟩, A100, H⟩ := H
  try dsimp only at H
  have A10 := Aside0.mk A100
  clear A100
  have HC11 := Aside0.mk H
  clear H
  go_enter Tryd.func6, Tryd.ntmps6
  go_upto_region 7 with (first | ((with_reducible refine gate_callee (f := 10) rfl ?_); refine goesL_ (some 17) rfl rfl Tryd.func10 (by kernel_rfl) rfl #[.slice A0 l0.length c0, .slice A1 l1.length c1] rfl mapz ?_; (with_reducible refine (dropperlaw01_Long.calls _ _ l0 _ _ l1 false _ ?side1 HC0.out ?side3 HC1.out A3.out).mono ?_); (case side1 => repeat (first | exact HR0.out | (with_reducible refine Kd.C_alloc ?_ _) | (with_reducible refine Kd.C_drewN ?_ _) | (with_reducible refine Kd.C_drew ?_))); (case side3 => repeat (first | exact HR1.out | (with_reducible refine Kd.C_alloc ?_ _) | (with_reducible refine Kd.C_drewN ?_ _) | (with_reducible refine Kd.C_drew ?_))); rintro e w' ⟨rfl, ⟨nd, rfl⟩⟩; refine ⟨_, rfl, ?_⟩) | ((with_reducible refine gate_callee (f := 29) rfl ?_); refine goesL_ (some 22) rfl rfl Tryd.func29 (by kernel_rfl) rfl #[.slice A0 l0.length c0, .slice A1 l1.length c1] rfl mapz ?_; (with_reducible refine (mast_Join.calls k _ _ l0 _ _ l1 t379 t380 _ ?side1 HC0.out ?side3 HC1.out A7.out).mono ?_); (case side1 => repeat (first | exact HR0.out | (with_reducible refine Kd.C_alloc ?_ _) | (with_reducible refine Kd.C_drewN ?_ _) | (with_reducible refine Kd.C_drew ?_))); (case side3 => repeat (first | exact HR1.out | (with_reducible refine Kd.C_alloc ?_ _) | (with_reducible refine Kd.C_drewN ?_ _) | (with_reducible refine Kd.C_drew ?_))); rintro e w12 ⟨v381, rfl, ho0, hb⟩; refine ⟨_, rfl, ?_⟩; have HO382 := Aside0.mk (Kd.R_lower ho0 (below_size bel)); replace HB := Aside0.mk (below_step bel hb); (try clear hb); (try clear hb2); (try clear hk); (try clear hi); (try clear ho0)) | ((with_reducible refine gate_callee (f := 30) rfl ?_); refine goesL_ (some 28) rfl rfl Tryd.func30 (by kernel_rfl) rfl #[.slice A0 l0.length c0, .slice A1 l1.length c1] rfl mapz ?_; (with_reducible refine (dropperref01_Join.calls k _ _ l0 _ _ l1 t383 t384 _ (cbz HR0) HC0.out (cbz HR1) HC1.out A8.out).mono ?_); rintro e w13 ⟨v385, rfl, ho0, hb⟩; refine ⟨_, rfl, ?_⟩; have HO386 := Aside0.mk (Kd.R_lower (Kd.R_new' ho0 (Kd.R_lt (ownx HO382))) (below_size bel)); replace HO382 := Aside0.mk (Kd.R_elder' (ownx HO382) (Kd.R_base ho0) hb); replace HB := Aside0.mk (below_step bel hb); (try clear hb); (try clear hb2); (try clear hk); (try clear hi); (try clear ho0)) | ((with_reducible refine gate_callee (f := 31) rfl ?_); refine goesL_ (some 34) rfl rfl Tryd.func31 (by kernel_rfl) rfl #[.slice A0 l0.length c0, .slice A1 l1.length c1] rfl mapz ?_; (with_reducible refine (mast_Both.calls k _ _ l0 _ _ l1 t387 t388 _ (cbz HR0) HC0.out (cbz HR1) HC1.out A9.out).mono ?_); rintro e w14 ⟨v389, rfl, ho0, hb⟩; refine ⟨_, rfl, ?_⟩; have HO390 := Aside0.mk (Kd.R_lower (Kd.R_new' (Kd.R_new' ho0 (Kd.R_lt (ownx HO382))) (Kd.R_lt (ownx HO386))) (below_size bel)); replace HO382 := Aside0.mk (Kd.R_elder' (ownx HO382) (Kd.R_base ho0) hb); replace HO386 := Aside0.mk (Kd.R_elder' (ownx HO386) (Kd.R_base ho0) hb); replace HB := Aside0.mk (below_step bel hb); (try clear hb); (try clear hb2); (try clear hk); (try clear hi); (try clear ho0)) | ((with_reducible refine gate_callee (f := 32) rfl ?_); refine goesL_ (some 40) rfl rfl Tryd.func32 (by kernel_rfl) rfl #[.slice A0 l0.length c0, .slice A1 l1.length c1] rfl mapz ?_; (with_reducible refine (dropperref01_Both.calls k _ _ l0 _ _ l1 t391 t392 _ (cbz HR0) HC0.out (cbz HR1) HC1.out A10.out).mono ?_); rintro e w15 ⟨v393, rfl, ho0, hb⟩; refine ⟨_, rfl, ?_⟩; have HO394 := Aside0.mk (Kd.R_lower (Kd.R_new' (Kd.R_new' (Kd.R_new' ho0 (Kd.R_lt (ownx HO382))) (Kd.R_lt (ownx HO386))) (Kd.R_lt (ownx HO390))) (below_size bel)); replace HO382 := Aside0.mk (Kd.R_elder' (ownx HO382) (Kd.R_base ho0) hb); replace HO386 := Aside0.mk (Kd.R_elder' (ownx HO386) (Kd.R_base ho0) hb); replace HO390 := Aside0.mk (Kd.R_elder' (ownx HO390) (Kd.R_base ho0) hb); replace HB := Aside0.mk (below_step bel hb); (try clear hb); (try clear hb2); (try clear hk); (try clear hi); (try clear ho0)))
  (try simp only [Act.put, List.setIfInBounds_toArray, List.set_cons_zero, List.set_cons_succ])
  go_cut [62] (fun v62 wc => ∃ (kq : Nat) (x62_10 : Bool), v62 = .bool x62_10 ∧ Aside0 (dropperlaw01_MastSets.j0 kq l0 l1 x62_10 = some r) ∧ Aside0 (kq ≤ k) ∧ Aside0 (Below w.heap.size w wc))
  case first =>
   have H := HC11.out
   clear HC11
   replace H := Option.bind_eq_some_iff.mp H
   obtain ⟨t395, A160, H⟩ := H
   try dsimp only at H
   have A16 := Aside0.mk A160
   clear A160
   by_cases c17 : t395 = true
   ·
    subst c17
    rw [if_pos rfl] at H
    by_cases c18 : t380 = t384
    ·
     rw [if_pos c18] at H
     have c18b0 : (t380 == t384) = true := beq_iff_eq.mpr c18
     have c18b1 : (t380 != t384) = false := bne_eq_false_iff_eq.mpr c18
     clear c18
     (first | rw [c18b0] | (simp only [i64_w, i32_w]; rw [c18b0]) | skip)
     replace H := Option.bind_eq_some_iff.mp H
     obtain ⟨t396, A190, H⟩ := H
     try dsimp only at H
     have A19 := Aside0.mk A190
     clear A190
     by_cases c20 : t396 = true
     ·
      subst c20
      rw [if_pos rfl] at H
      have H' := Aside0.mk H
      clear H
      obtain ⟨Ao21, co21, eo21⟩ := Kd.R_slice HO382.out
      subst eo21
      obtain ⟨Ao22, co22, eo22⟩ := Kd.R_slice HO386.out
      subst eo22
      go_wp2_with (first | ((with_reducible refine gate_callee (f := 16) rfl ?_); refine goesL_ (some 45) rfl rfl Tryd.func16 (by kernel_rfl) rfl #[.slice Ao21 t379.length co21, .slice Ao22 t383.length co22] rfl mapz ?_; (with_reducible refine (dropperlaw01_Same.calls k _ _ t379 _ _ t383 true _ ?side1 ?side2 ?side3 ?side4 A16.out).mono ?_); (case side1 => repeat (first | exact (Kd.R_reads' HO382.out).2.2 | (with_reducible refine Kd.C_alloc ?_ _) | (with_reducible refine Kd.C_drewN ?_ _) | (with_reducible refine Kd.C_drew ?_))); (case side2 => exact (Kd.R_reads' HO382.out).2.1); (case side3 => repeat (first | exact (Kd.R_reads' HO386.out).2.2 | (with_reducible refine Kd.C_alloc ?_ _) | (with_reducible refine Kd.C_drewN ?_ _) | (with_reducible refine Kd.C_drew ?_))); (case side4 => exact (Kd.R_reads' HO386.out).2.1); rintro e w' ⟨rfl, ⟨nd, rfl⟩⟩; refine ⟨_, rfl, ?_⟩; obtain ⟨Ao23, co23, eo23⟩ := Kd.R_slice HO390.out; subst eo23; obtain ⟨Ao24, co24, eo24⟩ := Kd.R_slice HO394.out; subst eo24) | (go_at_call 16; (with_reducible refine (dropperlaw01_Same.calls k _ _ t387 _ _ t391 true _ ?side1 ?side2 ?side3 ?side4 A19.out).mono ?_); (case side1 => repeat (first | exact (Kd.R_reads' HO390.out).2.2 | (with_reducible refine Kd.C_alloc ?_ _) | (with_reducible refine Kd.C_drewN ?_ _) | (with_reducible refine Kd.C_drew ?_))); (case side2 => exact (Kd.R_reads' HO390.out).2.1); (case side3 => repeat (first | exact (Kd.R_reads' HO394.out).2.2 | (with_reducible refine Kd.C_alloc ?_ _) | (with_reducible refine Kd.C_drewN ?_ _) | (with_reducible refine Kd.C_drew ?_))); (case side4 => exact (Kd.R_reads' HO394.out).2.1); rintro e w' ⟨rfl, ⟨nd, rfl⟩⟩))
      go_meet
      case rel => exact ⟨_, ((t388 != t392)), rsz, H', ⟨by first | omega | exact Nat.le_refl _⟩, ⟨bel⟩⟩
     ·
      replace c20 := Bool.eq_false_iff.mpr c20
      subst c20
      rw [if_neg (show ¬ (false = true) by decide)] at H
      have H' := Aside0.mk H
      clear H
      obtain ⟨Ao25, co25, eo25⟩ := Kd.R_slice HO382.out
      subst eo25
      obtain ⟨Ao26, co26, eo26⟩ := Kd.R_slice HO386.out
      subst eo26
      go_wp2_with (first | ((with_reducible refine gate_callee (f := 16) rfl ?_); refine goesL_ (some 45) rfl rfl Tryd.func16 (by kernel_rfl) rfl #[.slice Ao25 t379.length co25, .slice Ao26 t383.length co26] rfl mapz ?_; (with_reducible refine (dropperlaw01_Same.calls k _ _ t379 _ _ t383 true _ ?side1 ?side2 ?side3 ?side4 A16.out).mono ?_); (case side1 => repeat (first | exact (Kd.R_reads' HO382.out).2.2 | (with_reducible refine Kd.C_alloc ?_ _) | (with_reducible refine Kd.C_drewN ?_ _) | (with_reducible refine Kd.C_drew ?_))); (case side2 => exact (Kd.R_reads' HO382.out).2.1); (case side3 => repeat (first | exact (Kd.R_reads' HO386.out).2.2 | (with_reducible refine Kd.C_alloc ?_ _) | (with_reducible refine Kd.C_drewN ?_ _) | (with_reducible refine Kd.C_drew ?_))); (case side4 => exact (Kd.R_reads' HO386.out).2.1); rintro e w' ⟨rfl, ⟨nd, rfl⟩⟩; refine ⟨_, rfl, ?_⟩; obtain ⟨Ao27, co27, eo27⟩ := Kd.R_slice HO390.out; subst eo27; obtain ⟨Ao28, co28, eo28⟩ := Kd.R_slice HO394.out; subst eo28) | (go_at_call 16; (with_reducible refine (dropperlaw01_Same.calls k _ _ t387 _ _ t391 false _ ?side1 ?side2 ?side3 ?side4 A19.out).mono ?_); (case side1 => repeat (first | exact (Kd.R_reads' HO390.out).2.2 | (with_reducible refine Kd.C_alloc ?_ _) | (with_reducible refine Kd.C_drewN ?_ _) | (with_reducible refine Kd.C_drew ?_))); (case side2 => exact (Kd.R_reads' HO390.out).2.1); (case side3 => repeat (first | exact (Kd.R_reads' HO394.out).2.2 | (with_reducible refine Kd.C_alloc ?_ _) | (with_reducible refine Kd.C_drewN ?_ _) | (with_reducible refine Kd.C_drew ?_))); (case side4 => exact (Kd.R_reads' HO394.out).2.1); rintro e w' ⟨rfl, ⟨nd, rfl⟩⟩))
      go_meet
      case rel => exact ⟨_, (true), rsz, H', ⟨by first | omega | exact Nat.le_refl _⟩, ⟨bel⟩⟩
    ·
     rw [if_neg c18] at H
     have c18b0 : (t380 == t384) = false := beq_eq_false_iff_ne.mpr c18
     have c18b1 : (t380 != t384) = true := bne_iff_ne.mpr c18
     (first | rw [c18b0] | (simp only [i64_w, i32_w]; rw [c18b0]) | skip)
     have H' := Aside0.mk H
     clear H
     obtain ⟨Ao29, co29, eo29⟩ := Kd.R_slice HO382.out
     subst eo29
     obtain ⟨Ao30, co30, eo30⟩ := Kd.R_slice HO386.out
     subst eo30
     go_wp2_with (first | ((with_reducible refine gate_callee (f := 16) rfl ?_); refine goesL_ (some 45) rfl rfl Tryd.func16 (by kernel_rfl) rfl #[.slice Ao29 t379.length co29, .slice Ao30 t383.length co30] rfl mapz ?_; (with_reducible refine (dropperlaw01_Same.calls k _ _ t379 _ _ t383 true _ ?side1 ?side2 ?side3 ?side4 A16.out).mono ?_); (case side1 => repeat (first | exact (Kd.R_reads' HO382.out).2.2 | (with_reducible refine Kd.C_alloc ?_ _) | (with_reducible refine Kd.C_drewN ?_ _) | (with_reducible refine Kd.C_drew ?_))); (case side2 => exact (Kd.R_reads' HO382.out).2.1); (case side3 => repeat (first | exact (Kd.R_reads' HO386.out).2.2 | (with_reducible refine Kd.C_alloc ?_ _) | (with_reducible refine Kd.C_drewN ?_ _) | (with_reducible refine Kd.C_drew ?_))); (case side4 => exact (Kd.R_reads' HO386.out).2.1); rintro e w' ⟨rfl, ⟨nd, rfl⟩⟩; refine ⟨_, rfl, ?_⟩))
     go_meet
     case rel => exact ⟨_, (true), rsz, H', ⟨by first | omega | exact Nat.le_refl _⟩, ⟨bel⟩⟩
   ·
    replace c17 := Bool.eq_false_iff.mpr c17
    subst c17
    rw [if_neg (show ¬ (false = true) by decide)] at H
    have H' := Aside0.mk H
    clear H
    obtain ⟨Ao31, co31, eo31⟩ := Kd.R_slice HO382.out
    subst eo31
    obtain ⟨Ao32, co32, eo32⟩ := Kd.R_slice HO386.out
    subst eo32
    go_wp2_with (first | ((with_reducible refine gate_callee (f := 16) rfl ?_); refine goesL_ (some 45) rfl rfl Tryd.func16 (by kernel_rfl) rfl #[.slice Ao31 t379.length co31, .slice Ao32 t383.length co32] rfl mapz ?_; (with_reducible refine (dropperlaw01_Same.calls k _ _ t379 _ _ t383 false _ ?side1 ?side2 ?side3 ?side4 A16.out).mono ?_); (case side1 => repeat (first | exact (Kd.R_reads' HO382.out).2.2 | (with_reducible refine Kd.C_alloc ?_ _) | (with_reducible refine Kd.C_drewN ?_ _) | (with_reducible refine Kd.C_drew ?_))); (case side2 => exact (Kd.R_reads' HO382.out).2.1); (case side3 => repeat (first | exact (Kd.R_reads' HO386.out).2.2 | (with_reducible refine Kd.C_alloc ?_ _) | (with_reducible refine Kd.C_drewN ?_ _) | (with_reducible refine Kd.C_drew ?_))); (case side4 => exact (Kd.R_reads' HO386.out).2.1); rintro e w' ⟨rfl, ⟨nd, rfl⟩⟩; refine ⟨_, rfl, ?_⟩))
    go_meet
    case rel => exact ⟨_, (true), rsz, H', ⟨by first | omega | exact Nat.le_refl _⟩, ⟨bel⟩⟩
  case rest =>
   clear HC11
   (try clear c1); (try clear c2); (try clear p2); (try clear c3); (try clear c4); (try clear c6); (try clear c10); (try clear c11); (try clear c16); (try clear c17); (try clear c18); (try clear c18b0); (try clear c18b1); (try clear c20); (try clear c29); (try clear c30); (try clear c31); (try clear c32)
   obtain ⟨kq, x62_10, rfl, HA, HJ10, HB⟩ := hcut
   cases kq with
   | zero => exact absurd HA.out (by simp [dropperlaw01_MastSets.j0])
   | succ kj10 =>
    have H := HA.out
    clear HA
    simp only [dropperlaw01_MastSets.j0] at H
    by_cases c33 : x62_10 = true
    ·
     subst c33
     rw [if_pos rfl] at H
     exact absurd H (by simp)
    ·
     replace c33 := Bool.eq_false_iff.mpr c33
     subst c33
     rw [if_neg (show ¬ (false = true) by decide)] at H
     replace H := Option.bind_eq_some_iff.mp H
     obtain ⟨⟨t397, t398⟩, A340, H⟩ := H
     try dsimp only at H
     have A34 := Aside0.mk A340
     clear A340
     replace H := Option.bind_eq_some_iff.mp H
     obtain ⟨⟨t401, t402⟩, A350, H⟩ := H
     try dsimp only at H
     have A35 := Aside0.mk A350
     clear A350
     replace H := Option.bind_eq_some_iff.mp H
     obtain ⟨⟨t405, t406⟩, A360, H⟩ := H
     try dsimp only at H
     have A36 := Aside0.mk A360
     clear A360
     replace H := Option.bind_eq_some_iff.mp H
     obtain ⟨⟨t407, t408⟩, A370, H⟩ := H
     try dsimp only at H
     have A37 := Aside0.mk A370
     clear A370
     replace H := Option.bind_eq_some_iff.mp H
     obtain ⟨t409, A380, H⟩ := H
     try dsimp only at H
     have A38 := Aside0.mk A380
     clear A380
     by_cases c39 : t409 = true
     ·
      subst c39
      rw [if_pos rfl] at H
      by_cases c40 : t398 = t402
      ·
       rw [if_pos c40] at H
       have c40b0 : (t398 == t402) = true := beq_iff_eq.mpr c40
       have c40b1 : (t398 != t402) = false := bne_eq_false_iff_eq.mpr c40
       clear c40
       by_cases c41 : (t405 == t407) = true
       ·
        rw [if_pos c41] at H
        have c41b0 : (t405 == t407) = true := c41
        (try (have c41b1 : decide (t405 = t407) = true := by simpa using c41))
        (try (have c41b2 : (t405 == t407) = true := by simpa using c41))
        clear c41
        by_cases c42 : t406 = t408
        ·
         rw [if_pos c42] at H
         have c42b0 : (t406 == t408) = true := beq_iff_eq.mpr c42
         have c42b1 : (t406 != t408) = false := bne_eq_false_iff_eq.mpr c42
         clear c42
         replace H := Option.bind_eq_some_iff.mp H
         obtain ⟨t410, A430, H⟩ := H
         try dsimp only at H
         have A43 := Aside0.mk A430
         clear A430
         obtain rfl := Option.some.inj H
         go_wp2_with (first | ((with_reducible refine gate_callee (f := 33) rfl ?_); refine goesL_ (some 66) rfl rfl Tryd.func33 (by kernel_rfl) rfl #[.slice A0 l0.length c0, .slice A1 l1.length c1] rfl mapz ?_; (with_reducible refine (mast_Without.calls kj10 _ _ l0 _ _ l1 t397 t398 _ (cbz HR0) HC0.out (cbz HR1) HC1.out A34.out).mono ?_); rintro e w44 ⟨v399, rfl, ho0, hb⟩; refine ⟨_, rfl, ?_⟩; have HO400 := Aside0.mk (Kd.R_lower ho0 (below_size bel)); replace HB := Aside0.mk (below_step bel hb); (try clear hb); (try clear hb2); (try clear hk); (try clear hi); (try clear ho0)) | ((with_reducible refine gate_callee (f := 34) rfl ?_); refine goesL_ (some 72) rfl rfl Tryd.func34 (by kernel_rfl) rfl #[.slice A0 l0.length c0, .slice A1 l1.length c1] rfl mapz ?_; (with_reducible refine (dropperref01_Without.calls kj10 _ _ l0 _ _ l1 t401 t402 _ (cbz HR0) HC0.out (cbz HR1) HC1.out A35.out).mono ?_); rintro e w45 ⟨v403, rfl, ho0, hb⟩; refine ⟨_, rfl, ?_⟩; have HO404 := Aside0.mk (Kd.R_lower (Kd.R_new' ho0 (Kd.R_lt (ownx HO400))) (below_size bel)); replace HO400 := Aside0.mk (Kd.R_elder' (ownx HO400) (Kd.R_base ho0) hb); replace HB := Aside0.mk (below_step bel hb); (try clear hb); (try clear hb2); (try clear hk); (try clear hi); (try clear ho0)) | ((with_reducible refine gate_callee (f := 35) rfl ?_); refine goesL_ (some 78) rfl rfl Tryd.func35 (by kernel_rfl) rfl #[.slice A0 l0.length c0, .slice A1 l1.length c1] rfl mapz ?_; (with_reducible refine (mast_Under.calls kj10 _ _ l0 _ _ l1 t405 t406 _ (cbz HR0) HC0.out (cbz HR1) HC1.out A36.out).mono ?_); rintro e w46 ⟨rfl, hb⟩; refine ⟨_, rfl, ?_⟩; replace HO400 := Aside0.mk (Kd.R_below (ownx HO400) hb); replace HO404 := Aside0.mk (Kd.R_below (ownx HO404) hb); replace HB := Aside0.mk (below_step bel hb); clear hb) | ((with_reducible refine gate_callee (f := 36) rfl ?_); refine goesL_ (some 84) rfl rfl Tryd.func36 (by kernel_rfl) rfl #[.slice A0 l0.length c0, .slice A1 l1.length c1] rfl mapz ?_; (with_reducible refine (dropperref01_Under.calls kj10 _ _ l0 _ _ l1 t407 t408 _ (cbz HR0) HC0.out (cbz HR1) HC1.out A37.out).mono ?_); rintro e w47 ⟨rfl, hb⟩; refine ⟨_, rfl, ?_⟩; replace HO400 := Aside0.mk (Kd.R_below (ownx HO400) hb); replace HO404 := Aside0.mk (Kd.R_below (ownx HO404) hb); replace HB := Aside0.mk (below_step bel hb); clear hb; obtain ⟨Ao48, co48, eo48⟩ := Kd.R_slice HO400.out; subst eo48; obtain ⟨Ao49, co49, eo49⟩ := Kd.R_slice HO404.out; subst eo49) | ((with_reducible refine gate_callee (f := 16) rfl ?_); refine goesL_ (some 89) rfl rfl Tryd.func16 (by kernel_rfl) rfl #[.slice Ao48 t397.length co48, .slice Ao49 t401.length co49] rfl mapz ?_; (with_reducible refine (dropperlaw01_Same.calls kj10 _ _ t397 _ _ t401 true _ ?side1 ?side2 ?side3 ?side4 A38.out).mono ?_); (case side1 => repeat (first | exact (Kd.R_reads' HO400.out).2.2 | (with_reducible refine Kd.C_alloc ?_ _) | (with_reducible refine Kd.C_drewN ?_ _) | (with_reducible refine Kd.C_drew ?_))); (case side2 => exact (Kd.R_reads' HO400.out).2.1); (case side3 => repeat (first | exact (Kd.R_reads' HO404.out).2.2 | (with_reducible refine Kd.C_alloc ?_ _) | (with_reducible refine Kd.C_drewN ?_ _) | (with_reducible refine Kd.C_drew ?_))); (case side4 => exact (Kd.R_reads' HO404.out).2.1); rintro e w' ⟨rfl, ⟨nd, rfl⟩⟩; refine ⟨_, rfl, ?_⟩) | (go_at_call 11; (with_reducible refine (dropperlaw01_First.calls kj10  t410 _ (tbz HT) A43.out).mono ?_); rintro e w50 ⟨rfl, hb⟩; replace HO400 := Aside0.mk (Kd.R_below (ownx HO400) hb); replace HO404 := Aside0.mk (Kd.R_below (ownx HO404) hb); replace HB := Aside0.mk (below_step bel hb); clear hb))
         go_ret
         exact ⟨ezz, bel⟩
        ·
         rw [if_neg c42] at H
         exact absurd H (by simp)
       ·
        rw [if_neg c41] at H
        exact absurd H (by simp)
      ·
       rw [if_neg c40] at H
       exact absurd H (by simp)
     ·
      replace c39 := Bool.eq_false_iff.mpr c39
      subst c39
      rw [if_neg (show ¬ (false = true) by decide)] at H
      exact absurd H (by simp)

end Go.Proofs.YtcmdcgghpkcchaaDoor.XMast
-- Written by wip/xprint.py of this repo, over the kit's print.py: out of the translation; the oracles in it are by hand. Not trusted: Lean checks it.
namespace Go.Proofs.YtcmdcgghpkcchaaDoor.XMast
open Go.RowKit Go.Proofs.YtcmdcgghpkcchaaDoor.XMast Go.Proofs.YtcmdcgghpkcchaaDoorW.PrintWords Go.Proofs.YtcmdcgghpkcchaaDoorW.PrintLast Go.Proofs.YtcmdcgghpkcchaaDoorW.PrintMore
def dropperlaw01_MastSets.Pure : Prop := ∀ (l0 : List (S46)) (l1 : List (S46)), (l0.length ≤ 9223372036854775807 ∧ ∀ y0 ∈ l0, ((Lit.int .i64 y0.f0).wf = true) ∧ ((Lit.int .i64 y0.f1).wf = true)) → (l1.length ≤ 9223372036854775807 ∧ ∀ y0 ∈ l1, ((Lit.int .i64 y0.f0).wf = true) ∧ ((Lit.int .i64 y0.f1).wf = true)) → ∃ k, dropperlaw01_MastSets.f k l0 l1 = some true
end Go.Proofs.YtcmdcgghpkcchaaDoor.XMast

/- What two lists have together: program and reference answer the same. -/
namespace Go.Proofs.YtcmdcgghpkcchaaDoor.Pure
set_option linter.unusedVariables false
set_option linter.unusedSimpArgs false
open Go.RowKit Go.Proofs.YtcmdcgghpkcchaaDoor.XMast Go.Proofs.YtcmdcgghpkcchaaDoorW.PrintWords Go.Proofs.YtcmdcgghpkcchaaDoorW.PrintLast Go.Proofs.YtcmdcgghpkcchaaDoorW.PrintMore
open Go.Proofs.YtcmdcgghpkcchaaDoor.Lay
theorem MastSets : dropperlaw01_MastSets.Pure := by
 intro a b _ _
 refine Ev.rounds (r := true) (g := fun k => dropperlaw01_MastSets.f k a b) ?_
 unfold dropperlaw01_MastSets.f
 by_cases h : (a.length : Int) > 220
 ·
  exact ev_val (by unfold dropperlaw01_Long.f; rw [if_pos h]) (ev_pos rfl (Ev.bind first_ev (Ev.now _)))
 by_cases h2 : (b.length : Int) > 220
 ·
  exact ev_val (by unfold dropperlaw01_Long.f; rw [if_neg h]) (ev_pos (decide_eq_true h2) (Ev.bind first_ev (Ev.now _)))
 refine ev_val (by unfold dropperlaw01_Long.f; rw [if_neg h]) (ev_neg (by simpa using h2) ?_)
 obtain ⟨r, r1, r2, r3⟩ := Join_both a b (by omega) (by omega)
 obtain ⟨s, s1, s2, s3⟩ := Both_both a b (by omega) (by omega)
 obtain ⟨t, t1, t2, t3⟩ := Without_both a b (by omega) (by omega)
 obtain ⟨u, u1, u2⟩ := Under_both a b (by omega) (by omega)
 refine Ev.bind r1 (Ev.bind r2 (Ev.bind s1 (Ev.bind s2 (Ev.bind (same_refl r.1 (by omega)) (ev_pos rfl (ev_pos rfl (Ev.bind (same_refl s.1 (by omega)) (ev_pos rfl ?_))))))))
 exact Ev.step (fun k => by rw [dropperlaw01_MastSets.j0]) (ev_neg (by simp) (Ev.bind t1 (Ev.bind t2 (Ev.bind u1 (Ev.bind u2 (Ev.bind (same_refl t.1 (by omega)) (ev_pos rfl (ev_pos rfl (ev_pos (beq_self_eq_true u.1) (ev_pos rfl (Ev.bind first_ev (Ev.now _))))))))))))
end Go.Proofs.YtcmdcgghpkcchaaDoor.Pure

-- Written by wip/xprint.py of this repo, over the kit's print.py: out of the translation; the oracles in it are by hand. Not trusted: Lean checks it.
namespace Go.Proofs.YtcmdcgghpkcchaaDoor.mastSets
open Go.ChangeShapes Go.WideShapes Go.ChangeAt Go.RowKit Go.Proofs.YtcmdcgghpkcchaaDoor.Open Go.Proofs.YtcmdcgghpkcchaaDoor.XMast Go.Proofs.YtcmdcgghpkcchaaDoorW.PrintWords Go.Proofs.YtcmdcgghpkcchaaDoorW.PrintLast Go.Proofs.YtcmdcgghpkcchaaDoorW.PrintMore
open Go.ChangeMaps (open_string shut_string)
set_option linter.unusedVariables false
set_option linter.unusedSimpArgs false
theorem own : ownKnob Tryd.prog.godebug = none := by kernel_rfl
theorem laidOut : laidOutB Tryd.prog = true := by kernel_rfl
set_option maxRecDepth 100000 in
theorem lifted (os : Os) (started : os.Started) (H : Type) (enc : TypeId × Value → H) :
  ReturnsInHanded {} Tryd.checked os 6 .any (fun w args => (Rows.mastSetsSpec.pre enc Tryd.prog Tryd.f6 [] false w args ∧ laidMetH Tryd.prog Laid.laid2 w) ∧ sizedMet enc Tryd.prog Tryd.f6 (OpenSpec.ofChange Rows.mastSetsSpec) false w args) (Rows.mastSetsSpec.post enc Tryd.prog Tryd.f6 false true false false) := by
 refine returnsInHanded_of_change_and (C := Tryd.checked) (X := fun w _ => laidMetH Tryd.prog Laid.laid2 w) (fun _ _ _ hh h => h.of_heap hh) own started (by kernel_rfl) Tryd.func6
  (ChangeSpec.witness_shaped (enc := enc) (C := Tryd.checked) (os := os) (X := fun w _ => laidMetH Tryd.prog Laid.laid2 w) false (World.doorLaid Tryd.prog 4000 os) #[.slice none 0 0, .slice none 0 0] 8 rfl (World.shaped_of_RefB (by kernel_rfl) (by kernel_rfl)) (by kernel_rfl) (by kernel_rfl) (by kernel_rfl) (Laid.door_met os _)) ?_
 intro W base args ds gs before hval0 hW hcnd hsz0 hL _
 have hval : ∀ (j : Nat) t v, Tryd.f6.params[j]? = some t → args[j]? = some v → Value.okWide Tryd.prog W .any base t v := hval0
 have hW' := hW
 obtain ⟨p, q, hA0, hV, rfl, hfz, hnd⟩ := hW
 have hA : DataW.TrodAll enc Tryd.prog W 0 (fun _ => true) true Tryd.f6.params.toList args.toList ds p := hA0
 rw [Tryd.params6] at hA hval
 obtain ⟨v0, vs0, d0, ds0, p0, q0, hargs, rfl, rfl, h0, r0⟩ := trodAll_cons hA
 obtain ⟨v1, vs1, d1, ds1, p1, q1, rfl, rfl, rfl, h1, r1⟩ := trodAll_cons r0
 obtain ⟨rfl, rfl, rfl⟩ := trodAll_nil r1
 obtain rfl : args = #[v0, v1] := by cases args; simp_all
 obtain ⟨rfl, rfl⟩ := trodVars_none hV
 obtain ⟨b0, len0, cap0, rfl⟩ := okWide_slice Tryd.underlying22 (hval 0 22 v0 rfl rfl)
 have k0 := h0
 have lt0 : ∀ x ∈ p0, x.block < W.heap.size := by obtain ⟨m, hm⟩ := k0; exact DataW.trod_lt m _ _ _ hm
 obtain ⟨fuel0, hf0⟩ := h0
 obtain ⟨l0, ⟨A0, c0, hcs0, hc0, hr0⟩, hg0⟩ := (opens_slice Tryd.underlying22 (opens_iso (f := fun x : S46 => (x.f0, x.f1)) (fun p => ⟨p.1, p.2⟩) (fun _ => rfl) (opens_struct Tryd.underlying46 (by kernel_rfl) (opensF_cons rfl (by kernel_rfl) (opens_int Tryd.underlying3) (opensF_one rfl (by kernel_rfl) (opens_int Tryd.underlying3))))) (by kernel_rfl)) H enc W fuel0 _ _ hf0
 simp [Value.cells] at hcs0
 obtain ⟨rfl, rfl, rfl⟩ := hcs0
 obtain ⟨b1, len1, cap1, rfl⟩ := okWide_slice Tryd.underlying22 (hval 1 22 v1 rfl rfl)
 have k1 := h1
 have lt1 : ∀ x ∈ p1, x.block < W.heap.size := by obtain ⟨m, hm⟩ := k1; exact DataW.trod_lt m _ _ _ hm
 obtain ⟨fuel1, hf1⟩ := h1
 obtain ⟨l1, ⟨A1, c1, hcs1, hc1, hr1⟩, hg1⟩ := (opens_slice Tryd.underlying22 (opens_iso (f := fun x : S46 => (x.f0, x.f1)) (fun p => ⟨p.1, p.2⟩) (fun _ => rfl) (opens_struct Tryd.underlying46 (by kernel_rfl) (opensF_cons rfl (by kernel_rfl) (opens_int Tryd.underlying3) (opensF_one rfl (by kernel_rfl) (opens_int Tryd.underlying3))))) (by kernel_rfl)) H enc W fuel1 _ _ hf1
 simp [Value.cells] at hcs1
 obtain ⟨rfl, rfl, rfl⟩ := hcs1
 clear hA0 hval0 hsz0
 obtain ⟨k, h⟩ := Pure.MastSets l0 l1 hg0 hg1
 refine (dropperlaw01_MastSets.calls k _ _ l0 _ _ l1 true W hr0 hc0 hr1 hc1 (Laid.tabs_of hL) h).mono fun e W' ⟨he, bel0⟩ => ?_
 have bel : Below W.heap.size W W' := bel0
 subst he
 exact ⟨_, rfl, _, _, _, [], _, [], hW', trodAll_mk1 (shut_bool Tryd.underlying4 _), (trodAll_cons_mk (Below.trod laidOut (by kernel_rfl) (of_decide_eq_true (by kernel_rfl)) k0 bel lt0) (trodAll_cons_mk (Below.trod laidOut (by kernel_rfl) (of_decide_eq_true (by kernel_rfl)) k1 bel lt1) trodAll_mk0)), rfl, bel.frame _, fun h => by cases h⟩
theorem over : Rows.mastSetsRow.holds Tryd.pinned (OpenSpec.ofChange Rows.mastSetsSpec) :=
 OpenClaim.holds_of_wide 6 Tryd.f6 rfl rfl rfl rfl rfl rfl rfl ⟨rfl, rfl, rfl, rfl, rfl⟩ rfl rfl rfl rfl rfl (by kernel_rfl) Tryd.func6 (by kernel_rfl)
  (of_decide_eq_true (by kernel_rfl)) (by unfold Func.isWrapper; first | (rw [if_pos (by decide +kernel)]; kernel_rfl) | (rw [if_neg (by decide +kernel)]; exact ⟨rfl, rfl⟩))
  (fun os started H enc _ => lifted os started H enc)
theorem card_holds : Rows.MastSetsCardSaid :=
 Claim7.holds_tied_plain_at .later [] [.data, .data, .data] true (true, "d919e17aca2791b8c412353f2b117ae8d034433952b93dc40eac1d6d377e885d") false
  over (fun _ h => by cases h) (by kernel_rfl) (fun _ h => by cases h) mastSets_row_tie rfl ⟨rfl, rfl⟩ (by kernel_rfl) rfl
  (fun f fn hf hfn => by
   obtain rfl : f = 6 := Option.some.inj ((show Tryd.prog.funcNamed "dropper/dropperlaw01.MastSets" = some 6 by kernel_rfl).symm.trans hf) |>.symm
   obtain rfl : fn = Tryd.f6 := (Option.some.inj (Tryd.func6.symm.trans hfn)).symm
   exact ⟨by kernel_rfl, fun j t ht => by
    rw [Tryd.params6] at ht
    have hall : ∀ t ∈ (#[22, 22] : Array TypeId), Tryd.prog.wantsStandIn t = false := by decide +kernel
    exact hall t (Array.mem_of_getElem? ht)⟩)
  (by kernel_rfl)
#print axioms card_holds
end Go.Proofs.YtcmdcgghpkcchaaDoor.mastSets
namespace Go.Proofs.YtcmdcgghpkcchaaDoor
theorem mastSets_holds : Rows.MastSetsCardSaid := mastSets.card_holds
end Go.Proofs.YtcmdcgghpkcchaaDoor
