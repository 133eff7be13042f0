-- Written by wip/pack.py of this repo: texts of this claim, put together.
import Derived.Test.YtcmdcgghpkcchaaGreatDoorRows
import Derived.Test.YtcmdcgghpkcchaaGreatDoorTie
import Derived.Test.YtcmdcgghpkcchaaGreatDoorCards
import Derived.SevenTiedAt
import Derived.LaidMore
import Derived.Stop.Joined
import Derived.WalkKit
import Derived.ProofKit
import Derived.OpenShut
import Derived.ShutString
import Derived.ChangeOld
import Derived.Below
import Derived.SizedLaws
import Derived.Test.YtcmdcgghpkcchaaGreatDoorKMastZe
namespace Go.Proofs.YtcmdcgghpkcchaaGreatDoor.XMast
open Go.RowKit Go.Proofs.YtcmdcgghpkcchaaGreatDoorW.PrintWords Go.Proofs.YtcmdcgghpkcchaaGreatDoorW.PrintLast Go.Proofs.YtcmdcgghpkcchaaGreatDoorW.PrintMore
attribute [local go_sem] max2_int min2_int max_two min_two max_three min_three max_four min_four   -- for this text's walks alone
set_option linter.unusedVariables false
set_option linter.unusedSimpArgs false
/-! ### dropperlaw01_Long: function 11 -/
def dropperlaw01_Long.f (l0 : List (S38)) (l1 : List (S38)) : Option (Bool) := if (l0.length : Int) > 220 then (some true) else (some (decide ((l1.length : Int) > 220)))
set_option maxHeartbeats 8000000 in
set_option maxRecDepth 100000 in
theorem dropperlaw01_Long.calls (A0 : Option Addr) (c0 : Nat) (l0 : List (S38)) (A1 : Option Addr) (c1 : Nat) (l1 : List (S38)) (r : Bool) (w : World) (hr0 : Kd.C k38 w A0 l0.length l0) (hc0 : l0.length ≤ c0) (hr1 : Kd.C k38 w A1 l1.length l1) (hc1 : l1.length ≤ c1) (h : dropperlaw01_Long.f l0 l1 = some r) :
  Calls Tryz.prog 11 #[.slice A0 l0.length c0, .slice A1 l1.length c1] w fun e w' => e = .returned (.bool r) ∧ Drawn0 w w' := by
 have HR0 := Aside0.mk hr0
 have HC0 := Aside0.mk hc0
 clear hr0 hc0
 have HR1 := Aside0.mk hr1
 have HC1 := Aside0.mk hc1
 clear hr1 hc1
 have H : (if (l0.length : Int) > 220 then (some true) else (some (decide ((l1.length : Int) > 220)))) = some r := h
 clear h
 by_cases c3 : (l0.length : Int) > 220
 ·
  rw [if_pos c3] at H
  have c3b0 : decide (220 < (l0.length : Int)) = true := decide_eq_true c3
  have c3b1 : decide (220 < l0.length) = true := decide_eq_true (by omega)
  clear c3
  obtain rfl := Option.some.inj H
  go_enter Tryz.func11, Tryz.ntmps11
  go_wp2
  go_ret
  exact ⟨by first | rfl | (simp; done) | (simp [*]; done), drz⟩
 ·
  rw [if_neg c3] at H
  have c3b0 : decide (220 < (l0.length : Int)) = false := decide_eq_false c3
  have c3b1 : decide (220 < l0.length) = false := decide_eq_false (by omega)
  clear c3
  obtain rfl := Option.some.inj H
  go_enter Tryz.func11, Tryz.ntmps11
  go_wp2
  go_ret
  exact ⟨by first | rfl | (simp; done) | (simp [*]; done), drz⟩

/-! ### dropperlaw01_MastTexts: function 4 -/
def dropperlaw01_MastTexts.j0 : Nat → List (S38) → ByteArray → Int → Bool → Option (Bool)
 | 0, _, _, _, _ => none
 | k + 1, x0, x3, x4, x35 => if x35 = true then (none) else (if x4 = 0 then ((mast_Parse.f k x3).bind fun bt188 => (if bt188.2 = 0 then ((dropperlaw01_Same.f k bt188.1 x0).bind fun t192 => (if t192 = true then ((dropperlaw01_First.f k).bind fun t193 => (some t193)) else (none))) else (none))) else ((dropperlaw01_First.f k).bind fun t194 => (some t194)))
def dropperlaw01_MastTexts.f (k : Nat) (l0 : List (S38)) : Option (Bool) := (dropperlaw01_Long.f l0 ([] : List (S38))).bind fun t180 => (if t180 = true then ((dropperlaw01_First.f k).bind fun t181 => (some t181)) else ((mast_Format.f k l0).bind fun bt182 => ((dropperref01_Format.f k l0).bind fun bt184 => ((mast_Valid.f k l0).bind fun t186 => ((dropperref01_Valid.f k l0).bind fun t187 => (if (t186 != t187) = true then (dropperlaw01_MastTexts.j0 k l0 bt182.1 bt182.2 true) else (if bt182.1.toList = bt184.1.toList then (dropperlaw01_MastTexts.j0 k l0 bt182.1 bt182.2 (bt182.2 != bt184.2)) else (dropperlaw01_MastTexts.j0 k l0 bt182.1 bt182.2 true))))))))
set_option maxHeartbeats 8000000 in
set_option maxRecDepth 100000 in
theorem dropperlaw01_MastTexts.calls (k : Nat) (A0 : Option Addr) (c0 : Nat) (l0 : List (S38)) (r : Bool) (w : World) (hr0 : Kd.C k38 w A0 l0.length l0) (hc0 : l0.length ≤ c0) (hT : Tab.Tabs w) (h : dropperlaw01_MastTexts.f k l0 = some r) :
  Calls Tryz.prog 4 #[.slice A0 l0.length c0] w fun e w' => e = .returned (.bool r) ∧ Below w.heap.size w w' := by
 have HT := Aside0.mk hT
 clear hT
 have HR0 := Aside0.mk hr0
 have HC0 := Aside0.mk hc0
 clear hr0 hc0
 have HB := Aside0.mk (Below.refl w.heap.size w)
 have H : ((dropperlaw01_Long.f l0 ([] : List (S38))).bind fun t180 => (if t180 = true then ((dropperlaw01_First.f k).bind fun t181 => (some t181)) else ((mast_Format.f k l0).bind fun bt182 => ((dropperref01_Format.f k l0).bind fun bt184 => ((mast_Valid.f k l0).bind fun t186 => ((dropperref01_Valid.f k l0).bind fun t187 => (if (t186 != t187) = true then (dropperlaw01_MastTexts.j0 k l0 bt182.1 bt182.2 true) else (if bt182.1.toList = bt184.1.toList then (dropperlaw01_MastTexts.j0 k l0 bt182.1 bt182.2 (bt182.2 != bt184.2)) else (dropperlaw01_MastTexts.j0 k l0 bt182.1 bt182.2 true))))))))) = some r := h
 clear h
 replace H := Option.bind_eq_some_iff.mp H
 obtain ⟨t180, A20, H⟩ := H
 try dsimp only at H
 have A2 := Aside0.mk A20
 clear A20
 by_cases c3 : t180 = true
 ·
  subst c3
  rw [if_pos rfl] at H
  replace H := Option.bind_eq_some_iff.mp H
  obtain ⟨t181, A40, H⟩ := H
  try dsimp only at H
  have A4 := Aside0.mk A40
  clear A40
  obtain rfl := Option.some.inj H
  go_enter Tryz.func4, Tryz.ntmps4
  go_wp2_with (first | ((with_reducible refine gate_callee (f := 11) rfl ?_); refine goesL_ (some 9) rfl rfl Tryz.func11 (by kernel_rfl) rfl #[.slice A0 l0.length c0, .slice none 0 0] rfl mapz ?_; (refine (dropperlaw01_Long.calls _ _ l0 _ _ ([] : List (S38)) true _ ?side1 HC0.out ?side3 ?side4 A2.out).mono ?_); (case side1 => repeat (first | exact HR0.out | (with_reducible refine Kd.C_alloc ?_ _) | (with_reducible refine Kd.C_drewN ?_ _) | (with_reducible refine Kd.C_drew ?_))); (case side3 => exact Kd.C_nil _ _); (case side4 => exact Nat.le_refl _); rintro e w' ⟨rfl, ⟨nd, rfl⟩⟩; refine ⟨_, rfl, ?_⟩) | ((with_reducible refine gate_callee (f := 6) rfl ?_); refine goesL_ (some 10) rfl rfl Tryz.func6 (by kernel_rfl) rfl #[] rfl mapz ?_; (with_reducible refine (dropperlaw01_First.calls k  t181 _ (tbz HT) A4.out).mono ?_); rintro e w5 ⟨rfl, hb⟩; refine ⟨_, rfl, ?_⟩; replace HB := Aside0.mk (below_step bel hb); clear hb))
  go_ret
  exact ⟨ezz, bel⟩
 ·
  replace c3 := Bool.eq_false_iff.mpr c3
  subst c3
  rw [if_neg (show ¬ (false = true) by decide)] at H
  replace H := Option.bind_eq_some_iff.mp H
  obtain ⟨⟨t182, t183⟩, A60, H⟩ := H
  try dsimp only at H
  have A6 := Aside0.mk A60
  clear A60
  replace H := Option.bind_eq_some_iff.mp H
  obtain ⟨⟨t184, t185⟩, A70, H⟩ := H
  try dsimp only at H
  have A7 := Aside0.mk A70
  clear A70
  have HC8 := Aside0.mk H
  clear H
  go_enter Tryz.func4, Tryz.ntmps4
  go_upto_region 5 with (first | ((with_reducible refine gate_callee (f := 11) rfl ?_); refine goesL_ (some 9) rfl rfl Tryz.func11 (by kernel_rfl) rfl #[.slice A0 l0.length c0, .slice none 0 0] rfl mapz ?_; (refine (dropperlaw01_Long.calls _ _ l0 _ _ ([] : List (S38)) false _ ?side1 HC0.out ?side3 ?side4 A2.out).mono ?_); (case side1 => repeat (first | exact HR0.out | (with_reducible refine Kd.C_alloc ?_ _) | (with_reducible refine Kd.C_drewN ?_ _) | (with_reducible refine Kd.C_drew ?_))); (case side3 => exact Kd.C_nil _ _); (case side4 => exact Nat.le_refl _); rintro e w' ⟨rfl, ⟨nd, rfl⟩⟩; refine ⟨_, rfl, ?_⟩) | ((with_reducible refine gate_callee (f := 12) rfl ?_); refine goesL_ (some 13) rfl rfl Tryz.func12 (by kernel_rfl) rfl #[.slice A0 l0.length c0] rfl mapz ?_; (with_reducible refine (mast_Format.calls k _ _ l0 t182 t183 _ ?side1 HC0.out (tbz HT) A6.out).mono ?_); (case side1 => repeat (first | exact HR0.out | (with_reducible refine Kd.C_alloc ?_ _) | (with_reducible refine Kd.C_drewN ?_ _) | (with_reducible refine Kd.C_drew ?_))); rintro e w9 ⟨rfl, hb⟩; refine ⟨_, rfl, ?_⟩; replace HB := Aside0.mk (below_step bel hb); clear hb) | ((with_reducible refine gate_callee (f := 13) rfl ?_); refine goesL_ (some 18) rfl rfl Tryz.func13 (by kernel_rfl) rfl #[.slice A0 l0.length c0] rfl mapz ?_; (with_reducible refine (dropperref01_Format.calls k _ _ l0 t184 t185 _ (cbz HR0) HC0.out A7.out).mono ?_); rintro e w10 ⟨rfl, hb⟩; refine ⟨_, rfl, ?_⟩; replace HB := Aside0.mk (below_step bel hb); clear hb))
  (try simp only [Act.put, List.setIfInBounds_toArray, List.set_cons_zero, List.set_cons_succ])
  go_cut [35] (fun v35 wc => ∃ (kq : Nat) (x35_7 : Bool), v35 = .bool x35_7 ∧ Aside0 (dropperlaw01_MastTexts.j0 kq l0 t182 t183 x35_7 = some r) ∧ Aside0 (kq ≤ k) ∧ Aside0 (Below w.heap.size w wc))
  case first =>
   have H := HC8.out
   clear HC8
   replace H := Option.bind_eq_some_iff.mp H
   obtain ⟨t186, A110, H⟩ := H
   try dsimp only at H
   have A11 := Aside0.mk A110
   clear A110
   replace H := Option.bind_eq_some_iff.mp H
   obtain ⟨t187, A120, H⟩ := H
   try dsimp only at H
   have A12 := Aside0.mk A120
   clear A120
   by_cases c13 : (t186 != t187) = true
   ·
    rw [if_pos c13] at H
    have c13b0 : (t186 != t187) = true := c13
    (try (have c13b1 : decide (t186 = t187) = false := by simpa using c13))
    (try (have c13b2 : (t186 == t187) = false := by simpa using c13))
    (try (have c13b3 : ¬ (t186 = t187) := by simpa using c13))
    clear c13
    (first | rw [c13b0] | (simp only [i64_w, i32_w]; rw [c13b0]) | skip)
    have H' := Aside0.mk H
    clear H
    go_wp2_with (first | ((with_reducible refine gate_callee (f := 14) rfl ?_); refine goesL_ (some 22) rfl rfl Tryz.func14 (by kernel_rfl) rfl #[.slice A0 l0.length c0] rfl mapz ?_; (with_reducible refine (mast_Valid.calls k _ _ l0 t186 _ (cbz HR0) HC0.out A11.out).mono ?_); rintro e w14 ⟨rfl, hb⟩; refine ⟨_, rfl, ?_⟩; replace HB := Aside0.mk (below_step bel hb); clear hb) | ((with_reducible refine gate_callee (f := 15) rfl ?_); refine goesL_ (some 24) rfl rfl Tryz.func15 (by kernel_rfl) rfl #[.slice A0 l0.length c0] rfl mapz ?_; (with_reducible refine (dropperref01_Valid.calls k _ _ l0 t187 _ (cbz HR0) HC0.out A12.out).mono ?_); rintro e w15 ⟨rfl, hb⟩; refine ⟨_, rfl, ?_⟩; replace HB := Aside0.mk (below_step bel hb); clear hb))
    go_meet
    case rel => exact ⟨_, (true), rsz, H', ⟨by first | omega | exact Nat.le_refl _⟩, ⟨bel⟩⟩
   ·
    rw [if_neg c13] at H
    have c13b0 : (t186 != t187) = false := by simpa using c13
    (try (have c13b1 : decide (t186 = t187) = true := by simpa using c13))
    (try (have c13b2 : (t186 == t187) = true := by simpa using c13))
    clear c13
    (first | rw [c13b0] | (simp only [i64_w, i32_w]; rw [c13b0]) | skip)
    by_cases c16 : t182.toList = t184.toList
    ·
     rw [if_pos c16] at H
     have c16b0 : (t182.toList == t184.toList) = true := beq_iff_eq.mpr c16
     have c16b1 : (t182.toList != t184.toList) = false := bne_eq_false_iff_eq.mpr c16
     clear c16
     have H' := Aside0.mk H
     clear H
     go_wp2_with (first | ((with_reducible refine gate_callee (f := 14) rfl ?_); refine goesL_ (some 22) rfl rfl Tryz.func14 (by kernel_rfl) rfl #[.slice A0 l0.length c0] rfl mapz ?_; (with_reducible refine (mast_Valid.calls k _ _ l0 t186 _ (cbz HR0) HC0.out A11.out).mono ?_); rintro e w17 ⟨rfl, hb⟩; refine ⟨_, rfl, ?_⟩; replace HB := Aside0.mk (below_step bel hb); clear hb) | ((with_reducible refine gate_callee (f := 15) rfl ?_); refine goesL_ (some 24) rfl rfl Tryz.func15 (by kernel_rfl) rfl #[.slice A0 l0.length c0] rfl mapz ?_; (with_reducible refine (dropperref01_Valid.calls k _ _ l0 t187 _ (cbz HR0) HC0.out A12.out).mono ?_); rintro e w18 ⟨rfl, hb⟩; refine ⟨_, rfl, ?_⟩; replace HB := Aside0.mk (below_step bel hb); clear hb))
     go_meet
     case rel => exact ⟨_, ((t183 != t185)), rsz, H', ⟨by first | omega | exact Nat.le_refl _⟩, ⟨bel⟩⟩
    ·
     rw [if_neg c16] at H
     have c16b0 : (t182.toList == t184.toList) = false := beq_eq_false_iff_ne.mpr c16
     have c16b1 : (t182.toList != t184.toList) = true := bne_iff_ne.mpr c16
     have H' := Aside0.mk H
     clear H
     go_wp2_with (first | ((with_reducible refine gate_callee (f := 14) rfl ?_); refine goesL_ (some 22) rfl rfl Tryz.func14 (by kernel_rfl) rfl #[.slice A0 l0.length c0] rfl mapz ?_; (with_reducible refine (mast_Valid.calls k _ _ l0 t186 _ (cbz HR0) HC0.out A11.out).mono ?_); rintro e w19 ⟨rfl, hb⟩; refine ⟨_, rfl, ?_⟩; replace HB := Aside0.mk (below_step bel hb); clear hb) | ((with_reducible refine gate_callee (f := 15) rfl ?_); refine goesL_ (some 24) rfl rfl Tryz.func15 (by kernel_rfl) rfl #[.slice A0 l0.length c0] rfl mapz ?_; (with_reducible refine (dropperref01_Valid.calls k _ _ l0 t187 _ (cbz HR0) HC0.out A12.out).mono ?_); rintro e w20 ⟨rfl, hb⟩; refine ⟨_, rfl, ?_⟩; replace HB := Aside0.mk (below_step bel hb); clear hb))
     go_meet
     case rel => exact ⟨_, (true), rsz, H', ⟨by first | omega | exact Nat.le_refl _⟩, ⟨bel⟩⟩
  case rest =>
   clear HC8
   (try clear c1); (try clear p2); (try clear c3); (try clear c4); (try clear c6); (try clear c11); (try clear c12); (try clear c13); (try clear c13b0); (try clear c13b1); (try clear c13b2); (try clear c14); (try clear c15); (try clear c16); (try clear c16b0); (try clear c16b1)
   obtain ⟨kq, x35_7, rfl, HA, HJ7, HB⟩ := hcut
   cases kq with
   | zero => exact absurd HA.out (by simp [dropperlaw01_MastTexts.j0])
   | succ kj7 =>
    have H := HA.out
    clear HA
    simp only [dropperlaw01_MastTexts.j0] at H
    by_cases c21 : x35_7 = true
    ·
     subst c21
     rw [if_pos rfl] at H
     exact absurd H (by simp)
    ·
     replace c21 := Bool.eq_false_iff.mpr c21
     subst c21
     rw [if_neg (show ¬ (false = true) by decide)] at H
     by_cases c22 : t183 = 0
     ·
      rw [if_pos c22] at H
      have c22b0 : (t183 == 0) = true := beq_iff_eq.mpr c22
      have c22b1 : (t183 != 0) = false := bne_eq_false_iff_eq.mpr c22
      clear c22
      replace H := Option.bind_eq_some_iff.mp H
      obtain ⟨⟨t188, t189⟩, A230, H⟩ := H
      try dsimp only at H
      have A23 := Aside0.mk A230
      clear A230
      by_cases c24 : t189 = 0
      ·
       rw [if_pos c24] at H
       have c24b0 : (t189 == 0) = true := beq_iff_eq.mpr c24
       have c24b1 : (t189 != 0) = false := bne_eq_false_iff_eq.mpr c24
       clear c24
       replace H := Option.bind_eq_some_iff.mp H
       obtain ⟨t192, A250, H⟩ := H
       try dsimp only at H
       have A25 := Aside0.mk A250
       clear A250
       by_cases c26 : t192 = true
       ·
        subst c26
        rw [if_pos rfl] at H
        replace H := Option.bind_eq_some_iff.mp H
        obtain ⟨t193, A270, H⟩ := H
        try dsimp only at H
        have A27 := Aside0.mk A270
        clear A270
        obtain rfl := Option.some.inj H
        go_wp2_with (first | ((with_reducible refine gate_callee (f := 16) rfl ?_); refine goesL_ (some 41) rfl rfl Tryz.func16 (by kernel_rfl) rfl #[.string t182] rfl mapz ?_; (with_reducible refine (mast_Parse.calls kj7 t182 t188 t189 _ (tbz HT) A23.out).mono ?_); rintro e w28 ⟨v190, rfl, ho0, hb⟩; refine ⟨_, rfl, ?_⟩; have HO191 := Aside0.mk (Kd.R_lower ho0 (below_size bel)); replace HB := Aside0.mk (below_step bel hb); (try clear hb); (try clear hb2); (try clear hk); (try clear hi); (try clear ho0); obtain ⟨Ao29, co29, eo29⟩ := Kd.R_slice HO191.out; subst eo29) | (go_at_call 17; (with_reducible refine (dropperlaw01_Same.calls kj7 _ _ t188 _ _ l0 true _ ?side1 ?side2 (cbz HR0) HC0.out A25.out).mono ?_); (case side1 => repeat (first | exact (Kd.R_reads' HO191.out).2.2 | (with_reducible refine Kd.C_alloc ?_ _) | (with_reducible refine Kd.C_drewN ?_ _) | (with_reducible refine Kd.C_drew ?_))); (case side2 => exact (Kd.R_reads' HO191.out).2.1); rintro e w' ⟨rfl, ⟨nd, rfl⟩⟩) | (go_at_call 6; (with_reducible refine (dropperlaw01_First.calls kj7  t193 _ (tbz HT) A27.out).mono ?_); rintro e w30 ⟨rfl, hb⟩; replace HO191 := Aside0.mk (Kd.R_below (ownx HO191) hb); replace HB := Aside0.mk (below_step bel hb); clear hb))
        go_ret
        exact ⟨ezz, bel⟩
       ·
        replace c26 := Bool.eq_false_iff.mpr c26
        subst c26
        rw [if_neg (show ¬ (false = true) by decide)] at H
        exact absurd H (by simp)
      ·
       rw [if_neg c24] at H
       exact absurd H (by simp)
     ·
      rw [if_neg c22] at H
      have c22b0 : (t183 == 0) = false := beq_eq_false_iff_ne.mpr c22
      have c22b1 : (t183 != 0) = true := bne_iff_ne.mpr c22
      replace H := Option.bind_eq_some_iff.mp H
      obtain ⟨t194, A310, H⟩ := H
      try dsimp only at H
      have A31 := Aside0.mk A310
      clear A310
      obtain rfl := Option.some.inj H
      go_wp2_with (first | ((with_reducible refine gate_callee (f := 6) rfl ?_); refine goesL_ (some 38) rfl rfl Tryz.func6 (by kernel_rfl) rfl #[] rfl mapz ?_; (with_reducible refine (dropperlaw01_First.calls kj7  t194 _ (tbz HT) A31.out).mono ?_); rintro e w32 ⟨rfl, hb⟩; refine ⟨_, rfl, ?_⟩; replace HB := Aside0.mk (below_step bel hb); clear hb))
      go_ret
      exact ⟨ezz, bel⟩

end Go.Proofs.YtcmdcgghpkcchaaGreatDoor.XMast
-- Written by wip/xprint.py of this repo, over the kit's print.py: out of the translation; the oracles in it are by hand. Not trusted: Lean checks it.
namespace Go.Proofs.YtcmdcgghpkcchaaGreatDoor.XMast
open Go.RowKit Go.Proofs.YtcmdcgghpkcchaaGreatDoor.XMast Go.Proofs.YtcmdcgghpkcchaaGreatDoorW.PrintWords Go.Proofs.YtcmdcgghpkcchaaGreatDoorW.PrintLast Go.Proofs.YtcmdcgghpkcchaaGreatDoorW.PrintMore
def dropperlaw01_MastTexts.Pure : Prop := ∀ (l0 : List (S38)), (l0.length ≤ 9223372036854775807 ∧ ∀ y0 ∈ l0, ((Lit.int .i64 y0.f0).wf = true) ∧ ((Lit.int .i64 y0.f1).wf = true)) → ∃ k, dropperlaw01_MastTexts.f k l0 = some true
end Go.Proofs.YtcmdcgghpkcchaaGreatDoor.XMast


/- Which lists are lays, and their texts, which are read back: program and reference answer the same. -/
namespace Go.Proofs.YtcmdcgghpkcchaaGreatDoor.Pure
set_option linter.unusedVariables false
set_option linter.unusedSimpArgs false
open Go.RowKit Go.Proofs.YtcmdcgghpkcchaaGreatDoor.XMast Go.Proofs.YtcmdcgghpkcchaaGreatDoorW.PrintWords Go.Proofs.YtcmdcgghpkcchaaGreatDoorW.PrintLast Go.Proofs.YtcmdcgghpkcchaaGreatDoorW.PrintMore
open Go.Proofs.YtcmdcgghpkcchaaGreatDoor.Lay
theorem same_self (l : List St) (hl : l.length ≤ 100000) : Ev (fun k => dropperlaw01_Same.f k l l) true := by
 have H : ∀ (d i : Nat), i + d = l.length → Ev (fun k => dropperlaw01_Same.l0 k l l (i : Int)) true := by
  intro d
  induction d with
  | zero =>
   intro i hi
   exact Ev.step (fun k => by rw [dropperlaw01_Same.l0]) (ev_neg (by omega) (Ev.now _))
  | succ d ih =>
   intro i hi
   refine Ev.step (fun k => by rw [dropperlaw01_Same.l0]) (ev_pos (by omega) (ev_pos (by omega) (ev_pos (by omega) (ev_neg (by simp) ?_))))
   rw [Segs.wrap_suc i (by omega)]
   exact ih (i + 1) (by omega)
 unfold dropperlaw01_Same.f
 exact ev_pos rfl (H l.length 0 (by omega))
theorem MastTexts : dropperlaw01_MastTexts.Pure := by
 intro l _
 refine Ev.rounds (r := true) (g := fun k => dropperlaw01_MastTexts.f k l) ?_
 unfold dropperlaw01_MastTexts.f dropperlaw01_Long.f
 by_cases h : (l.length : Int) > 220
 ·
  rw [if_pos h]
  exact ev_some (ev_pos rfl (Ev.bind first_ev (Ev.now _)))
 rw [if_neg h]
 refine ev_some (ev_neg (by simp) ?_)
 refine Ev.bind (Segs.mformat l (by omega)) (Ev.bind (Segs.rformat l (by omega)) (Ev.bind (mvalid l (by omega)) (Ev.bind (rvalid l (by omega)) (ev_neg (by simp) (ev_pos rfl ?_)))))
 rw [show ((Segs.fmt l).2 != (Segs.fmt l).2) = false from by simp]
 refine Ev.step (fun k => by rw [dropperlaw01_MastTexts.j0]) (ev_neg (by simp) ?_)
 by_cases hok : okB l = true
 ·
  obtain ⟨h1, h2⟩ := (okB_iff l).1 hok
  have hf : Segs.fmt l = (Segs.B (Segs.txt l), 0) := if_pos hok
  rw [hf]
  have hr := Segs.norm_inR h1
  have hlen := Segs.txt_len l hr
  obtain ⟨r, r1, r2⟩ := Segs.mast_par (Segs.B (Segs.txt l)) (by rw [Segs.B_size]; omega)
  have e : r = (l, 0) := r2.unique (.inl ⟨l, ⟨(Segs.of_list _).symm, hr, h1, h2⟩, rfl⟩)
  subst e
  exact ev_pos rfl (Ev.bind r1 (ev_pos rfl (Ev.bind (same_self l (by omega)) (ev_pos rfl (Ev.bind first_ev (Ev.now _))))))
 ·
  have hf : Segs.fmt l = (Segs.B [], 10) := if_neg hok
  rw [hf]
  exact ev_neg (by decide) (Ev.bind first_ev (Ev.now _))
end Go.Proofs.YtcmdcgghpkcchaaGreatDoor.Pure

-- Written by wip/xprint.py of this repo, over the kit's print.py: out of the translation; the oracles in it are by hand. Not trusted: Lean checks it.
namespace Go.Proofs.YtcmdcgghpkcchaaGreatDoor.mastTexts
open Go.ChangeShapes Go.WideShapes Go.ChangeAt Go.RowKit Go.Proofs.YtcmdcgghpkcchaaGreatDoor.Open Go.Proofs.YtcmdcgghpkcchaaGreatDoor.XMast Go.Proofs.YtcmdcgghpkcchaaGreatDoorW.PrintWords Go.Proofs.YtcmdcgghpkcchaaGreatDoorW.PrintLast Go.Proofs.YtcmdcgghpkcchaaGreatDoorW.PrintMore
open Go.ChangeMaps (open_string shut_string)
set_option linter.unusedVariables false
set_option linter.unusedSimpArgs false
theorem own : ownKnob Tryz.prog.godebug = none := by kernel_rfl
theorem laidOut : laidOutB Tryz.prog = true := by kernel_rfl
set_option maxRecDepth 100000 in
theorem lifted (os : Os) (started : os.Started) (H : Type) (enc : TypeId × Value → H) :
  ReturnsInHanded {} Tryz.checked os 4 .any (fun w args => (Rows.mastTextsSpec.pre enc Tryz.prog Tryz.f4 [] false w args ∧ laidMetH Tryz.prog Laid7.laid2 w) ∧ sizedMet enc Tryz.prog Tryz.f4 (OpenSpec.ofChange Rows.mastTextsSpec) false w args) (Rows.mastTextsSpec.post enc Tryz.prog Tryz.f4 false true false false) := by
 refine Laid.and_shaped (C := Tryz.checked) (X := fun w _ => laidMetH Tryz.prog Laid7.laid2 w) (fun _ _ _ hh h => h.of_heap hh) own started (by kernel_rfl) Tryz.func4
  (ChangeSpec.witness_shaped (enc := enc) (C := Tryz.checked) (os := os) (X := fun w _ => laidMetH Tryz.prog Laid7.laid2 w) false (World.laidAll Tryz.prog os Laid7.laid2) #[.slice none 0 0] 8 (World.laidAll_os _ _ _) (World.shaped_of_ZipB (by kernel_rfl) (by kernel_rfl)) (by kernel_rfl) (by kernel_rfl) (by kernel_rfl) (Laid7.door_met os _)) ?_
 intro W base args ds gs before hval0 hW hcnd hsz0 hL hSh _
 have hval : ∀ (j : Nat) t v, Tryz.f4.params[j]? = some t → args[j]? = some v → Value.okWide Tryz.prog W .any base t v := hval0
 have hW' := hW
 obtain ⟨p, q, hA0, hV, rfl, hfz, hnd⟩ := hW
 have hA : DataW.TrodAll enc Tryz.prog W 0 (fun _ => true) true Tryz.f4.params.toList args.toList ds p := hA0
 rw [Tryz.params4] at hA hval
 obtain ⟨v0, vs0, d0, ds0, p0, q0, hargs, rfl, rfl, h0, r0⟩ := trodAll_cons hA
 obtain ⟨rfl, rfl, rfl⟩ := trodAll_nil r0
 obtain rfl : args = #[v0] := by cases args; simp_all
 obtain ⟨rfl, rfl⟩ := trodVars_none hV
 obtain ⟨b0, len0, cap0, rfl⟩ := okWide_slice Tryz.underlying29 (hval 0 29 v0 rfl rfl)
 have k0 := h0
 have lt0 : ∀ x ∈ p0, x.block < W.heap.size := by obtain ⟨m, hm⟩ := k0; exact DataW.trod_lt m _ _ _ hm
 obtain ⟨fuel0, hf0⟩ := h0
 obtain ⟨l0, ⟨A0, c0, hcs0, hc0, hr0⟩, hg0⟩ := (opens_slice Tryz.underlying29 (opens_iso (f := fun x : S38 => (x.f0, x.f1)) (fun p => ⟨p.1, p.2⟩) (fun _ => rfl) (opens_struct Tryz.underlying38 (by kernel_rfl) (opensF_cons rfl (by kernel_rfl) (opens_int Tryz.underlying3) (opensF_one rfl (by kernel_rfl) (opens_int Tryz.underlying3))))) (by kernel_rfl)) H enc W fuel0 _ _ hf0
 simp [Value.cells] at hcs0
 obtain ⟨rfl, rfl, rfl⟩ := hcs0
 clear hA0 hval0 hsz0
 obtain ⟨k, h⟩ := Pure.MastTexts l0 hg0
 refine (dropperlaw01_MastTexts.calls k _ _ l0 true W hr0 hc0 (Laid7.tabs_of hL hSh) h).mono fun e W' ⟨he, bel0⟩ => ?_
 have bel : Below W.heap.size W W' := bel0
 subst he
 exact ⟨_, rfl, _, _, _, [], _, [], hW', trodAll_mk1 (shut_bool Tryz.underlying4 _), (trodAll_cons_mk (Below.trod laidOut (by kernel_rfl) (of_decide_eq_true (by kernel_rfl)) k0 bel lt0) trodAll_mk0), rfl, bel.frame _, fun h => by cases h⟩
theorem over : Rows.mastTextsRow.holds Tryz.pinned (OpenSpec.ofChange Rows.mastTextsSpec) :=
 OpenClaim.holds_of_wide 4 Tryz.f4 rfl rfl rfl rfl rfl rfl rfl ⟨rfl, rfl, rfl, rfl, rfl⟩ rfl rfl rfl rfl rfl (by kernel_rfl) Tryz.func4 (by kernel_rfl)
  (of_decide_eq_true (by kernel_rfl)) (by unfold Func.isWrapper; first | (rw [if_pos (by decide +kernel)]; kernel_rfl) | (rw [if_neg (by decide +kernel)]; exact ⟨rfl, rfl⟩))
  (fun os started H enc _ => lifted os started H enc)
theorem card_holds : Rows.MastTextsCardSaid :=
 Claim7.holds_tied_plain_at .later [] [.data, .data, .data, .data, .sentinel, .sentinel, .pinned] true (true, "79c178ec4cbd16cc474998518bff8e1aad91fae56a706dab5ef249d6464d663d") true
  over (fun _ h => by cases h) (by kernel_rfl) (fun _ h => by cases h) mastTexts_row_tie rfl ⟨rfl, rfl⟩ (by kernel_rfl) rfl
  (fun f fn hf hfn => by
   obtain rfl : f = 4 := Option.some.inj ((show Tryz.prog.funcNamed "dropper/dropperlaw01.MastTexts" = some 4 by kernel_rfl).symm.trans hf) |>.symm
   obtain rfl : fn = Tryz.f4 := (Option.some.inj (Tryz.func4.symm.trans hfn)).symm
   exact ⟨by kernel_rfl, fun j t ht => by
    rw [Tryz.params4] at ht
    have hall : ∀ t ∈ (#[29] : Array TypeId), Tryz.prog.wantsStandIn t = false := by decide +kernel
    exact hall t (Array.mem_of_getElem? ht)⟩)
  (by kernel_rfl)
#print axioms card_holds
end Go.Proofs.YtcmdcgghpkcchaaGreatDoor.mastTexts
namespace Go.Proofs.YtcmdcgghpkcchaaGreatDoor
theorem mastTexts_holds : Rows.MastTextsCardSaid := mastTexts.card_holds
end Go.Proofs.YtcmdcgghpkcchaaGreatDoor
