-- Written by wip/pack.py of this repo: texts of this claim, put together.
import Derived.Test.YteikgnaikeleaaaRows
import Derived.WalkKit
import Derived.ProofKit
import Derived.OpenShut
import Derived.ShutString
import Derived.ChangeOld
import Derived.Below
import Derived.SizedLaws
import Derived.Test.YteikgnaikeleaaaKLoope
namespace Go.Proofs.Yteikgnaikeleaaa.XLoop
open Go.RowKit Go.Proofs.YteikgnaikeleaaaW.PrintWords Go.Proofs.YteikgnaikeleaaaW.PrintLast Go.Proofs.YteikgnaikeleaaaW.PrintMore
attribute [local go_sem] max2_int min2_int max_two min_two max_three min_three max_four min_four   -- for this text's walks alone
set_option linter.unusedVariables false
set_option linter.unusedSimpArgs false
/-! ### dropperref09_Plain: function 35 -/
def dropperref09_Plain.f (a0 : ByteArray) : Option (ByteArray × Int) := some (tx (plainR a0.data.toList).1, (plainR a0.data.toList).2)
theorem dropperref09_Plain.calls (a0 : ByteArray) (r1 : ByteArray) (r2 : Int) (w : World) (h : dropperref09_Plain.f a0 = some (r1, r2)) :
  Calls Try.prog 35 #[.string a0] w fun e w' => e = .returned (.tuple #[.string r1, .int .i64 r2]) ∧ Below w.heap.size w w' := by
 obtain ⟨rfl, rfl⟩ := Prod.mk.inj (Option.some.inj h)
 have hc := rPlain_calls a0.data.toList w
 simp only [tx_data] at hc
 exact hc

/-! ### dropperref09_closing: function 102 -/
mutual
def dropperref09_closing.l0 : Nat → ByteArray → Int → Int → Option (Int)
 | 0, _, _, _ => none
 | k + 1, x0, x5, x6 => if x6 < (x0.size : Int) then (if 0 ≤ x6 then (if (bt x0 x6) = 40 then (dropperref09_closing.j1 k x0 (wrap64 (x5 + 1)) x6) else (dropperref09_closing.j1 k x0 x5 x6)) else (none)) else (some (x0.size : Int))
def dropperref09_closing.j1 : Nat → ByteArray → Int → Int → Option (Int)
 | 0, _, _, _ => none
 | k + 1, x0, x5, x6 => if 0 ≤ x6 then (if x6 < (x0.size : Int) then (if (bt x0 x6) = 41 then (if (wrap64 (x5 - 1)) = 0 then (some x6) else (dropperref09_closing.l0 k x0 (wrap64 (x5 - 1)) (wrap64 (x6 + 1)))) else (if x5 = 0 then (some x6) else (dropperref09_closing.l0 k x0 x5 (wrap64 (x6 + 1))))) else (none)) else (none)
end
def dropperref09_closing.f (k : Nat) (a0 : ByteArray) (a1 : Int) : Option (Int) := dropperref09_closing.l0 k a0 0 a1
set_option maxHeartbeats 8000000 in
set_option maxRecDepth 100000 in
theorem dropperref09_closing.calls (k : Nat) (a0 : ByteArray) (a1 : Int) (r : Int) (w : World) (h : dropperref09_closing.f k a0 a1 = some r) :
  Calls Try.prog 102 #[.string a0, .int .i64 a1] w fun e w' => e = .returned (.int .i64 r) ∧ Drawn0 w w' := by
 have H : (dropperref09_closing.l0 k a0 0 a1) = some r := h
 clear h
 have H' := Aside0.mk H
 clear H
 go_enter Try.func102, Try.ntmps102
 go_wp2
 go_loopg [5, 6] k (fun kq v5 v6 w' => ∃ (x5_1 : Int) (x6_1 : Int), v5 = .int .i64 x5_1 ∧ v6 = .int .i64 x6_1 ∧ Aside0 (dropperref09_closing.l0 kq a0 x5_1 x6_1 = some r) ∧ Aside0 (kq ≤ k) ∧ Drawn0 w w')
 case atStart => exact ⟨(0), (a1), rsz, rsz, H', ⟨Nat.le_refl _⟩, drz⟩
 case round =>
  clear H'
  (try clear c1); (try clear p2)
  obtain ⟨x5_1, x6_1, rfl, rfl, HA, HK1, ⟨m1, rfl⟩⟩ := hrel
  cases gk with
  | zero => exact absurd HA.out (by simp [dropperref09_closing.l0])
  | succ k1 =>
   have H := HA.out
   clear HA
   simp only [dropperref09_closing.l0] at H
   by_cases c3 : x6_1 < (a0.size : Int)
   ·
    rw [if_pos c3] at H
    have c3b0 : decide (x6_1 < (a0.size : Int)) = true := decide_eq_true c3
    clear c3
    by_cases c4 : 0 ≤ x6_1
    ·
     rw [if_pos c4] at H
     have c4b0 : decide (0 ≤ x6_1) = true := decide_eq_true c4
     clear c4
     have HC6 := Aside0.mk H
     clear H
     have p5 : 0 ≤ (x6_1 : Int) := of_decide_eq_true asz
     have q5 : x6_1 < (a0.size : Int) := of_decide_eq_true asz
     have hx5 := bt_at a0 x6_1
     replace p5 := eq_true p5
     replace q5 := eq_true q5
     go_upto_if 17 with (fail)
     go_cut [5] (fun v5 wc => ∃ (kq : Nat) (x5_5 : Int), v5 = .int .i64 x5_5 ∧ Aside0 (dropperref09_closing.j1 kq a0 x5_5 x6_1 = some r) ∧ Aside0 (kq ≤ k1) ∧ Drawn0 w wc)
     case first =>
      have H := HC6.out
      clear HC6
      by_cases c7 : (bt a0 x6_1) = 40
      ·
       rw [if_pos c7] at H
       have c7b0 : ((bt a0 x6_1) == 40) = true := beq_iff_eq.mpr c7
       have c7b1 : ((bt a0 x6_1) != 40) = false := bne_eq_false_iff_eq.mpr c7
       clear c7
       (first | rw [c7b0] | (simp only [i64_w, i32_w]; rw [c7b0]) | skip)
       have H' := Aside0.mk H
       clear H
       go_wp2
       go_meet
       case rel => exact ⟨_, (wrap64 (x5_1 + 1)), rsz, H', ⟨by have := HK1.out; first | omega | exact Nat.le_refl _⟩, drz⟩
      ·
       rw [if_neg c7] at H
       have c7b0 : ((bt a0 x6_1) == 40) = false := beq_eq_false_iff_ne.mpr c7
       have c7b1 : ((bt a0 x6_1) != 40) = true := bne_iff_ne.mpr c7
       (first | rw [c7b0] | (simp only [i64_w, i32_w]; rw [c7b0]) | skip)
       have H' := Aside0.mk H
       clear H
       go_wp2
       go_meet
       case rel => exact ⟨_, (x5_1), rsz, H', ⟨by have := HK1.out; first | omega | exact Nat.le_refl _⟩, drz⟩
     case rest =>
      clear HC6
      (try clear c1); (try clear p2); (try clear c3); (try clear c3b0); (try clear c4); (try clear c4b0); (try clear p5); (try clear q5); (try clear hx5); (try clear p6); (try clear c7); (try clear c7b0); (try clear c7b1); (try clear p2); (try clear p5); (try clear q5)
      obtain ⟨kq, x5_5, rfl, HA, HJ5, ⟨mc5, rfl⟩⟩ := hcut
      cases kq with
      | zero => exact absurd HA.out (by simp [dropperref09_closing.j1])
      | succ kj5 =>
       have H := HA.out
       clear HA
       simp only [dropperref09_closing.j1] at H
       by_cases c8 : 0 ≤ x6_1
       ·
        rw [if_pos c8] at H
        have c8b0 : decide (0 ≤ x6_1) = true := decide_eq_true c8
        clear c8
        by_cases c9 : x6_1 < (a0.size : Int)
        ·
         rw [if_pos c9] at H
         have c9b0 : decide (x6_1 < (a0.size : Int)) = true := decide_eq_true c9
         clear c9
         by_cases c11 : (bt a0 x6_1) = 41
         ·
          rw [if_pos c11] at H
          have c11b0 : ((bt a0 x6_1) == 41) = true := beq_iff_eq.mpr c11
          have c11b1 : ((bt a0 x6_1) != 41) = false := bne_eq_false_iff_eq.mpr c11
          clear c11
          by_cases c12 : (wrap64 (x5_5 - 1)) = 0
          ·
           rw [if_pos c12] at H
           have c12b0 : ((wrap64 (x5_5 - 1)) == 0) = true := beq_iff_eq.mpr c12
           have c12b1 : ((wrap64 (x5_5 - 1)) != 0) = false := bne_eq_false_iff_eq.mpr c12
           clear c12
           obtain rfl := Option.some.inj H
           have p10 : 0 ≤ (x6_1 : Int) := of_decide_eq_true asz
           have q10 : x6_1 < (a0.size : Int) := of_decide_eq_true asz
           have hx10 := bt_at a0 x6_1
           replace p10 := eq_true p10
           replace q10 := eq_true q10
           go_wp2
           go_ret
           exact ⟨by first | rfl | (simp; done) | (simp [*]; done), drz⟩
          ·
           rw [if_neg c12] at H
           have c12b0 : ((wrap64 (x5_5 - 1)) == 0) = false := beq_eq_false_iff_ne.mpr c12
           have c12b1 : ((wrap64 (x5_5 - 1)) != 0) = true := bne_iff_ne.mpr c12
           have H' := Aside0.mk H
           clear H
           have p10 : 0 ≤ (x6_1 : Int) := of_decide_eq_true asz
           have q10 : x6_1 < (a0.size : Int) := of_decide_eq_true asz
           have hx10 := bt_at a0 x6_1
           replace p10 := eq_true p10
           replace q10 := eq_true q10
           go_wp2
           go_roundg kj5
           case measure => have := HK1.out; have := HJ5.out; omega
           case rel => exact ⟨(wrap64 (x5_5 - 1)), (wrap64 (x6_1 + 1)), rsz, rsz, H', ⟨by have := HK1.out; have := HJ5.out; omega⟩, drz⟩
         ·
          rw [if_neg c11] at H
          have c11b0 : ((bt a0 x6_1) == 41) = false := beq_eq_false_iff_ne.mpr c11
          have c11b1 : ((bt a0 x6_1) != 41) = true := bne_iff_ne.mpr c11
          by_cases c13 : x5_5 = 0
          ·
           rw [if_pos c13] at H
           have c13b0 : (x5_5 == 0) = true := beq_iff_eq.mpr c13
           have c13b1 : (x5_5 != 0) = false := bne_eq_false_iff_eq.mpr c13
           clear c13
           obtain rfl := Option.some.inj H
           have p10 : 0 ≤ (x6_1 : Int) := of_decide_eq_true asz
           have q10 : x6_1 < (a0.size : Int) := of_decide_eq_true asz
           have hx10 := bt_at a0 x6_1
           replace p10 := eq_true p10
           replace q10 := eq_true q10
           go_wp2
           go_ret
           exact ⟨by first | rfl | (simp; done) | (simp [*]; done), drz⟩
          ·
           rw [if_neg c13] at H
           have c13b0 : (x5_5 == 0) = false := beq_eq_false_iff_ne.mpr c13
           have c13b1 : (x5_5 != 0) = true := bne_iff_ne.mpr c13
           have H' := Aside0.mk H
           clear H
           have p10 : 0 ≤ (x6_1 : Int) := of_decide_eq_true asz
           have q10 : x6_1 < (a0.size : Int) := of_decide_eq_true asz
           have hx10 := bt_at a0 x6_1
           replace p10 := eq_true p10
           replace q10 := eq_true q10
           go_wp2
           go_roundg kj5
           case measure => have := HK1.out; have := HJ5.out; omega
           case rel => exact ⟨(x5_5), (wrap64 (x6_1 + 1)), rsz, rsz, H', ⟨by have := HK1.out; have := HJ5.out; omega⟩, drz⟩
        ·
         rw [if_neg c9] at H
         exact absurd H (by simp)
       ·
        rw [if_neg c8] at H
        exact absurd H (by simp)
    ·
     rw [if_neg c4] at H
     exact absurd H (by simp)
   ·
    rw [if_neg c3] at H
    have c3b0 : decide (x6_1 < (a0.size : Int)) = false := decide_eq_false c3
    clear c3
    obtain rfl := Option.some.inj H
    go_wp2
    go_ret
    exact ⟨by first | rfl | (simp; done) | (simp [*]; done), drz⟩

/-! ### dropperref09_added: function 103 -/
def dropperref09_added.f (a0 : ByteArray) (a1 : ByteArray) : Option (ByteArray) := if a0.toList = ([] : List UInt8) then (some a1) else (if a0.size + 1 ≤ 9223372036854775807 then (if (a0 ++ (⟨#[43]⟩ : ByteArray)).size + a1.size ≤ 9223372036854775807 then (some ((a0 ++ (⟨#[43]⟩ : ByteArray)) ++ a1)) else (none)) else (none))
set_option maxHeartbeats 8000000 in
set_option maxRecDepth 100000 in
theorem dropperref09_added.calls (a0 : ByteArray) (a1 : ByteArray) (r : ByteArray) (w : World) (h : dropperref09_added.f a0 a1 = some r) :
  Calls Try.prog 103 #[.string a0, .string a1] w fun e w' => e = .returned (.string r) ∧ Drawn0 w w' := by
 have H : (if a0.toList = ([] : List UInt8) then (some a1) else (if a0.size + 1 ≤ 9223372036854775807 then (if (a0 ++ (⟨#[43]⟩ : ByteArray)).size + a1.size ≤ 9223372036854775807 then (some ((a0 ++ (⟨#[43]⟩ : ByteArray)) ++ a1)) else (none)) else (none))) = some r := h
 clear h
 by_cases c3 : a0.toList = ([] : List UInt8)
 ·
  rw [if_pos c3] at H
  have c3b0 : (a0.toList == ([] : List UInt8)) = true := beq_iff_eq.mpr c3
  have c3b1 : (a0.toList != ([] : List UInt8)) = false := bne_eq_false_iff_eq.mpr c3
  clear c3
  obtain rfl := Option.some.inj H
  go_enter Try.func103, Try.ntmps103
  go_wp2
  go_ret
  exact ⟨by first | rfl | (simp; done) | (simp [*]; done), drz⟩
 ·
  rw [if_neg c3] at H
  have c3b0 : (a0.toList == ([] : List UInt8)) = false := beq_eq_false_iff_ne.mpr c3
  have c3b1 : (a0.toList != ([] : List UInt8)) = true := bne_iff_ne.mpr c3
  by_cases c4 : a0.size + 1 ≤ 9223372036854775807
  ·
   rw [if_pos c4] at H
   have c4b0 := eq_true c4
   have c4b1 : decide (a0.size + 1 ≤ 9223372036854775807) = true := decide_eq_true c4
   try have c4b2 : (9223372036854775807 < a0.size + 1) = False := eq_false (Nat.not_lt.2 c4)
   by_cases c5 : (a0 ++ (⟨#[43]⟩ : ByteArray)).size + a1.size ≤ 9223372036854775807
   ·
    rw [if_pos c5] at H
    have c5b0 := eq_true c5
    have c5b1 : decide ((a0 ++ (⟨#[43]⟩ : ByteArray)).size + a1.size ≤ 9223372036854775807) = true := decide_eq_true c5
    try have c5b2 : (9223372036854775807 < (a0 ++ (⟨#[43]⟩ : ByteArray)).size + a1.size) = False := eq_false (Nat.not_lt.2 c5)
    have c5b4 := c5b2
    try simp only [ByteArray.size_append, show (⟨#[43]⟩ : ByteArray).size = 1 from rfl] at c5b4
    obtain rfl := Option.some.inj H
    go_enter Try.func103, Try.ntmps103
    go_wp2
    go_ret
    exact ⟨by first | rfl | (simp; done) | (simp [*]; done), drz⟩
   ·
    rw [if_neg c5] at H
    exact absurd H (by simp)
  ·
   rw [if_neg c4] at H
   exact absurd H (by simp)

/-! ### dropperref09_sums: function 104 -/
def dropperref09_sums.l0 : Nat → ByteArray → Int → Option (Bool)
 | 0, _, _ => none
 | k + 1, x0, x3 => if x3 < (x0.size : Int) then (if 0 ≤ x3 then (if (bt x0 x3) = 40 then ((dropperref09_closing.f k x0 x3).bind fun t161 => (dropperref09_sums.l0 k x0 (wrap64 (t161 + 1)))) else (if (bt x0 x3) = 43 then (some true) else (dropperref09_sums.l0 k x0 (wrap64 (x3 + 1))))) else (none)) else (some false)
def dropperref09_sums.f (k : Nat) (a0 : ByteArray) : Option (Bool) := dropperref09_sums.l0 k a0 0
set_option maxHeartbeats 8000000 in
set_option maxRecDepth 100000 in
theorem dropperref09_sums.calls (k : Nat) (a0 : ByteArray) (r : Bool) (w : World) (h : dropperref09_sums.f k a0 = some r) :
  Calls Try.prog 104 #[.string a0] w fun e w' => e = .returned (.bool r) ∧ Drawn0 w w' := by
 have H : (dropperref09_sums.l0 k a0 0) = some r := h
 clear h
 have H' := Aside0.mk H
 clear H
 go_enter Try.func104, Try.ntmps104
 go_wp2
 go_loopg [3] k (fun kq v3 w' => ∃ (x3_1 : Int), v3 = .int .i64 x3_1 ∧ Aside0 (dropperref09_sums.l0 kq a0 x3_1 = some r) ∧ Aside0 (kq ≤ k) ∧ Drawn0 w w')
 case atStart => exact ⟨(0), rsz, H', ⟨Nat.le_refl _⟩, drz⟩
 case round =>
  clear H'
  try clear c1
  obtain ⟨x3_1, rfl, HA, HK1, ⟨m1, rfl⟩⟩ := hrel
  cases gk with
  | zero => exact absurd HA.out (by simp [dropperref09_sums.l0])
  | succ k1 =>
   have H := HA.out
   clear HA
   simp only [dropperref09_sums.l0] at H
   by_cases c2 : x3_1 < (a0.size : Int)
   ·
    rw [if_pos c2] at H
    have c2b0 : decide (x3_1 < (a0.size : Int)) = true := decide_eq_true c2
    clear c2
    by_cases c3 : 0 ≤ x3_1
    ·
     rw [if_pos c3] at H
     have c3b0 : decide (0 ≤ x3_1) = true := decide_eq_true c3
     clear c3
     by_cases c5 : (bt a0 x3_1) = 40
     ·
      rw [if_pos c5] at H
      have c5b0 : ((bt a0 x3_1) == 40) = true := beq_iff_eq.mpr c5
      have c5b1 : ((bt a0 x3_1) != 40) = false := bne_eq_false_iff_eq.mpr c5
      clear c5
      replace H := Option.bind_eq_some_iff.mp H
      obtain ⟨t161, A60, H⟩ := H
      try dsimp only at H
      have A6 := Aside0.mk A60
      clear A60
      have H' := Aside0.mk H
      clear H
      have p4 : 0 ≤ (x3_1 : Int) := of_decide_eq_true asz
      have q4 : x3_1 < (a0.size : Int) := of_decide_eq_true asz
      have hx4 := bt_at a0 x3_1
      replace p4 := eq_true p4
      replace q4 := eq_true q4
      go_wp2_with (first | ((with_reducible refine gate_callee (f := 102) rfl ?_); refine goesL_ (some 16) rfl rfl Try.func102 (by kernel_rfl) rfl #[.string a0, .int .i64 x3_1] rfl mapz ?_; (with_reducible refine (dropperref09_closing.calls k1 a0 x3_1 t161 _ A6.out).mono ?_); rintro e w' ⟨rfl, ⟨nd, rfl⟩⟩; refine ⟨_, rfl, ?_⟩))
      go_roundg k1
      case measure => have := HK1.out; omega
      case rel => exact ⟨(wrap64 (t161 + 1)), rsz, H', ⟨by have := HK1.out; omega⟩, drz⟩
     ·
      rw [if_neg c5] at H
      have c5b0 : ((bt a0 x3_1) == 40) = false := beq_eq_false_iff_ne.mpr c5
      have c5b1 : ((bt a0 x3_1) != 40) = true := bne_iff_ne.mpr c5
      by_cases c8 : (bt a0 x3_1) = 43
      ·
       rw [if_pos c8] at H
       have c8b0 : ((bt a0 x3_1) == 43) = true := beq_iff_eq.mpr c8
       have c8b1 : ((bt a0 x3_1) != 43) = false := bne_eq_false_iff_eq.mpr c8
       clear c8
       obtain rfl := Option.some.inj H
       have p4 : 0 ≤ (x3_1 : Int) := of_decide_eq_true asz
       have q4 : x3_1 < (a0.size : Int) := of_decide_eq_true asz
       have hx4 := bt_at a0 x3_1
       replace p4 := eq_true p4
       replace q4 := eq_true q4
       have p7 : 0 ≤ (x3_1 : Int) := of_decide_eq_true asz
       have q7 : x3_1 < (a0.size : Int) := of_decide_eq_true asz
       have hx7 := bt_at a0 x3_1
       replace p7 := eq_true p7
       replace q7 := eq_true q7
       go_wp2
       go_ret
       exact ⟨by first | rfl | (simp; done) | (simp [*]; done), drz⟩
      ·
       rw [if_neg c8] at H
       have c8b0 : ((bt a0 x3_1) == 43) = false := beq_eq_false_iff_ne.mpr c8
       have c8b1 : ((bt a0 x3_1) != 43) = true := bne_iff_ne.mpr c8
       have H' := Aside0.mk H
       clear H
       have p4 : 0 ≤ (x3_1 : Int) := of_decide_eq_true asz
       have q4 : x3_1 < (a0.size : Int) := of_decide_eq_true asz
       have hx4 := bt_at a0 x3_1
       replace p4 := eq_true p4
       replace q4 := eq_true q4
       have p7 : 0 ≤ (x3_1 : Int) := of_decide_eq_true asz
       have q7 : x3_1 < (a0.size : Int) := of_decide_eq_true asz
       have hx7 := bt_at a0 x3_1
       replace p7 := eq_true p7
       replace q7 := eq_true q7
       go_wp2
       go_roundg k1
       case measure => have := HK1.out; omega
       case rel => exact ⟨(wrap64 (x3_1 + 1)), rsz, H', ⟨by have := HK1.out; omega⟩, drz⟩
    ·
     rw [if_neg c3] at H
     exact absurd H (by simp)
   ·
    rw [if_neg c2] at H
    have c2b0 : decide (x3_1 < (a0.size : Int)) = false := decide_eq_false c2
    clear c2
    obtain rfl := Option.some.inj H
    go_wp2
    go_ret
    exact ⟨by first | rfl | (simp; done) | (simp [*]; done), drz⟩

/-! ### dropperref09_turned: function 76 -/
mutual
def dropperref09_turned.l0 : Nat → ByteArray → List ByteArray → Int → Option (ByteArray)
 | 0, _, _, _ => none
 | k + 1, x0, x3, x4 => if x4 < (x0.size : Int) then (if 0 ≤ x4 then (if (bt x0 x4) = 43 then (if x3.length < 8796093022208 then (dropperref09_turned.l0 k x0 (x3 ++ [(⟨#[]⟩ : ByteArray)]) (wrap64 (x4 + 1))) else (none)) else (if (bt x0 x4) = 40 then ((dropperref09_closing.f k x0 x4).bind fun t168 => (if 0 ≤ (wrap64 ((x3.length : Int) - 1)) then (if (wrap64 ((x3.length : Int) - 1)) < (x3.length : Int) then (if 0 ≤ (wrap64 (x4 + 1)) then (if (wrap64 (x4 + 1)) ≤ t168 then (if t168 ≤ (x0.size : Int) then ((dropperref09_turned.f k (x0.extract ((wrap64 (x4 + 1)) : Int).toNat (t168 : Int).toNat)).bind fun t170 => ((dropperref09_added.f (rdOf ByteArray.empty x3 (wrap64 ((x3.length : Int) - 1))) t170).bind fun t171 => (dropperref09_turned.l0 k x0 (x3.set ((wrap64 ((x3.length : Int) - 1)) : Int).toNat t171) (wrap64 (t168 + 1))))) else (none)) else (none)) else (none)) else (none)) else (none))) else (if 0 ≤ (wrap64 ((x3.length : Int) - 1)) then (if (wrap64 ((x3.length : Int) - 1)) < (x3.length : Int) then (if x4 ≤ (wrap64 (x4 + 1)) then (if (wrap64 (x4 + 1)) ≤ (x0.size : Int) then ((dropperref09_added.f (rdOf ByteArray.empty x3 (wrap64 ((x3.length : Int) - 1))) (x0.extract (x4 : Int).toNat ((wrap64 (x4 + 1)) : Int).toNat)).bind fun t174 => (dropperref09_turned.l0 k x0 (x3.set ((wrap64 ((x3.length : Int) - 1)) : Int).toNat t174) (wrap64 (x4 + 1)))) else (none)) else (none)) else (none)) else (none)))) else (none)) else (if (x3.length : Int) = 1 then (if 0 < (x3.length : Int) then (some (rdOf ByteArray.empty x3 0)) else (none)) else (dropperref09_turned.l1 k x3 (⟨#[]⟩ : ByteArray) 0))
def dropperref09_turned.l1 : Nat → List ByteArray → ByteArray → Int → Option (ByteArray)
 | 0, _, _, _ => none
 | k + 1, x3, x7, x8 => if x8 < (x3.length : Int) then (if 0 ≤ x8 then ((dropperref09_sums.f k (rdOf ByteArray.empty x3 x8)).bind fun t178 => (if t178 = true then (if 1 + (rdOf ByteArray.empty x3 x8).size ≤ 9223372036854775807 then (if ((⟨#[40]⟩ : ByteArray) ++ (rdOf ByteArray.empty x3 x8)).size + 1 ≤ 9223372036854775807 then (if x7.size + (((⟨#[40]⟩ : ByteArray) ++ (rdOf ByteArray.empty x3 x8)) ++ (⟨#[41]⟩ : ByteArray)).size ≤ 9223372036854775807 then (dropperref09_turned.l1 k x3 (x7 ++ (((⟨#[40]⟩ : ByteArray) ++ (rdOf ByteArray.empty x3 x8)) ++ (⟨#[41]⟩ : ByteArray))) (wrap64 (x8 + 1))) else (none)) else (none)) else (none)) else (if x7.size + (rdOf ByteArray.empty x3 x8).size ≤ 9223372036854775807 then (dropperref09_turned.l1 k x3 (x7 ++ (rdOf ByteArray.empty x3 x8)) (wrap64 (x8 + 1))) else (none)))) else (none)) else (some x7)
def dropperref09_turned.f : Nat → ByteArray → Option (ByteArray)
 | 0, _ => none
 | k + 1, a0 => dropperref09_turned.l0 k a0 (([(⟨#[]⟩ : ByteArray)] : List ByteArray)) 0
end
def dropperref09_turned.T6 : Bool × List (List Nat × List Nat) := (true, [([], []), ([], []), ([], []), ([], []), ([2, 3], [2, 3]), ([4], [4]), ([], []), ([], []), ([], []), ([8], [8]), ([6, 7, 9], [6, 7, 9]), ([5, 10], [5, 10]), ([0, 1, 0, 1, 2, 3, 4, 5, 6, 7, 8, 9, 10, 11], [0, 1]), ([12, 11, 11, 0, 1, 2, 3, 4, 5, 6, 7, 8, 9, 10, 11], [11, 12])])
def dropperref09_turned.B6 : List Nat := [0, 0, 0, 0, 12, 28, 0, 0, 0, 256, 960, 2044, 4095, 8191]
theorem dropperref09_turned.tab6 : rtab .any (opsOf Try.f76 6) = dropperref09_turned.T6 := by kernel_rfl
theorem dropperref09_turned.bits6 : waitsOk dropperref09_turned.T6.2 dropperref09_turned.B6 = true := by kernel_rfl
def dropperref09_turned.T11 : Bool × List (List Nat × List Nat) := (true, [([], []), ([], []), ([], []), ([], []), ([2, 3], [2, 3]), ([4], [4]), ([], []), ([], []), ([7], [7]), ([], []), ([6, 8, 9], [6, 8, 9]), ([10], [10]), ([5, 11, 11], [5, 11]), ([0, 1, 0, 1, 2, 3, 4, 5, 6, 7, 8, 9, 10, 11, 12], [0, 1]), ([13, 12, 12, 0, 1, 2, 3, 4, 5, 6, 7, 8, 9, 10, 11, 12], [12, 13])])
def dropperref09_turned.B11 : List Nat := [0, 0, 0, 0, 12, 28, 0, 0, 128, 0, 960, 1984, 4092, 8191, 16383]
theorem dropperref09_turned.tab11 : rtab .any (opsOf Try.f76 11) = dropperref09_turned.T11 := by kernel_rfl
theorem dropperref09_turned.bits11 : waitsOk dropperref09_turned.T11.2 dropperref09_turned.B11 = true := by kernel_rfl
set_option maxHeartbeats 8000000 in
set_option maxRecDepth 100000 in
theorem dropperref09_turned.calls (k : Nat) : ∀ (a0 : ByteArray) (r : ByteArray) (w : World) (h : dropperref09_turned.f k a0 = some r),
  Calls Try.prog 76 #[.string a0] w fun e w' => e = .returned (.string r) ∧ Below w.heap.size w w' := by
 induction k using Nat.strongRecOn with
 | _ k ih =>
 intro a0 r w h
 cases k with
 | zero => exact absurd h (by simp [dropperref09_turned.f])
 | succ k =>
 simp only [dropperref09_turned.f] at h
 have HB := Aside0.mk (Below.refl w.heap.size w)
 have H : (dropperref09_turned.l0 k a0 (([(⟨#[]⟩ : ByteArray)] : List ByteArray)) 0) = some r := h
 clear h
 obtain ⟨y162, hy162⟩ : ∃ y_ : List ByteArray, y_ = (([(⟨#[]⟩ : ByteArray)] : List ByteArray)) := ⟨_, rfl⟩
 replace H : (dropperref09_turned.l0 k a0 y162 0) = some r := by first | (rw [hy162]; with_reducible exact H) | (have H2_ := (Option.bind_some _ _).symm.trans H; rw [hy162]; with_reducible exact H2_) | (have H2_ := (Option.bind_some _ _).symm.trans H; with_reducible exact H2_) | with_reducible exact H | (rw [hy162]; exact H) | exact H
 have Ny162 := Aside0.mk hy162
 clear hy162
 have H' := Aside0.mk H
 clear H
 go_enter Try.func76, Try.ntmps76
 go_wp2_with (first | ((with_reducible refine gate_dst (N := 9) rfl ?_); refine Kd.R_lit Kd.string _ 9 ?hg (N := 9) ?hd (xs := ([(⟨#[]⟩ : ByteArray)] : List ByteArray)) (inner := [.string (⟨#[]⟩ : ByteArray)]) (ok := fun _ => True) (okp := fun _ => True) ?hr ?hp (fun _ hk => hk) trivial (Below.refl _ _) (Nat.le_refl _) (by simp) ?_; (case hd => rfl); (case hg => rfl); (case hr => first | (go_simp; done) | (go_simp; rfl)); (case hp => exact (Reps.one (show Kd.M Kd.string _ _ _ (⟨#[]⟩ : ByteArray) [.string (⟨#[]⟩ : ByteArray)] from rfl) (Reps.none _ _))); intro v163 w2 ho3 hb hg_ hnew_; clear hg_ hnew_; (first | rw [← Ny162.out] at ho3 | (simp only [Int.reduceToNat] at ho3; rw [← Ny162.out] at ho3)); have HO164 := Aside0.mk (Kd.R_lower ho3 (below_size bel)); replace HB := Aside0.mk (below_step bel hb); clear hb ho3))
 go_loopg [3, 4] k (fun kq v3 v4 w' => ∃ (x3_1 : List ByteArray) (x4_1 : Int), v4 = .int .i64 x4_1 ∧ Aside0 (dropperref09_turned.l0 kq a0 x3_1 x4_1 = some r) ∧ Aside0 (kq ≤ k) ∧ Aside0 (Kd.R Kd.string 9 w' w.heap.size (fun _ => True) v3 x3_1) ∧ Aside0 (Below w.heap.size w w'))
 case atStart => exact ⟨(y162), (0), rsz, H', ⟨Nat.le_refl _⟩, ⟨by (with_reducible repeat (first | apply Kd.R_alloc | apply Kd.R_drewN | apply Kd.R_drew)); exact HO164.out⟩, ⟨bel⟩⟩
 case round =>
  clear H'
  try clear p2
  obtain ⟨x3_1, x4_1, rfl, HA, HK1, HO_3, HB⟩ := hrel
  cases gk with
  | zero => exact absurd HA.out (by simp [dropperref09_turned.l0])
  | succ k1 =>
   have H := HA.out
   clear HA
   simp only [dropperref09_turned.l0] at H
   by_cases c4 : x4_1 < (a0.size : Int)
   ·
    rw [if_pos c4] at H
    have c4b0 : decide (x4_1 < (a0.size : Int)) = true := decide_eq_true c4
    clear c4
    by_cases c5 : 0 ≤ x4_1
    ·
     rw [if_pos c5] at H
     have c5b0 : decide (0 ≤ x4_1) = true := decide_eq_true c5
     clear c5
     by_cases c7 : (bt a0 x4_1) = 43
     ·
      rw [if_pos c7] at H
      have c7b0 : ((bt a0 x4_1) == 43) = true := beq_iff_eq.mpr c7
      have c7b1 : ((bt a0 x4_1) != 43) = false := bne_eq_false_iff_eq.mpr c7
      clear c7
      by_cases c8 : x3_1.length < 8796093022208
      ·
       rw [if_pos c8] at H
       have LMc8 := Aside0.mk c8
       clear c8
       obtain ⟨y165, hy165⟩ : ∃ y_ : List ByteArray, y_ = (x3_1 ++ [(⟨#[]⟩ : ByteArray)]) := ⟨_, rfl⟩
       replace H : (dropperref09_turned.l0 k1 a0 y165 (wrap64 (x4_1 + 1))) = some r := by first | (rw [hy165]; with_reducible exact H) | (have H2_ := (Option.bind_some _ _).symm.trans H; rw [hy165]; with_reducible exact H2_) | (have H2_ := (Option.bind_some _ _).symm.trans H; with_reducible exact H2_) | with_reducible exact H | (rw [hy165]; exact H) | exact H
       have Ny165 := Aside0.mk hy165
       clear hy165
       have H' := Aside0.mk H
       clear H
       obtain ⟨Ao9, co9, eo9⟩ := Kd.R_slice HO_3.out
       subst eo9
       have p6 : 0 ≤ (x4_1 : Int) := of_decide_eq_true asz
       have q6 : x4_1 < (a0.size : Int) := of_decide_eq_true asz
       have hx6 := bt_at a0 x4_1
       replace p6 := eq_true p6
       replace q6 := eq_true q6
       go_wp2_with (first | ((with_reducible refine gate_builtin (b := .append) (xs := #[.tmp 37, .tmp 38]) rfl ?_); at_builtin; refine Kd.R_append Kd.string (w0 := w) w.heap.size rfl (.tmp 37) (.tmp 38) 24 9 (.string ⟨#[]⟩) 16 rfl Try.underlying24 info9 rfl (by decide) (by omega) (.slice Ao9 x3_1.length co9) x3_1 (⟨#[]⟩ : ByteArray) [.string (⟨#[]⟩ : ByteArray)] (fun _ => True) (fun _ => False) rfl rfl ?aP (fun _ hk => hk.elim) ?aF ?aO ?aB ?aS ?aL ?_; (case aP => exact rfl); (case aB => exact bel); (case aF => exact (fun _ _ => trivial)); (case aO => exact (ownx HO_3)); (case aS => exact (below_size bel)); (case aL => have := LMc8.out; omega); intro v166 w10 ho hb hg hat; rw [← Ny165.out] at ho; have n0_ := Aside0.mk (hb); have n1_ := Aside0.mk (ho); clear HB; clear HO_3; have HB := n0_; have HO167 := n1_; clear n0_ n1_; clear ho hb hg hat))
       go_roundg k1
       case measure => have := HK1.out; omega
       case rel => exact ⟨(y165), (wrap64 (x4_1 + 1)), rsz, H', ⟨by have := HK1.out; omega⟩, ⟨by (with_reducible repeat (first | apply Kd.R_alloc | apply Kd.R_drewN | apply Kd.R_drew)); exact HO167.out⟩, ⟨bel⟩⟩
      ·
       rw [if_neg c8] at H
       exact absurd H (by simp)
     ·
      rw [if_neg c7] at H
      have c7b0 : ((bt a0 x4_1) == 43) = false := beq_eq_false_iff_ne.mpr c7
      have c7b1 : ((bt a0 x4_1) != 43) = true := bne_iff_ne.mpr c7
      by_cases c12 : (bt a0 x4_1) = 40
      ·
       rw [if_pos c12] at H
       have c12b0 : ((bt a0 x4_1) == 40) = true := beq_iff_eq.mpr c12
       have c12b1 : ((bt a0 x4_1) != 40) = false := bne_eq_false_iff_eq.mpr c12
       clear c12
       replace H := Option.bind_eq_some_iff.mp H
       obtain ⟨t168, A130, H⟩ := H
       try dsimp only at H
       have A13 := Aside0.mk A130
       clear A130
       obtain ⟨ji14, hji14⟩ : ∃ j_ : Int, (wrap64 ((x3_1.length : Int) - 1)) = j_ := ⟨_, rfl⟩
       replace H : (if 0 ≤ (ji14) then (if (ji14) < (x3_1.length : Int) then (if 0 ≤ (wrap64 (x4_1 + 1)) then (if (wrap64 (x4_1 + 1)) ≤ t168 then (if t168 ≤ (a0.size : Int) then ((dropperref09_turned.f k1 (a0.extract ((wrap64 (x4_1 + 1)) : Int).toNat (t168 : Int).toNat)).bind fun t170 => ((dropperref09_added.f (rdOf ByteArray.empty x3_1 (ji14)) t170).bind fun t171 => (dropperref09_turned.l0 k1 a0 (x3_1.set ((ji14) : Int).toNat t171) (wrap64 (t168 + 1))))) else (none)) else (none)) else (none)) else (none)) else (none)) = some r := by first | (rw [hji14] at H; exact H) | (simp only [hji14] at H ⊢; exact H)
       (try rw [hji14] at A13)
       have hji14w : (IntKind.i64.wrap ((x3_1.length : Int) - 1)) = ji14 := (i64_w _).trans hji14
       by_cases c15 : 0 ≤ (ji14)
       ·
        rw [if_pos c15] at H
        have c15b0 : decide (0 ≤ (ji14)) = true := decide_eq_true c15
        clear c15
        by_cases c16 : (ji14) < (x3_1.length : Int)
        ·
         rw [if_pos c16] at H
         have c16b0 : decide ((ji14) < (x3_1.length : Int)) = true := decide_eq_true c16
         clear c16
         obtain ⟨ji17, hji17⟩ : ∃ j_ : Int, (wrap64 (x4_1 + 1)) = j_ := ⟨_, rfl⟩
         replace H : (if 0 ≤ (ji17) then (if (ji17) ≤ t168 then (if t168 ≤ (a0.size : Int) then ((dropperref09_turned.f k1 (a0.extract ((ji17) : Int).toNat (t168 : Int).toNat)).bind fun t170 => ((dropperref09_added.f (rdOf ByteArray.empty x3_1 (ji14)) t170).bind fun t171 => (dropperref09_turned.l0 k1 a0 (x3_1.set ((ji14) : Int).toNat t171) (wrap64 (t168 + 1))))) else (none)) else (none)) else (none)) = some r := by first | (rw [hji17] at H; exact H) | (simp only [hji17] at H ⊢; exact H)
         (try rw [hji17] at A13)
         have hji17w : (IntKind.i64.wrap (x4_1 + 1)) = ji17 := (i64_w _).trans hji17
         by_cases c18 : 0 ≤ (ji17)
         ·
          rw [if_pos c18] at H
          have c18b0 := eq_true c18
          have c18b1 : decide (0 ≤ (ji17)) = true := decide_eq_true c18
          clear c18
          by_cases c19 : (ji17) ≤ t168
          ·
           rw [if_pos c19] at H
           have c19b0 := eq_true c19
           have c19b1 : decide ((ji17) ≤ t168) = true := decide_eq_true c19
           clear c19
           by_cases c20 : t168 ≤ (a0.size : Int)
           ·
            rw [if_pos c20] at H
            have c20b0 := eq_true c20
            have c20b1 : decide (t168 ≤ (a0.size : Int)) = true := decide_eq_true c20
            clear c20
            replace H := Option.bind_eq_some_iff.mp H
            obtain ⟨t170, A210, H⟩ := H
            try dsimp only at H
            have A21 := Aside0.mk A210
            clear A210
            replace H := Option.bind_eq_some_iff.mp H
            obtain ⟨t171, A220, H⟩ := H
            try dsimp only at H
            have A22 := Aside0.mk A220
            clear A220
            obtain ⟨y172, hy172⟩ : ∃ y_ : List ByteArray, y_ = (x3_1.set ((ji14) : Int).toNat t171) := ⟨_, rfl⟩
            replace H : (dropperref09_turned.l0 k1 a0 y172 (wrap64 (t168 + 1))) = some r := by first | (rw [hy172]; with_reducible exact H) | (have H2_ := (Option.bind_some _ _).symm.trans H; rw [hy172]; with_reducible exact H2_) | (have H2_ := (Option.bind_some _ _).symm.trans H; with_reducible exact H2_) | with_reducible exact H | (rw [hy172]; exact H) | exact H
            have Ny172 := Aside0.mk hy172
            clear hy172
            have H' := Aside0.mk H
            clear H
            obtain ⟨Ao24, co24, eo24⟩ := Kd.R_slice HO_3.out
            subst eo24
            have p6 : 0 ≤ (x4_1 : Int) := of_decide_eq_true asz
            have q6 : x4_1 < (a0.size : Int) := of_decide_eq_true asz
            have hx6 := bt_at a0 x4_1
            replace p6 := eq_true p6
            replace q6 := eq_true q6
            have p11 : 0 ≤ (x4_1 : Int) := of_decide_eq_true asz
            have q11 : x4_1 < (a0.size : Int) := of_decide_eq_true asz
            have hx11 := bt_at a0 x4_1
            replace p11 := eq_true p11
            replace q11 := eq_true q11
            try go_wp2_with (first | ((with_reducible refine gate_callee (f := 102) rfl ?_); refine goesL_ (some 47) rfl rfl Try.func102 (by kernel_rfl) rfl #[.string a0, .int .i64 x4_1] rfl mapz ?_; (with_reducible refine (dropperref09_closing.calls k1 a0 x4_1 t168 _ A13.out).mono ?_); rintro e w' ⟨rfl, ⟨nd, rfl⟩⟩; refine ⟨_, rfl, ?_⟩; (try (rw [drewN_self wr]; generalize hq_ : World.drewN wr _ = wr; have n0_ : Aside0 (Kd.R Kd.string 9 wr w.heap.size (fun _ => True) (.slice Ao24 x3_1.length co24) x3_1) := ⟨by rw [← hq_]; exact (ownx HO_3)⟩; have n1_ : Aside0 (Below w.heap.size w wr) := ⟨by rw [← hq_]; exact bel⟩; clear HO_3 HB hq_; have HO_3 := n0_; have HB := n1_; clear n0_ n1_))))
            have n0_ := Aside0.mk (Kd.R_drew HO_3.out)
            have n1_ := Aside0.mk (below_drew1 HB.out)
            clear HO_3
            clear HB
            have HO_3 := n0_
            have HB := n1_
            clear n0_ n1_
            have p169 : 0 ≤ ((ji14) : Int) := of_decide_eq_true asz
            have q169 : (ji14) < (x3_1.length : Int) := of_decide_eq_true asz
            obtain ⟨ad169, e169, hx169_0⟩ := Kd.at_string (Kd.R_reads' HO_3.out).2.2 (ji14) p169 q169
            cases e169
            replace p169 := eq_true p169
            replace q169 := eq_true q169
            refine start_ (n := 15) (S := fun w' => w'.cell? (ad169.add ((ji14)).toNat) = some (.string (rdOf ByteArray.empty x3_1 (ji14)))) (ds := [14]) #[false, false, false, false, false, false, false, false, false, false, false, false, false, false, false] (by kernel_rfl) rfl rfl (hx169_0) (fun hHeld => ?_); refine with_tabW dropperref09_turned.tab11 dropperref09_turned.bits11 (fun HT_ HW_ => ?_)
            generalize wr.drew = w25 at HO_3 HB hx169_0 hHeld ⊢
            refine pst (i := 0) (N := some 48) (bz 15 1) (any_of HT_.out (by kernel_rfl)) ?_
            refine pst (i := 1) (N := some 49) (bz 15 3) (any_of HT_.out (by kernel_rfl)) ?_
            refine pst (i := 2) (N := some 50) (bz 15 7) (any_of HT_.out (by kernel_rfl)) ?_
            refine pst (i := 3) (N := some 51) (bz 15 15) (any_of HT_.out (by kernel_rfl)) ?_
            refine pst (i := 4) (N := some 52) (bz 15 31) (any_of HT_.out (by kernel_rfl)) ?_
            refine pst (i := 6) (N := some 54) (bz 15 95) (any_of HT_.out (by kernel_rfl)) ?_
            refine pst (i := 7) (N := some 55) (bz 15 223) (any_of HT_.out (by kernel_rfl)) ?_
            refine pst (i := 8) (N := some 56) (bz 15 479) (any_of HT_.out (by kernel_rfl)) ?_
            refine pst (i := 9) (N := some 57) (bz 15 991) (any_of HT_.out (by kernel_rfl)) ?_
            refine pst (i := 10) (N := some 58) (bz 15 2015) (any_of HT_.out (by kernel_rfl)) ?_
            refine tst1 (i := 5) (N := some 53) (bz 15 2047) (take_ofW HT_.out HW_.out (by kernel_rfl)) hHeld ?_
            refine one_ (i := 11) (N := some 59) #[true, true, true, true, true, true, true, true, true, true, true, true, false, false, false] rfl rfl (one_of HT_.out (by kernel_rfl)) (by decide) (fun K hK => ?_)
            refine goes_ Try.func76 (by kernel_rfl) rfl #[.string (a0.extract ((ji17) : Int).toNat (t168 : Int).toNat)] (by rfl) rfl rfl (by (try simp only [List.map_toArray, List.map_cons, List.map_nil]); first | done | (simp only [hji17]; rfl) | rfl | (simp only [List.length_drop, List.length_take]; rfl)) ?_
            with_reducible refine (ih k1 (by have := HK1.out; omega) (a0.extract ((ji17) : Int).toNat (t168 : Int).toNat) t170 _ A21.out).mono ?_
            rintro e w26 ⟨rfl, hb⟩
            have HS0_ := (hb.cell (World.block_lt_of_cell? _ _ (hHeld))).trans (hHeld)
            refine ⟨_, rfl, ?_⟩
            have n0_ := Aside0.mk (Kd.R_below (ownx HO_3) hb)
            have n1_ := Aside0.mk (below_step bel hb)
            clear HO_3
            clear HB
            have HO_3 := n0_
            have HB := n1_
            clear n0_ n1_
            (try clear hb)
            (try clear hb2)
            (try clear hk)
            (try clear hi)
            refine hK.out _ _ (HS0_) (fun hHeld => ?_)
            clear hK K
            refine norm_ (a' := ?_) ?_ ?_
            rotate_left
            ·
             show Act.put _ (some 59) _ = _
             simp only [Act.put, List.setIfInBounds_toArray, List.set_cons_zero, List.set_cons_succ, i64_w, i32_w]
             rfl
            refine one_ (i := 12) (N := some 60) #[true, true, true, true, true, true, true, true, true, true, true, true, true, false, false] rfl rfl (one_of HT_.out (by kernel_rfl)) (by decide) (fun K hK => ?_)
            refine goes_ Try.func103 (by kernel_rfl) rfl #[.string (rdOf ByteArray.empty x3_1 (ji14)), .string t170] (by rfl) rfl rfl (by (try simp only [List.map_toArray, List.map_cons, List.map_nil]); first | done | (simp only [hji14]; rfl) | rfl | (simp only [List.length_drop, List.length_take]; rfl)) ?_
            with_reducible refine (dropperref09_added.calls (rdOf ByteArray.empty x3_1 (ji14)) t170 t171 _ A22.out).mono ?_
            rintro e w' ⟨rfl, ⟨nd, rfl⟩⟩
            refine ⟨_, rfl, ?_⟩
            have p23 : 0 ≤ ((ji14) : Int) := of_decide_eq_true asz
            have q23 : ((ji14) : Int) < ((x3_1.length : Int) : Int) := of_decide_eq_true asz
            obtain ⟨go23, co23, eo23, gb23, gl23, cl23, HG23⟩ := Kd.R_form HO_3.out (by omega)
            (first | cases eo23 | (injection eo23 with ea_ en_ ec_; (first | subst ea_ | (injection ea_ with ea_; subst ea_)); subst ec_; clear en_))
            have GB23 := Aside0.mk gb23
            have GG23 := Aside0.mk HG23
            clear gb23 gl23 HG23
            (first | simp only [add_plain] at hx169_0 | skip)
            obtain ⟨hx23_0, hf23_0⟩ := Kd.R_celln (⟨#[]⟩ : ByteArray) HO_3.out ((ji14) : Int) p23 q23
            replace p23 := eq_true p23
            replace q23 := eq_true q23
            have HP27 := Kd.R_putn HO_3.out ((ji14) : Int) t171
            rw [← Ny172.out] at HP27
            have HQ27 := Aside0.mk HP27
            clear HP27
            refine hK.out _ _ (hHeld) (fun hHeld => ?_)
            clear hK K
            refine norm_ (a' := ?_) ?_ ?_
            rotate_left
            ·
             show Act.put _ (some 60) _ = _
             simp only [Act.put, List.setIfInBounds_toArray, List.set_cons_zero, List.set_cons_succ, i64_w, i32_w]
             rfl
            refine pst (i := 13) (N := some 61) (bz 15 16383) (any_of HT_.out (by kernel_rfl)) ?_
            refine last_ (i := 14) (N := none) #[true, true, true, true, true, true, true, true, true, true, true, true, true, true, true] rfl rfl (one_of HT_.out (by kernel_rfl)) (by decide) (fun K hK => ?_)
            refine skip_ (w1 := ?_) (by rfl) rfl ?_ ?_
            rotate_left
            ·
             go_simp
             rfl
            refine hK.out _ _ ?_
            clear hK K
            refine done_ (done_of HT_.out (by kernel_rfl)) ?_
            try go_wp2
            go_roundg k1
            case measure => have := HK1.out; omega
            case rel => exact ⟨(y172), (wrap64 (t168 + 1)), rsz, H', ⟨by have := HK1.out; omega⟩, ⟨by (with_reducible repeat (first | apply Kd.R_alloc | apply Kd.R_drewN | apply Kd.R_drew)); exact HQ27.out⟩, ⟨by repeat (first | (with_reducible first | exact HB.out | apply below_alloc | apply pw_below_drewN | apply below_drew1 | refine Go.Proofs.YteikgnaikeleaaaW.PrintWords.below_set ?_ GB23.out) | exact HB.out)⟩⟩
           ·
            rw [if_neg c20] at H
            exact absurd H (by simp)
          ·
           rw [if_neg c19] at H
           exact absurd H (by simp)
         ·
          rw [if_neg c18] at H
          exact absurd H (by simp)
        ·
         rw [if_neg c16] at H
         exact absurd H (by simp)
       ·
        rw [if_neg c15] at H
        exact absurd H (by simp)
      ·
       rw [if_neg c12] at H
       have c12b0 : ((bt a0 x4_1) == 40) = false := beq_eq_false_iff_ne.mpr c12
       have c12b1 : ((bt a0 x4_1) != 40) = true := bne_iff_ne.mpr c12
       obtain ⟨ji28, hji28⟩ : ∃ j_ : Int, (wrap64 ((x3_1.length : Int) - 1)) = j_ := ⟨_, rfl⟩
       replace H : (if 0 ≤ (ji28) then (if (ji28) < (x3_1.length : Int) then (if x4_1 ≤ (wrap64 (x4_1 + 1)) then (if (wrap64 (x4_1 + 1)) ≤ (a0.size : Int) then ((dropperref09_added.f (rdOf ByteArray.empty x3_1 (ji28)) (a0.extract (x4_1 : Int).toNat ((wrap64 (x4_1 + 1)) : Int).toNat)).bind fun t174 => (dropperref09_turned.l0 k1 a0 (x3_1.set ((ji28) : Int).toNat t174) (wrap64 (x4_1 + 1)))) else (none)) else (none)) else (none)) else (none)) = some r := by first | (rw [hji28] at H; exact H) | (simp only [hji28] at H ⊢; exact H)
       have hji28w : (IntKind.i64.wrap ((x3_1.length : Int) - 1)) = ji28 := (i64_w _).trans hji28
       by_cases c29 : 0 ≤ (ji28)
       ·
        rw [if_pos c29] at H
        have c29b0 : decide (0 ≤ (ji28)) = true := decide_eq_true c29
        clear c29
        by_cases c30 : (ji28) < (x3_1.length : Int)
        ·
         rw [if_pos c30] at H
         have c30b0 : decide ((ji28) < (x3_1.length : Int)) = true := decide_eq_true c30
         clear c30
         have c31b0 := eq_true (of_decide_eq_true asz : 0 ≤ x4_1)
         by_cases c32 : x4_1 ≤ (wrap64 (x4_1 + 1))
         ·
          rw [if_pos c32] at H
          have c32b0 := eq_true c32
          have c32b1 : decide (x4_1 ≤ (wrap64 (x4_1 + 1))) = true := decide_eq_true c32
          by_cases c33 : (wrap64 (x4_1 + 1)) ≤ (a0.size : Int)
          ·
           rw [if_pos c33] at H
           have c33b0 := eq_true c33
           have c33b1 : decide ((wrap64 (x4_1 + 1)) ≤ (a0.size : Int)) = true := decide_eq_true c33
           replace H := Option.bind_eq_some_iff.mp H
           obtain ⟨t174, A340, H⟩ := H
           try dsimp only at H
           have A34 := Aside0.mk A340
           clear A340
           obtain ⟨y175, hy175⟩ : ∃ y_ : List ByteArray, y_ = (x3_1.set ((ji28) : Int).toNat t174) := ⟨_, rfl⟩
           replace H : (dropperref09_turned.l0 k1 a0 y175 (wrap64 (x4_1 + 1))) = some r := by first | (rw [hy175]; with_reducible exact H) | (have H2_ := (Option.bind_some _ _).symm.trans H; rw [hy175]; with_reducible exact H2_) | (have H2_ := (Option.bind_some _ _).symm.trans H; with_reducible exact H2_) | with_reducible exact H | (rw [hy175]; exact H) | exact H
           have Ny175 := Aside0.mk hy175
           clear hy175
           have H' := Aside0.mk H
           clear H
           obtain ⟨Ao36, co36, eo36⟩ := Kd.R_slice HO_3.out
           subst eo36
           have p6 : 0 ≤ (x4_1 : Int) := of_decide_eq_true asz
           have q6 : x4_1 < (a0.size : Int) := of_decide_eq_true asz
           have hx6 := bt_at a0 x4_1
           replace p6 := eq_true p6
           replace q6 := eq_true q6
           have p11 : 0 ≤ (x4_1 : Int) := of_decide_eq_true asz
           have q11 : x4_1 < (a0.size : Int) := of_decide_eq_true asz
           have hx11 := bt_at a0 x4_1
           replace p11 := eq_true p11
           replace q11 := eq_true q11
           try go_wp2
           have n0_ := Aside0.mk (Kd.R_drew HO_3.out)
           have n1_ := Aside0.mk (below_drew1 HB.out)
           clear HO_3
           clear HB
           have HO_3 := n0_
           have HB := n1_
           clear n0_ n1_
           have p173 : 0 ≤ ((ji28) : Int) := of_decide_eq_true asz
           have q173 : (ji28) < (x3_1.length : Int) := of_decide_eq_true asz
           obtain ⟨ad173, e173, hx173_0⟩ := Kd.at_string (Kd.R_reads' HO_3.out).2.2 (ji28) p173 q173
           cases e173
           replace p173 := eq_true p173
           replace q173 := eq_true q173
           refine start_ (n := 14) (S := fun w' => w'.cell? (ad173.add ((ji28)).toNat) = some (.string (rdOf ByteArray.empty x3_1 (ji28)))) (ds := [13]) #[false, false, false, false, false, false, false, false, false, false, false, false, false, false] (by kernel_rfl) rfl rfl (hx173_0) (fun hHeld => ?_); refine with_tabW dropperref09_turned.tab6 dropperref09_turned.bits6 (fun HT_ HW_ => ?_)
           generalize wr.drew = w37 at HO_3 HB hx173_0 hHeld ⊢
           refine pst (i := 0) (N := some 19) (bz 14 1) (any_of HT_.out (by kernel_rfl)) ?_
           refine pst (i := 1) (N := some 20) (bz 14 3) (any_of HT_.out (by kernel_rfl)) ?_
           refine pst (i := 2) (N := some 21) (bz 14 7) (any_of HT_.out (by kernel_rfl)) ?_
           refine pst (i := 3) (N := some 22) (bz 14 15) (any_of HT_.out (by kernel_rfl)) ?_
           refine pst (i := 4) (N := some 23) (bz 14 31) (any_of HT_.out (by kernel_rfl)) ?_
           refine pst (i := 6) (N := some 25) (bz 14 95) (any_of HT_.out (by kernel_rfl)) ?_
           refine pst (i := 7) (N := some 26) (bz 14 223) (any_of HT_.out (by kernel_rfl)) ?_
           refine pst (i := 8) (N := some 27) (bz 14 479) (any_of HT_.out (by kernel_rfl)) ?_
           refine pst (i := 9) (N := some 28) (bz 14 991) (any_of HT_.out (by kernel_rfl)) ?_
           refine pst (i := 10) (N := some 29) (bz 14 2015) (any_of HT_.out (by kernel_rfl)) ?_
           refine tst1 (i := 5) (N := some 24) (bz 14 2047) (take_ofW HT_.out HW_.out (by kernel_rfl)) hHeld ?_
           refine one_ (i := 11) (N := some 30) #[true, true, true, true, true, true, true, true, true, true, true, true, false, false] rfl rfl (one_of HT_.out (by kernel_rfl)) (by decide) (fun K hK => ?_)
           refine goes_ Try.func103 (by kernel_rfl) rfl #[.string (rdOf ByteArray.empty x3_1 (ji28)), .string (a0.extract (x4_1 : Int).toNat ((wrap64 (x4_1 + 1)) : Int).toNat)] (by rfl) rfl rfl (by (try simp only [List.map_toArray, List.map_cons, List.map_nil]); first | done | (simp only [hji28]; rfl) | rfl | (simp only [List.length_drop, List.length_take]; rfl)) ?_
           with_reducible refine (dropperref09_added.calls (rdOf ByteArray.empty x3_1 (ji28)) (a0.extract (x4_1 : Int).toNat ((wrap64 (x4_1 + 1)) : Int).toNat) t174 _ A34.out).mono ?_
           rintro e w' ⟨rfl, ⟨nd, rfl⟩⟩
           refine ⟨_, rfl, ?_⟩
           have p35 : 0 ≤ ((ji28) : Int) := of_decide_eq_true asz
           have q35 : ((ji28) : Int) < ((x3_1.length : Int) : Int) := of_decide_eq_true asz
           obtain ⟨go35, co35, eo35, gb35, gl35, cl35, HG35⟩ := Kd.R_form HO_3.out (by omega)
           (first | cases eo35 | (injection eo35 with ea_ en_ ec_; (first | subst ea_ | (injection ea_ with ea_; subst ea_)); subst ec_; clear en_))
           have GB35 := Aside0.mk gb35
           have GG35 := Aside0.mk HG35
           clear gb35 gl35 HG35
           (first | simp only [add_plain] at hx173_0 | skip)
           obtain ⟨hx35_0, hf35_0⟩ := Kd.R_celln (⟨#[]⟩ : ByteArray) HO_3.out ((ji28) : Int) p35 q35
           replace p35 := eq_true p35
           replace q35 := eq_true q35
           have HP38 := Kd.R_putn HO_3.out ((ji28) : Int) t174
           rw [← Ny175.out] at HP38
           have HQ38 := Aside0.mk HP38
           clear HP38
           refine hK.out _ _ (hHeld) (fun hHeld => ?_)
           clear hK K
           refine norm_ (a' := ?_) ?_ ?_
           rotate_left
           ·
            show Act.put _ (some 30) _ = _
            simp only [Act.put, List.setIfInBounds_toArray, List.set_cons_zero, List.set_cons_succ, i64_w, i32_w]
            rfl
           refine pst (i := 12) (N := some 31) (bz 14 8191) (any_of HT_.out (by kernel_rfl)) ?_
           refine last_ (i := 13) (N := none) #[true, true, true, true, true, true, true, true, true, true, true, true, true, true] rfl rfl (one_of HT_.out (by kernel_rfl)) (by decide) (fun K hK => ?_)
           refine skip_ (w1 := ?_) (by rfl) rfl ?_ ?_
           rotate_left
           ·
            go_simp
            rfl
           refine hK.out _ _ ?_
           clear hK K
           refine done_ (done_of HT_.out (by kernel_rfl)) ?_
           try go_wp2
           go_roundg k1
           case measure => have := HK1.out; omega
           case rel => exact ⟨(y175), (wrap64 (x4_1 + 1)), rsz, H', ⟨by have := HK1.out; omega⟩, ⟨by (with_reducible repeat (first | apply Kd.R_alloc | apply Kd.R_drewN | apply Kd.R_drew)); exact HQ38.out⟩, ⟨by repeat (first | (with_reducible first | exact HB.out | apply below_alloc | apply pw_below_drewN | apply below_drew1 | refine Go.Proofs.YteikgnaikeleaaaW.PrintWords.below_set ?_ GB35.out) | exact HB.out)⟩⟩
          ·
           rw [if_neg c33] at H
           exact absurd H (by simp)
         ·
          rw [if_neg c32] at H
          exact absurd H (by simp)
        ·
         rw [if_neg c30] at H
         exact absurd H (by simp)
       ·
        rw [if_neg c29] at H
        exact absurd H (by simp)
    ·
     rw [if_neg c5] at H
     exact absurd H (by simp)
   ·
    rw [if_neg c4] at H
    have c4b0 : decide (x4_1 < (a0.size : Int)) = false := decide_eq_false c4
    clear c4
    by_cases c39 : (x3_1.length : Int) = 1
    ·
     rw [if_pos c39] at H
     have c39b0 : ((x3_1.length : Int) == 1) = true := beq_iff_eq.mpr c39
     have c39b1 : ((x3_1.length : Int) != 1) = false := bne_eq_false_iff_eq.mpr c39
     clear c39
     by_cases c40 : 0 < (x3_1.length : Int)
     ·
      rw [if_pos c40] at H
      have c40b0 : decide (0 < (x3_1.length : Int)) = true := decide_eq_true c40
      have c40b1 : decide (0 < x3_1.length) = true := decide_eq_true (by omega)
      clear c40
      obtain rfl := Option.some.inj H
      obtain ⟨Ao41, co41, eo41⟩ := Kd.R_slice HO_3.out
      subst eo41
      have p176 : 0 ≤ (0 : Int) := (by omega)
      have q176 : 0 < (x3_1.length : Int) := of_decide_eq_true asz
      obtain ⟨ad176, e176, hx176_0⟩ := Kd.at_string (Kd.R_reads' HO_3.out).2.2 0 p176 q176
      cases e176
      have qi176 : (0 < x3_1.length) = True := eq_true (by omega)
      (try rw [show ((0 : Int)).toNat = 0 from rfl] at hx176_0)
      (try rw [Addr.add_zero'] at hx176_0)
      replace p176 := eq_true p176
      replace q176 := eq_true q176
      go_wp2
      go_ret
      exact ⟨ezz, bel⟩
     ·
      rw [if_neg c40] at H
      exact absurd H (by simp)
    ·
     rw [if_neg c39] at H
     have c39b0 : ((x3_1.length : Int) == 1) = false := beq_eq_false_iff_ne.mpr c39
     have c39b1 : ((x3_1.length : Int) != 1) = true := bne_iff_ne.mpr c39
     have H' := Aside0.mk H
     clear H
     obtain ⟨Ao42, co42, eo42⟩ := Kd.R_slice HO_3.out
     subst eo42
     go_wp2
     go_loopg [7, 8] k1 (fun kq v7 v8 w' => ∃ (x7_2 : ByteArray) (x8_2 : Int), v7 = .string x7_2 ∧ v8 = .int .i64 x8_2 ∧ Aside0 (dropperref09_turned.l1 kq x3_1 x7_2 x8_2 = some r) ∧ Aside0 (kq ≤ k1) ∧ Aside0 (Kd.R Kd.string 9 w' w.heap.size (fun _ => True) (.slice Ao42 x3_1.length co42) x3_1) ∧ Aside0 (Below w.heap.size w w'))
     case atStart => exact ⟨((⟨#[]⟩ : ByteArray)), (0), rsz, rsz, H', ⟨Nat.le_refl _⟩, ⟨by (with_reducible repeat (first | apply Kd.R_alloc | apply Kd.R_drewN | apply Kd.R_drew)); exact HO_3.out⟩, ⟨bel⟩⟩
     case round =>
      clear H'
      (try clear c1); (try clear p1); (try clear q1); (try clear hx1); (try clear qi1); (try clear c2); (try clear p2); (try clear q2); (try clear hx2); (try clear hf2); (try clear c3); (try clear p3); (try clear q3); (try clear hx3); (try clear hf3); (try clear c4); (try clear c4b0); (try clear c5); (try clear c5b0); (try clear p6); (try clear q6); (try clear hx6); (try clear c7); (try clear c7b0); (try clear c7b1); (try clear c8); (try clear c10); (try clear p11); (try clear q11); (try clear hx11); (try clear c12); (try clear c12b0); (try clear c12b1); (try clear c15); (try clear c15b0); (try clear c16); (try clear c16b0); (try clear p16); (try clear q16); (try clear hx16); (try clear p17); (try clear q17); (try clear hx17); (try clear qi17); (try clear c18); (try clear c18b0); (try clear c18b1); (try clear c19); (try clear c19b0); (try clear c19b1); (try clear c20); (try clear c20b0); (try clear c20b1); (try clear p23); (try clear q23); (try clear hx23); (try clear hf23); (try clear c29); (try clear c29b0); (try clear c30); (try clear c30b0); (try clear c31); (try clear c31b0); (try clear c32); (try clear c32b0); (try clear c32b1); (try clear c33); (try clear c33b0); (try clear c33b1); (try clear p35); (try clear q35); (try clear hx35); (try clear hf35); (try clear c39); (try clear c39b0); (try clear c39b1); (try clear c40); (try clear c40b0); (try clear c40b1); (try clear hx169_0); (try clear hx173_0); (try clear hx176_0); (try clear hx23_0); (try clear hx35_0); (try clear p11); (try clear p169); (try clear p173); (try clear p176); (try clear p2); (try clear p23); (try clear p35); (try clear p6); (try clear q11); (try clear q169); (try clear q173); (try clear q176); (try clear q23); (try clear q35); (try clear q6)
      obtain ⟨x7_2, x8_2, rfl, rfl, HA, HK2, HO_3, HB⟩ := hrel
      cases gk with
      | zero => exact absurd HA.out (by simp [dropperref09_turned.l1])
      | succ k2 =>
       have H := HA.out
       clear HA
       simp only [dropperref09_turned.l1] at H
       by_cases c43 : x8_2 < (x3_1.length : Int)
       ·
        rw [if_pos c43] at H
        have c43b0 : decide (x8_2 < (x3_1.length : Int)) = true := decide_eq_true c43
        clear c43
        by_cases c44 : 0 ≤ x8_2
        ·
         rw [if_pos c44] at H
         have c44b0 : decide (0 ≤ x8_2) = true := decide_eq_true c44
         clear c44
         replace H := Option.bind_eq_some_iff.mp H
         obtain ⟨t178, A450, H⟩ := H
         try dsimp only at H
         have A45 := Aside0.mk A450
         clear A450
         by_cases c46 : t178 = true
         ·
          subst c46
          rw [if_pos rfl] at H
          by_cases c47 : 1 + (rdOf ByteArray.empty x3_1 x8_2).size ≤ 9223372036854775807
          ·
           rw [if_pos c47] at H
           have c47b0 := eq_true c47
           have c47b1 : decide (1 + (rdOf ByteArray.empty x3_1 x8_2).size ≤ 9223372036854775807) = true := decide_eq_true c47
           try have c47b2 : (9223372036854775807 < 1 + (rdOf ByteArray.empty x3_1 x8_2).size) = False := eq_false (Nat.not_lt.2 c47)
           by_cases c48 : ((⟨#[40]⟩ : ByteArray) ++ (rdOf ByteArray.empty x3_1 x8_2)).size + 1 ≤ 9223372036854775807
           ·
            rw [if_pos c48] at H
            have c48b0 := eq_true c48
            have c48b1 : decide (((⟨#[40]⟩ : ByteArray) ++ (rdOf ByteArray.empty x3_1 x8_2)).size + 1 ≤ 9223372036854775807) = true := decide_eq_true c48
            try have c48b2 : (9223372036854775807 < ((⟨#[40]⟩ : ByteArray) ++ (rdOf ByteArray.empty x3_1 x8_2)).size + 1) = False := eq_false (Nat.not_lt.2 c48)
            have c48b4 := c48b2
            try simp only [ByteArray.size_append, show (⟨#[40]⟩ : ByteArray).size = 1 from rfl] at c48b4
            by_cases c49 : x7_2.size + (((⟨#[40]⟩ : ByteArray) ++ (rdOf ByteArray.empty x3_1 x8_2)) ++ (⟨#[41]⟩ : ByteArray)).size ≤ 9223372036854775807
            ·
             rw [if_pos c49] at H
             have c49b0 := eq_true c49
             have c49b1 : decide (x7_2.size + (((⟨#[40]⟩ : ByteArray) ++ (rdOf ByteArray.empty x3_1 x8_2)) ++ (⟨#[41]⟩ : ByteArray)).size ≤ 9223372036854775807) = true := decide_eq_true c49
             try have c49b2 : (9223372036854775807 < x7_2.size + (((⟨#[40]⟩ : ByteArray) ++ (rdOf ByteArray.empty x3_1 x8_2)) ++ (⟨#[41]⟩ : ByteArray)).size) = False := eq_false (Nat.not_lt.2 c49)
             have c49b4 := c49b2
             try simp only [ByteArray.size_append, show (⟨#[40]⟩ : ByteArray).size = 1 from rfl, show (⟨#[41]⟩ : ByteArray).size = 1 from rfl] at c49b4
             have H' := Aside0.mk H
             clear H
             have p177 : 0 ≤ (x8_2 : Int) := of_decide_eq_true asz
             have q177 : x8_2 < (x3_1.length : Int) := of_decide_eq_true asz
             obtain ⟨ad177, e177, hx177_0⟩ := Kd.at_string (Kd.R_reads' HO_3.out).2.2 x8_2 p177 q177
             cases e177
             replace p177 := eq_true p177
             replace q177 := eq_true q177
             go_wp2_with (first | ((with_reducible refine gate_callee (f := 104) rfl ?_); refine goesL_ (some 79) rfl rfl Try.func104 (by kernel_rfl) rfl #[.string (rdOf ByteArray.empty x3_1 x8_2)] rfl mapz ?_; (with_reducible refine (dropperref09_sums.calls k2 (rdOf ByteArray.empty x3_1 x8_2) true _ A45.out).mono ?_); rintro e w' ⟨rfl, ⟨nd, rfl⟩⟩; refine ⟨_, rfl, ?_⟩; have p179 : 0 ≤ (x8_2 : Int) := of_decide_eq_true asz; have q179 : x8_2 < (x3_1.length : Int) := of_decide_eq_true asz; obtain ⟨ad179, e179, hx179_0⟩ := Kd.at_string (Kd.R_reads' HO_3.out).2.2 x8_2 p179 q179; obtain rfl : ad177 = ad179 := (by injection e179); replace p179 := eq_true p179; replace q179 := eq_true q179))
             go_roundg k2
             case measure => have := HK1.out; have := HK2.out; omega
             case rel => exact ⟨(x7_2 ++ (((⟨#[40]⟩ : ByteArray) ++ (rdOf ByteArray.empty x3_1 x8_2)) ++ (⟨#[41]⟩ : ByteArray))), (wrap64 (x8_2 + 1)), rsz, rsz, H', ⟨by have := HK1.out; have := HK2.out; omega⟩, ⟨by (with_reducible repeat (first | apply Kd.R_alloc | apply Kd.R_drewN | apply Kd.R_drew)); exact HO_3.out⟩, ⟨bel⟩⟩
            ·
             rw [if_neg c49] at H
             exact absurd H (by simp)
           ·
            rw [if_neg c48] at H
            exact absurd H (by simp)
          ·
           rw [if_neg c47] at H
           exact absurd H (by simp)
         ·
          replace c46 := Bool.eq_false_iff.mpr c46
          subst c46
          rw [if_neg (show ¬ (false = true) by decide)] at H
          by_cases c50 : x7_2.size + (rdOf ByteArray.empty x3_1 x8_2).size ≤ 9223372036854775807
          ·
           rw [if_pos c50] at H
           have c50b0 := eq_true c50
           have c50b1 : decide (x7_2.size + (rdOf ByteArray.empty x3_1 x8_2).size ≤ 9223372036854775807) = true := decide_eq_true c50
           try have c50b2 : (9223372036854775807 < x7_2.size + (rdOf ByteArray.empty x3_1 x8_2).size) = False := eq_false (Nat.not_lt.2 c50)
           have H' := Aside0.mk H
           clear H
           have p177 : 0 ≤ (x8_2 : Int) := of_decide_eq_true asz
           have q177 : x8_2 < (x3_1.length : Int) := of_decide_eq_true asz
           obtain ⟨ad177, e177, hx177_0⟩ := Kd.at_string (Kd.R_reads' HO_3.out).2.2 x8_2 p177 q177
           cases e177
           replace p177 := eq_true p177
           replace q177 := eq_true q177
           go_wp2_with (first | ((with_reducible refine gate_callee (f := 104) rfl ?_); refine goesL_ (some 79) rfl rfl Try.func104 (by kernel_rfl) rfl #[.string (rdOf ByteArray.empty x3_1 x8_2)] rfl mapz ?_; (with_reducible refine (dropperref09_sums.calls k2 (rdOf ByteArray.empty x3_1 x8_2) false _ A45.out).mono ?_); rintro e w' ⟨rfl, ⟨nd, rfl⟩⟩; refine ⟨_, rfl, ?_⟩; have p180 : 0 ≤ (x8_2 : Int) := of_decide_eq_true asz; have q180 : x8_2 < (x3_1.length : Int) := of_decide_eq_true asz; obtain ⟨ad180, e180, hx180_0⟩ := Kd.at_string (Kd.R_reads' HO_3.out).2.2 x8_2 p180 q180; obtain rfl : ad177 = ad180 := (by injection e180); replace p180 := eq_true p180; replace q180 := eq_true q180))
           go_roundg k2
           case measure => have := HK1.out; have := HK2.out; omega
           case rel => exact ⟨(x7_2 ++ (rdOf ByteArray.empty x3_1 x8_2)), (wrap64 (x8_2 + 1)), rsz, rsz, H', ⟨by have := HK1.out; have := HK2.out; omega⟩, ⟨by (with_reducible repeat (first | apply Kd.R_alloc | apply Kd.R_drewN | apply Kd.R_drew)); exact HO_3.out⟩, ⟨bel⟩⟩
          ·
           rw [if_neg c50] at H
           exact absurd H (by simp)
        ·
         rw [if_neg c44] at H
         exact absurd H (by simp)
       ·
        rw [if_neg c43] at H
        have c43b0 : decide (x8_2 < (x3_1.length : Int)) = false := decide_eq_false c43
        clear c43
        obtain rfl := Option.some.inj H
        go_wp2
        go_ret
        exact ⟨ezz, bel⟩

/-! ### dropperref09_Dual: function 36 -/
def dropperref09_Dual.f (k : Nat) (a0 : ByteArray) : Option (ByteArray × Int) := (dropperref09_Valid.f a0).bind fun t181 => (if t181 = true then ((dropperref09_turned.f k a0).bind fun t182 => (if (t182.size : Int) > 40 then (some ((⟨#[]⟩ : ByteArray), 4)) else (some (t182, 0)))) else (some ((⟨#[]⟩ : ByteArray), 90)))
set_option maxHeartbeats 8000000 in
set_option maxRecDepth 100000 in
theorem dropperref09_Dual.calls (k : Nat) (a0 : ByteArray) (r1 : ByteArray) (r2 : Int) (w : World) (h : dropperref09_Dual.f k a0 = some (r1, r2)) :
  Calls Try.prog 36 #[.string a0] w fun e w' => e = .returned (.tuple #[.string r1, .int .i64 r2]) ∧ Below w.heap.size w w' := by
 have HB := Aside0.mk (Below.refl w.heap.size w)
 have H : ((dropperref09_Valid.f a0).bind fun t181 => (if t181 = true then ((dropperref09_turned.f k a0).bind fun t182 => (if (t182.size : Int) > 40 then (some ((⟨#[]⟩ : ByteArray), 4)) else (some (t182, 0)))) else (some ((⟨#[]⟩ : ByteArray), 90)))) = some (r1, r2) := h
 clear h
 replace H := Option.bind_eq_some_iff.mp H
 obtain ⟨t181, A20, H⟩ := H
 try dsimp only at H
 have A2 := Aside0.mk A20
 clear A20
 by_cases c3 : t181 = true
 ·
  subst c3
  rw [if_pos rfl] at H
  replace H := Option.bind_eq_some_iff.mp H
  obtain ⟨t182, A40, H⟩ := H
  try dsimp only at H
  have A4 := Aside0.mk A40
  clear A40
  by_cases c5 : (t182.size : Int) > 40
  ·
   rw [if_pos c5] at H
   have c5b0 : decide (40 < (t182.size : Int)) = true := decide_eq_true c5
   have c5b1 : decide (40 < t182.size) = true := decide_eq_true (by omega)
   clear c5
   simp only [Option.some.injEq, Prod.mk.injEq] at H
   obtain ⟨rfl, rfl⟩ := H
   go_enter Try.func36, Try.ntmps36
   go_wp2_with (first | ((with_reducible refine gate_callee (f := 21) rfl ?_); refine goesL_ (some 6) rfl rfl Try.func21 (by kernel_rfl) rfl #[.string a0] rfl mapz ?_; (with_reducible refine (dropperref09_Valid.calls a0 true _ A2.out).mono ?_); rintro e w6 ⟨rfl, hb⟩; refine ⟨_, rfl, ?_⟩; replace HB := Aside0.mk (below_step bel hb); clear hb) | ((with_reducible refine gate_callee (f := 76) rfl ?_); refine goesL_ (some 9) rfl rfl Try.func76 (by kernel_rfl) rfl #[.string a0] rfl mapz ?_; (with_reducible refine (dropperref09_turned.calls k a0 t182 _ A4.out).mono ?_); rintro e w7 ⟨rfl, hb⟩; refine ⟨_, rfl, ?_⟩; replace HB := Aside0.mk (below_step bel hb); clear hb))
   go_ret2
   exact ⟨ezz, bel⟩
  ·
   rw [if_neg c5] at H
   have c5b0 : decide (40 < (t182.size : Int)) = false := decide_eq_false c5
   have c5b1 : decide (40 < t182.size) = false := decide_eq_false (by omega)
   clear c5
   simp only [Option.some.injEq, Prod.mk.injEq] at H
   obtain ⟨rfl, rfl⟩ := H
   go_enter Try.func36, Try.ntmps36
   go_wp2_with (first | ((with_reducible refine gate_callee (f := 21) rfl ?_); refine goesL_ (some 6) rfl rfl Try.func21 (by kernel_rfl) rfl #[.string a0] rfl mapz ?_; (with_reducible refine (dropperref09_Valid.calls a0 true _ A2.out).mono ?_); rintro e w8 ⟨rfl, hb⟩; refine ⟨_, rfl, ?_⟩; replace HB := Aside0.mk (below_step bel hb); clear hb) | ((with_reducible refine gate_callee (f := 76) rfl ?_); refine goesL_ (some 9) rfl rfl Try.func76 (by kernel_rfl) rfl #[.string a0] rfl mapz ?_; (with_reducible refine (dropperref09_turned.calls k a0 t182 _ A4.out).mono ?_); rintro e w9 ⟨rfl, hb⟩; refine ⟨_, rfl, ?_⟩; replace HB := Aside0.mk (below_step bel hb); clear hb))
   go_ret2
   exact ⟨ezz, bel⟩
 ·
  replace c3 := Bool.eq_false_iff.mpr c3
  subst c3
  rw [if_neg (show ¬ (false = true) by decide)] at H
  simp only [Option.some.injEq, Prod.mk.injEq] at H
  obtain ⟨rfl, rfl⟩ := H
  go_enter Try.func36, Try.ntmps36
  go_wp2_with (first | ((with_reducible refine gate_callee (f := 21) rfl ?_); refine goesL_ (some 6) rfl rfl Try.func21 (by kernel_rfl) rfl #[.string a0] rfl mapz ?_; (with_reducible refine (dropperref09_Valid.calls a0 false _ A2.out).mono ?_); rintro e w10 ⟨rfl, hb⟩; refine ⟨_, rfl, ?_⟩; replace HB := Aside0.mk (below_step bel hb); clear hb))
  go_ret2
  exact ⟨ezz, bel⟩

/-! ### dropperlaw09_LoopPlains: function 6 -/
def dropperlaw09_LoopPlains.f (k : Nat) (a0 : ByteArray) : Option (Bool) := (dropperlaw09_Long.f a0 (⟨#[]⟩ : ByteArray)).bind fun t183 => (if t183 = true then ((dropperlaw09_First.f k).bind fun t184 => (some t184)) else ((loop_Plain.f a0).bind fun bt185 => ((dropperref09_Plain.f a0).bind fun bt187 => ((loop_Dual.f a0).bind fun bt189 => ((dropperref09_Dual.f k a0).bind fun bt191 => (if bt185.1.toList = bt187.1.toList then (if bt185.2 = bt187.2 then (if bt189.1.toList = bt191.1.toList then (if bt189.2 = bt191.2 then ((dropperlaw09_First.f k).bind fun t193 => (some t193)) else (none)) else (none)) else (none)) else (none)))))))
set_option maxHeartbeats 8000000 in
set_option maxRecDepth 100000 in
theorem dropperlaw09_LoopPlains.calls (k : Nat) (a0 : ByteArray) (r : Bool) (w : World) (h : dropperlaw09_LoopPlains.f k a0 = some r) :
  Calls Try.prog 6 #[.string a0] w fun e w' => e = .returned (.bool r) ∧ Below w.heap.size w w' := by
 have HB := Aside0.mk (Below.refl w.heap.size w)
 have H : ((dropperlaw09_Long.f a0 (⟨#[]⟩ : ByteArray)).bind fun t183 => (if t183 = true then ((dropperlaw09_First.f k).bind fun t184 => (some t184)) else ((loop_Plain.f a0).bind fun bt185 => ((dropperref09_Plain.f a0).bind fun bt187 => ((loop_Dual.f a0).bind fun bt189 => ((dropperref09_Dual.f k a0).bind fun bt191 => (if bt185.1.toList = bt187.1.toList then (if bt185.2 = bt187.2 then (if bt189.1.toList = bt191.1.toList then (if bt189.2 = bt191.2 then ((dropperlaw09_First.f k).bind fun t193 => (some t193)) else (none)) else (none)) else (none)) else (none)))))))) = some r := h
 clear h
 replace H := Option.bind_eq_some_iff.mp H
 obtain ⟨t183, A20, H⟩ := H
 try dsimp only at H
 have A2 := Aside0.mk A20
 clear A20
 by_cases c3 : t183 = true
 ·
  subst c3
  rw [if_pos rfl] at H
  replace H := Option.bind_eq_some_iff.mp H
  obtain ⟨t184, A40, H⟩ := H
  try dsimp only at H
  have A4 := Aside0.mk A40
  clear A40
  obtain rfl := Option.some.inj H
  go_enter Try.func6, Try.ntmps6
  go_wp2_with (first | ((with_reducible refine gate_callee (f := 14) rfl ?_); refine goesL_ (some 12) rfl rfl Try.func14 (by kernel_rfl) rfl #[.string a0, .string (⟨#[]⟩ : ByteArray)] rfl mapz ?_; (with_reducible refine (dropperlaw09_Long.calls a0 (⟨#[]⟩ : ByteArray) true _ A2.out).mono ?_); rintro e w' ⟨rfl, ⟨nd, rfl⟩⟩; refine ⟨_, rfl, ?_⟩) | ((with_reducible refine gate_callee (f := 15) rfl ?_); refine goesL_ (some 13) rfl rfl Try.func15 (by kernel_rfl) rfl #[] rfl mapz ?_; (with_reducible refine (dropperlaw09_First.calls k  t184 _ A4.out).mono ?_); rintro e w5 ⟨rfl, hb⟩; refine ⟨_, rfl, ?_⟩; replace HB := Aside0.mk (below_step bel hb); clear hb))
  go_ret
  exact ⟨ezz, bel⟩
 ·
  replace c3 := Bool.eq_false_iff.mpr c3
  subst c3
  rw [if_neg (show ¬ (false = true) by decide)] at H
  replace H := Option.bind_eq_some_iff.mp H
  obtain ⟨⟨t185, t186⟩, A60, H⟩ := H
  try dsimp only at H
  have A6 := Aside0.mk A60
  clear A60
  replace H := Option.bind_eq_some_iff.mp H
  obtain ⟨⟨t187, t188⟩, A70, H⟩ := H
  try dsimp only at H
  have A7 := Aside0.mk A70
  clear A70
  replace H := Option.bind_eq_some_iff.mp H
  obtain ⟨⟨t189, t190⟩, A80, H⟩ := H
  try dsimp only at H
  have A8 := Aside0.mk A80
  clear A80
  replace H := Option.bind_eq_some_iff.mp H
  obtain ⟨⟨t191, t192⟩, A90, H⟩ := H
  try dsimp only at H
  have A9 := Aside0.mk A90
  clear A90
  by_cases c10 : t185.toList = t187.toList
  ·
   rw [if_pos c10] at H
   have c10b0 : (t185.toList == t187.toList) = true := beq_iff_eq.mpr c10
   have c10b1 : (t185.toList != t187.toList) = false := bne_eq_false_iff_eq.mpr c10
   clear c10
   by_cases c11 : t186 = t188
   ·
    rw [if_pos c11] at H
    have c11b0 : (t186 == t188) = true := beq_iff_eq.mpr c11
    have c11b1 : (t186 != t188) = false := bne_eq_false_iff_eq.mpr c11
    clear c11
    by_cases c12 : t189.toList = t191.toList
    ·
     rw [if_pos c12] at H
     have c12b0 : (t189.toList == t191.toList) = true := beq_iff_eq.mpr c12
     have c12b1 : (t189.toList != t191.toList) = false := bne_eq_false_iff_eq.mpr c12
     clear c12
     by_cases c13 : t190 = t192
     ·
      rw [if_pos c13] at H
      have c13b0 : (t190 == t192) = true := beq_iff_eq.mpr c13
      have c13b1 : (t190 != t192) = false := bne_eq_false_iff_eq.mpr c13
      clear c13
      replace H := Option.bind_eq_some_iff.mp H
      obtain ⟨t193, A140, H⟩ := H
      try dsimp only at H
      have A14 := Aside0.mk A140
      clear A140
      obtain rfl := Option.some.inj H
      go_enter Try.func6, Try.ntmps6
      go_wp2_with (first | ((with_reducible refine gate_callee (f := 14) rfl ?_); refine goesL_ (some 12) rfl rfl Try.func14 (by kernel_rfl) rfl #[.string a0, .string (⟨#[]⟩ : ByteArray)] rfl mapz ?_; (with_reducible refine (dropperlaw09_Long.calls a0 (⟨#[]⟩ : ByteArray) false _ A2.out).mono ?_); rintro e w' ⟨rfl, ⟨nd, rfl⟩⟩; refine ⟨_, rfl, ?_⟩) | ((with_reducible refine gate_callee (f := 34) rfl ?_); refine goesL_ (some 16) rfl rfl Try.func34 (by kernel_rfl) rfl #[.string a0] rfl mapz ?_; (with_reducible refine (loop_Plain.calls a0 t185 t186 _ A6.out).mono ?_); rintro e w15 ⟨rfl, hb⟩; refine ⟨_, rfl, ?_⟩; replace HB := Aside0.mk (below_step bel hb); clear hb) | ((with_reducible refine gate_callee (f := 35) rfl ?_); refine goesL_ (some 21) rfl rfl Try.func35 (by kernel_rfl) rfl #[.string a0] rfl mapz ?_; (with_reducible refine (dropperref09_Plain.calls a0 t187 t188 _ A7.out).mono ?_); rintro e w16 ⟨rfl, hb⟩; refine ⟨_, rfl, ?_⟩; replace HB := Aside0.mk (below_step bel hb); clear hb) | ((with_reducible refine gate_callee (f := 28) rfl ?_); refine goesL_ (some 26) rfl rfl Try.func28 (by kernel_rfl) rfl #[.string a0] rfl mapz ?_; (with_reducible refine (loop_Dual.calls a0 t189 t190 _ A8.out).mono ?_); rintro e w17 ⟨rfl, hb⟩; refine ⟨_, rfl, ?_⟩; replace HB := Aside0.mk (below_step bel hb); clear hb) | ((with_reducible refine gate_callee (f := 36) rfl ?_); refine goesL_ (some 31) rfl rfl Try.func36 (by kernel_rfl) rfl #[.string a0] rfl mapz ?_; (with_reducible refine (dropperref09_Dual.calls k a0 t191 t192 _ A9.out).mono ?_); rintro e w18 ⟨rfl, hb⟩; refine ⟨_, rfl, ?_⟩; replace HB := Aside0.mk (below_step bel hb); clear hb) | (go_at_call 15; (with_reducible refine (dropperlaw09_First.calls k  t193 _ A14.out).mono ?_); rintro e w19 ⟨rfl, hb⟩; replace HB := Aside0.mk (below_step bel hb); clear hb))
      go_ret
      exact ⟨ezz, bel⟩
     ·
      rw [if_neg c13] at H
      exact absurd H (by simp)
    ·
     rw [if_neg c12] at H
     exact absurd H (by simp)
   ·
    rw [if_neg c11] at H
    exact absurd H (by simp)
  ·
   rw [if_neg c10] at H
   exact absurd H (by simp)

end Go.Proofs.Yteikgnaikeleaaa.XLoop
-- Written by wip/xprint.py of this repo, over the kit's print.py: out of the translation; the oracles in it are by hand. Not trusted: Lean checks it.
namespace Go.Proofs.Yteikgnaikeleaaa.XLoop
open Go.RowKit Go.Proofs.Yteikgnaikeleaaa.XLoop Go.Proofs.YteikgnaikeleaaaW.PrintWords Go.Proofs.YteikgnaikeleaaaW.PrintLast Go.Proofs.YteikgnaikeleaaaW.PrintMore
def dropperlaw09_LoopPlains.Pure : Prop := ∀ (a0 : ByteArray), (a0.size ≤ maxLen) → ∃ k, dropperlaw09_LoopPlains.f k a0 = some true
end Go.Proofs.Yteikgnaikeleaaa.XLoop

/- The reference's text of a dual is the program's. -/
namespace Go.Proofs.Yteikgnaikeleaaa
set_option linter.unusedVariables false
open Go.RowKit Go.Proofs.Yteikgnaikeleaaa.XLoop Go.Proofs.YteikgnaikeleaaaW.PrintWords Go.Proofs.YteikgnaikeleaaaW.PrintLast Go.Proofs.YteikgnaikeleaaaW.PrintMore

theorem closing_in {p : List UInt8} (hp : Bal p) : ∀ (s : List UInt8) (i : Nat) (r : List UInt8) (k d : Nat), s.drop i = p ++ r → s.length < 100000000 → 1 ≤ d → d + p.length < 1000000000 →
  dropperref09_closing.l0 (k + 2 * p.length) (tx s) d i = dropperref09_closing.l0 k (tx s) d ((i + p.length : Nat) : Int) := by
 induction hp with
 | nil => intro s i r k d h1 h2 h3 h4; rfl
 | one b t hb1 hb2 _ ih =>
  intro s i r k d h1 h2 h3 h4
  obtain ⟨g1, g2, g3⟩ := drop_head h1
  have hsz := tx_size s
  rw [List.length_cons] at h4
  have n1 := ne40 hb1
  have n2 := ne41 hb2
  rw [List.length_cons, show k + 2 * (t.length + 1) = (k + 2 * t.length) + 1 + 1 from by omega, dropperref09_closing.l0, if_pos (by rw [hsz]; omega), if_pos (by omega), g2, if_neg n1, dropperref09_closing.j1, if_pos (by omega), if_pos (by rw [hsz]; omega), g2, if_neg n2, if_neg (by omega), wrap_nat i (by omega), ih s (i + 1) r k d g3 h2 h3 (by omega), show i + 1 + t.length = i + (t.length + 1) from by omega]
 | par p t _ _ ih1 ih2 =>
  intro s i r k d h1 h2 h3 h4
  have hsz := tx_size s
  have e0 : (40 :: (p ++ 41 :: t)) ++ r = 40 :: (p ++ (41 :: (t ++ r))) := by simp
  rw [e0] at h1
  obtain ⟨g1, g2, g3⟩ := drop40 h1
  have g4 := (drop_more g3).1
  obtain ⟨g5, g6, g7⟩ := drop41 g4
  have el : (40 :: (p ++ 41 :: t)).length = p.length + t.length + 2 := by simp; omega
  rw [el] at h4 ⊢
  have w1 : wrap64 ((d : Int) + 1) = ((d + 1 : Nat) : Int) := wrap_nat d (by omega)
  have w2 := wrap_pred d (by omega)
  rw [show k + 2 * (p.length + t.length + 2) = ((k + 2 * t.length + 2) + 2 * p.length) + 1 + 1 from by omega, dropperref09_closing.l0, if_pos (by rw [hsz]; omega), if_pos (by omega), g2, if_pos rfl, w1, dropperref09_closing.j1, if_pos (by omega), if_pos (by rw [hsz]; omega), g2, if_neg (by decide), if_neg (by omega), wrap_nat i (by omega),
   ih1 s (i + 1) _ (k + 2 * t.length + 2) (d + 1) g3 h2 (by omega) (by omega)]
  rw [show k + 2 * t.length + 2 = (k + 2 * t.length) + 1 + 1 from rfl, dropperref09_closing.l0, if_pos (by rw [hsz]; omega), if_pos (by omega), g6, if_neg (by decide), dropperref09_closing.j1, if_pos (by omega), if_pos (by rw [hsz]; omega), g6, if_pos rfl, w2, if_neg (by omega), wrap_nat _ (by omega)]
  rw [ih2 s (i + 1 + p.length + 1) r k d g7 h2 h3 (by omega), show i + 1 + p.length + 1 + t.length = i + (p.length + t.length + 2) from by omega]
theorem closing_f {p : List UInt8} (hp : Bal p) (s : List UInt8) (i : Nat) (r : List UInt8) (k : Nat) (h1 : s.drop i = 40 :: (p ++ 41 :: r)) (h2 : s.length < 100000000) (hk : 2 * p.length + 4 ≤ k) :
  dropperref09_closing.f k (tx s) i = some ((i + p.length + 1 : Nat) : Int) := by
 obtain ⟨k, rfl⟩ : ∃ k', k = ((k' + 1 + 1) + 2 * p.length) + 1 + 1 := ⟨k - 2 * p.length - 4, by omega⟩
 have hsz := tx_size s
 obtain ⟨g1, g2, g3⟩ := drop40 h1
 have g4 := (drop_more g3).1
 obtain ⟨g5, g6, g7⟩ := drop41 g4
 have w1 : wrap64 ((0 : Int) + 1) = ((1 : Nat) : Int) := wrap_nat 0 (by decide)
 have w2 : wrap64 (((1 : Nat) : Int) - 1) = 0 := wrap_pred 0 (by decide)
 unfold dropperref09_closing.f
 rw [dropperref09_closing.l0, if_pos (by rw [hsz]; omega), if_pos (by omega), g2, if_pos rfl, w1, dropperref09_closing.j1, if_pos (by omega), if_pos (by rw [hsz]; omega), g2, if_neg (by decide), if_neg (by decide), wrap_nat i (by omega), closing_in hp s (i + 1) _ _ 1 g3 h2 (by omega) (by omega)]
 rw [dropperref09_closing.l0, if_pos (by rw [hsz]; omega), if_pos (by omega), g6, if_neg (by decide), dropperref09_closing.j1, if_pos (by omega), if_pos (by rw [hsz]; omega), g6, if_pos rfl, w2, if_pos rfl, show i + 1 + p.length = i + p.length + 1 from by omega]
theorem sums_at {p : List UInt8} (hp : Bal p) : ∀ (s : List UInt8) (i k : Nat), s.drop i = p → s.length < 100000000 → 2 * p.length + 5 ≤ k → i ≤ s.length → dropperref09_sums.l0 k (tx s) i = some (wideL p 0) := by
 induction hp with
 | nil =>
  intro s i k h1 h2 h3 h4
  have hsz := tx_size s
  obtain ⟨k, rfl⟩ : ∃ k', k = k' + 1 := ⟨k - 1, by omega⟩
  have : s.length ≤ i := by simpa using h1
  rw [dropperref09_sums.l0, if_neg (by rw [hsz]; omega)]
  rfl
 | one b t hb1 hb2 _ ih =>
  intro s i k h1 h2 h3 h4
  have hsz := tx_size s
  obtain ⟨k, rfl⟩ : ∃ k', k = k' + 1 := ⟨k - 1, by omega⟩
  obtain ⟨g1, g2, g3⟩ := drop_head h1
  rw [List.length_cons] at h3
  have n1 := ne40 hb1
  rw [dropperref09_sums.l0, if_pos (by rw [hsz]; omega), if_pos (by omega), g2, if_neg n1, wideL, if_neg hb1, if_neg hb2]
  by_cases h43 : b = 43
  ·
   subst h43
   rw [if_pos (show ((UInt8.toNat 43 : Nat) : Int) = 43 from rfl), if_pos ⟨rfl, rfl⟩]
  ·
   have n3 := ne43 h43
   rw [if_neg n3, if_neg (fun h => h43 h.1), wrap_nat i (by omega)]
   exact ih s (i + 1) k g3 h2 (by omega) (by omega)
 | par p t hp _ _ ih2 =>
  intro s i k h1 h2 h3 h4
  have hsz := tx_size s
  have el : (40 :: (p ++ 41 :: t)).length = p.length + t.length + 2 := by simp; omega
  rw [el] at h3
  obtain ⟨k, rfl⟩ : ∃ k', k = k' + 1 := ⟨k - 1, by omega⟩
  have hcl := closing_f hp s i t k h1 h2 (by omega)
  obtain ⟨g1, g2, g3⟩ := drop40 h1
  have g4 := (drop_more g3).1
  obtain ⟨g5, g6, g7⟩ := drop41 g4
  rw [dropperref09_sums.l0, if_pos (by rw [hsz]; omega), if_pos (by omega), g2, if_pos rfl, hcl, Option.bind_some, wrap_nat _ (by omega), wideL, if_pos rfl, wide_in hp (0 + 1) _ (by omega), wideL, if_neg (by decide), if_pos rfl, show (0 : Int) + 1 - 1 = 0 from rfl]
  rw [show i + p.length + 1 + 1 = i + 1 + p.length + 1 from by omega]
  exact ih2 s _ k g7 h2 (by omega) (by omega)
theorem sums_f {p : List UInt8} (hp : Bal p) (k : Nat) (h2 : p.length < 100000000) (hk : 2 * p.length + 5 ≤ k) : dropperref09_sums.f k (tx p) = some (wideL p 0) :=
 sums_at hp p 0 k rfl h2 hk (Nat.zero_le _)
def addL (x y : List UInt8) : List UInt8 := if x = [] then y else x ++ 43 :: y
theorem added_eq (x y : List UInt8) (h : x.length + y.length < 1000000000) : dropperref09_added.f (tx x) (tx y) = some (tx (addL x y)) := by
 have hx := tx_size x
 have hy := tx_size y
 have e : (⟨#[43]⟩ : ByteArray) = tx [43] := rfl
 unfold dropperref09_added.f addL
 rw [tx_toList]
 by_cases h0 : x = []
 ·
  rw [if_pos h0, if_pos h0]
 ·
  rw [if_neg h0, if_neg h0, if_pos (by omega), e, tx_app, if_pos (by rw [tx_size, hy, List.length_append, List.length_singleton]; omega), tx_app]
  simp
theorem fold_add : ∀ (b : List Mean) (x : List UInt8), x ≠ [] → b.foldl (fun x m => addL x m.d) x = joinL (x :: b.map (·.d))
 | [], x, h => rfl
 | [m], x, h => by
  show addL x m.d = x ++ 43 :: m.d
  unfold addL
  rw [if_neg h]
 | m :: m2 :: b, x, h => by
  have e : addL x m.d = x ++ 43 :: m.d := if_neg h
  rw [List.foldl_cons, e, fold_add (m2 :: b) _ (by simp)]
  simp [joinL]
theorem fold_dual (m : Mean) (b : List Mean) (h : m.d ≠ []) : (m :: b).foldl (fun x m => addL x m.d) [] = dualB (m :: b) := by
 rw [List.foldl_cons, show addL [] m.d = m.d from if_pos rfl, fold_add b m.d h]
 rfl
theorem gram_len : (∀ q m, GP q m → m.d.length + 3 ≤ 4 * q.length) ∧ (∀ p b, GB p b → b ≠ [] ∧ sumD b + 2 ≤ 4 * p.length ∧ b.length ≤ p.length) ∧ (∀ p c, GC p c → sumE c + 1 ≤ 4 * p.length ∧ c.length ≤ p.length) := by
 refine gram_all ?_ ?_ ?_ ?_ ?_ ?_
 ·
  intro b hb
  show [b].length + 3 ≤ 4 * [b].length
  simp
 ·
  intro p c _ h
  have := dualC_len c
  show (dualC c).length + 3 ≤ _
  simp only [List.length_cons, List.length_append, List.length_nil]
  omega
 ·
  intro q m _ h
  refine ⟨by simp, ?_, ?_⟩
  ·
   simp only [sumD, List.map_cons, List.map_nil, List.sum_cons, List.sum_nil]; omega
  ·
   simp only [List.length_singleton]; omega
 ·
  intro q p m b _ _ h1 h2
  refine ⟨by simp, ?_, ?_⟩
  ·
   simp only [sumD, List.map_cons, List.sum_cons, List.length_append] at h2 ⊢; omega
  ·
   simp only [List.length_cons, List.length_append]; omega
 ·
  intro p b _ h
  have := dualB_len b h.1
  refine ⟨?_, ?_⟩
  ·
   simp only [sumE, List.map_cons, List.map_nil, List.sum_cons, List.sum_nil]; omega
  ·
   have h1 := h.2.1
   simp only [List.length_singleton]
   omega
 ·
  intro p r b c _ _ h1 h2
  have := dualB_len b h1.1
  refine ⟨?_, ?_⟩
  ·
   simp only [sumE, List.map_cons, List.sum_cons, List.length_append, List.length_cons] at h2 ⊢; omega
  ·
   simp only [List.length_cons, List.length_append]; omega
theorem set_last (B : List ByteArray) (a y : ByteArray) : (B ++ [a]).set B.length y = B ++ [y] := by
 rw [List.set_append_right _ _ (Nat.le_refl _)]
 simp
theorem rd_last (B : List ByteArray) (a : ByteArray) : rdOf ByteArray.empty (B ++ [a]) (B.length : Int) = a := by
 simp [rdOf]
abbrev TL := dropperref09_turned.l0
def PartT (q : List UInt8) (m : Mean) : Prop := ∃ K, ∀ k, K ≤ k → ∀ (s : List UInt8) (i : Nat) (r : List UInt8) (B : List ByteArray) (x : List UInt8), s.drop i = q ++ r → s.length < 1000000 → B.length < 1000000 → x.length < 100000000 →
  TL (k + 1) (tx s) (B ++ [tx x]) i = TL k (tx s) (B ++ [tx (addL x m.d)]) ((i + q.length : Nat) : Int)
def BranchT (p : List UInt8) (b : List Mean) : Prop := ∃ K, ∀ k, K ≤ k → ∀ (s : List UInt8) (i : Nat) (r : List UInt8) (B : List ByteArray) (x : List UInt8), s.drop i = p ++ r → s.length < 1000000 → B.length < 1000000 → x.length + sumD b < 50000000 →
  TL (k + b.length) (tx s) (B ++ [tx x]) i = TL k (tx s) (B ++ [tx (b.foldl (fun x m => addL x m.d) x)]) ((i + p.length : Nat) : Int)
def CircT (p : List UInt8) (c : List (List Mean)) : Prop := ∃ K n, ∀ k, K ≤ k → ∀ (s : List UInt8) (i : Nat) (r : List UInt8) (B : List ByteArray), s.drop i = p ++ r → s.length < 1000000 → B.length + c.length < 1000000 →
  TL (k + n) (tx s) (B ++ [tx []]) i = TL k (tx s) (B ++ c.map (fun b => tx (dualB b))) ((i + p.length : Nat) : Int)
theorem l1_all : ∀ (c : List (List Mean)) (D : List ByteArray) (out : List UInt8), (∀ b ∈ c, Bal (dualB b)) → D.length + c.length < 1000000 → out.length + sumE c < 50000000 → ∃ K, ∀ k, K ≤ k → dropperref09_turned.l1 k (D ++ c.map (fun b => tx (dualB b))) (tx out) (D.length : Int) = some (tx (out ++ c.flatMap (fun b => wrapL (dualB b))))
 | [], D, out, _, _, _ => ⟨1, fun k hk => by
   obtain ⟨k, rfl⟩ : ∃ k', k = k' + 1 := ⟨k - 1, by omega⟩
   rw [dropperref09_turned.l1, if_neg (by simp)]
   simp⟩
 | b :: c, D, out, hb, hl, ho => by
  have hbb := hb b (by simp)
  have hse : sumE (b :: c) = ((dualB b).length + 2) + sumE c := by simp [sumE]
  rw [hse] at ho
  have hwl := wrap_len (dualB b)
  obtain ⟨K, hK⟩ := l1_all c (D ++ [tx (dualB b)]) (out ++ wrapL (dualB b)) (fun x hx => hb x (by simp [hx])) (by simp at hl ⊢; omega) (by simp; omega)
  refine ⟨K + 2 * (dualB b).length + 6, fun k hk => ?_⟩
  obtain ⟨k, rfl⟩ : ∃ k', k = k' + 1 := ⟨k - 1, by omega⟩
  have h9 := hK k (by omega)
  have hs := sums_f hbb k (by omega) (by omega)
  have er : rdOf ByteArray.empty (D ++ List.map (fun b => tx (dualB b)) (b :: c)) (D.length : Int) = tx (dualB b) := by simp [rdOf]
  have hlen : (D.length : Int) < ((D ++ List.map (fun b => tx (dualB b)) (b :: c)).length : Int) := by simp; omega
  have ex : D ++ List.map (fun b => tx (dualB b)) (b :: c) = (D ++ [tx (dualB b)]) ++ List.map (fun b => tx (dualB b)) c := by simp
  have hd : (D ++ [tx (dualB b)]).length = D.length + 1 := by simp
  rw [hd] at h9
  have s1 := tx_size (dualB b)
  have s2 := tx_size out
  have e40 : (⟨#[40]⟩ : ByteArray) = tx [40] := rfl
  have e41 : (⟨#[41]⟩ : ByteArray) = tx [41] := rfl
  have hfl : out ++ (b :: c).flatMap (fun b => wrapL (dualB b)) = (out ++ wrapL (dualB b)) ++ c.flatMap (fun b => wrapL (dualB b)) := by simp
  rw [dropperref09_turned.l1, if_pos hlen, if_pos (by omega), er, hs, Option.bind_some, wrap_nat D.length (by simp at hl; omega), hfl]
  cases hw : wideL (dualB b) 0 with
  | true =>
   have ew : wrapL (dualB b) = 40 :: (dualB b) ++ [41] := by unfold wrapL; rw [hw]; rfl
   have et : tx [40] ++ tx (dualB b) ++ tx [41] = tx (wrapL (dualB b)) := by rw [tx_app, tx_app, ew]; rfl
   have es : (tx [40] ++ tx (dualB b)).size = (dualB b).length + 1 := by rw [tx_app, tx_size]; simp
   have es2 := tx_size (wrapL (dualB b))
   rw [if_pos rfl, if_pos (by omega), e40, if_pos (by rw [es]; omega), e41, et, if_pos (by rw [es2, s2]; omega), tx_app, ex]
   exact h9
  | false =>
   have ew : wrapL (dualB b) = dualB b := by unfold wrapL; rw [hw]; rfl
   rw [ew] at h9 ⊢
   rw [if_neg (by decide), if_pos (by omega), tx_app, ex]
   exact h9
theorem turned_whole {p : List UInt8} {c : List (List Mean)} (hg : GC p c) (hl : p.length < 1000000) (h : CircT p c) : ∃ K, ∀ k, K ≤ k → dropperref09_turned.f k (tx p) = some (tx (dualC c)) := by
 obtain ⟨K, n, hK⟩ := h
 have hgl := gram_len.2.2 p c hg
 have hne := (gram_dual.2.2 p c hg).1
 have hsz := tx_size p
 obtain ⟨K2, hK2⟩ := l1_all c [] [] (gram_bal.2.2 p c hg).2 (by simp; omega) (by simp; omega)
 refine ⟨K + n + K2 + 3, fun k hk => ?_⟩
 obtain ⟨k, rfl⟩ : ∃ k', k = ((k' + 1) + n) + 1 := ⟨k - n - 2, by omega⟩
 have h1 := hK (k + 1) (by omega) p 0 [] [] (by simp) hl (by simp; omega)
 rw [List.nil_append] at h1
 rw [dropperref09_turned.f]
 have e0 : ([(⟨#[]⟩ : ByteArray)] : List ByteArray) = [tx []] := rfl
 rw [e0]
 refine Eq.trans h1 ?_
 rw [List.nil_append, Nat.zero_add]
 show dropperref09_turned.l0 (k + 1) _ _ _ = _
 rw [dropperref09_turned.l0, if_neg (by rw [hsz]; omega)]
 match c, hne with
 | [b], _ =>
  rw [if_pos (by simp), if_pos (by simp)]
  rfl
 | b :: b2 :: c', _ =>
  rw [if_neg (by simp; omega)]
  have h2 := hK2 k (by omega)
  rw [List.nil_append, List.nil_append] at h2
  exact h2
theorem turn_all : (∀ q m, GP q m → PartT q m) ∧ (∀ p b, GB p b → BranchT p b) ∧ (∀ p c, GC p c → CircT p c) := by
 have ne : ∀ q m, GP q m → m.d ≠ [] := fun q m h => by
  obtain ⟨c, h1, _⟩ := gram_dual.1 q m h
  obtain ⟨b, t, e, _⟩ := part_ne.2.2 _ _ h1
  rw [e]
  simp
 refine gram_all ?_ ?_ ?_ ?_ ?_ ?_
 ·
  intro b hb
  refine ⟨0, fun k _ s i r B x h1 h2 h3 h4 => ?_⟩
  have hsz := tx_size s
  have hn := isL_ne hb
  obtain ⟨g1, g2, g3⟩ := drop_head h1
  have n1 := ne40 hn.1
  have n3 := ne43 hn.2.2
  have hlen : ((B ++ [tx x]).length : Int) = (B.length : Int) + 1 := by simp
  have hw := wrap_last B.length (by omega)
  have hcut : (tx s).extract i (i + 1) = tx [b] := by
   rw [tx_cut, h1]
   simp
  have hadd := added_eq x [b] (by simp; omega)
  show dropperref09_turned.l0 (k + 1) _ _ _ = dropperref09_turned.l0 k _ _ _
  rw [dropperref09_turned.l0, if_pos (by rw [hsz]; omega), if_pos (by omega), g2, if_neg n3, if_neg n1, hlen, hw, if_pos (by omega), if_pos (by omega), wrap_nat i (by omega), if_pos (by omega), if_pos (by rw [hsz]; omega), rd_last]
  simp only [Int.toNat_natCast]
  rw [hcut, hadd, Option.bind_some, set_last]
  rfl
 ·
  intro p c hg hc
  have hbal := gc_bal hg
  have hgl := gram_len.2.2 p c hg
  have hdl := dualC_len c
  by_cases hp : p.length < 1000000
  ·
   obtain ⟨K, hK⟩ := turned_whole hg hp hc
   refine ⟨K + 2 * p.length + 4, fun k hk s i r B x h1 h2 h3 h4 => ?_⟩
   have hsz := tx_size s
   have e0 : (40 :: (p ++ [41])) ++ r = 40 :: (p ++ (41 :: r)) := by simp
   rw [e0] at h1
   have hcl := closing_f hbal s i r k h1 (by omega) (by omega)
   obtain ⟨g1, g2, g3⟩ := drop40 h1
   have g4 := (drop_more g3).1
   obtain ⟨g5, g6, g7⟩ := drop41 g4
   have hlen : ((B ++ [tx x]).length : Int) = (B.length : Int) + 1 := by simp
   have hw := wrap_last B.length (by omega)
   have hcut : (tx s).extract (i + 1) (i + p.length + 1) = tx p := by
    rw [tx_cut, g3, show i + p.length + 1 - (i + 1) = p.length from by omega, List.take_left]
   have hadd := added_eq x (dualC c) (by omega)
   have hel : (40 :: (p ++ [41])).length = p.length + 2 := by simp
   show dropperref09_turned.l0 (k + 1) _ _ _ = dropperref09_turned.l0 k _ _ _
   rw [dropperref09_turned.l0, if_pos (by rw [hsz]; omega), if_pos (by omega), g2, if_neg (by decide), if_pos rfl, hcl, Option.bind_some, hlen, hw, if_pos (by omega), if_pos (by omega), wrap_nat i (by omega), if_pos (by omega), if_pos (by omega), if_pos (by rw [hsz]; omega), rd_last]
   simp only [Int.toNat_natCast]
   rw [hcut, hK k (by omega), Option.bind_some, hadd, Option.bind_some, set_last, wrap_nat _ (by omega), hel]
   rfl
  ·
   refine ⟨0, fun k _ s i r B x h1 h2 h3 h4 => ?_⟩
   exfalso
   have := congrArg List.length h1
   simp at this
   omega
 ·
  intro q m hg hq
  obtain ⟨K, hK⟩ := hq
  refine ⟨K, fun k hk s i r B x h1 h2 h3 h4 => ?_⟩
  exact hK k hk s i r B x h1 h2 h3 (by omega)
 ·
  intro q p m b hg hb hq ih
  obtain ⟨K, hK⟩ := hq
  obtain ⟨K2, hK2⟩ := ih
  refine ⟨K + K2, fun k hk s i r B x h1 h2 h3 h4 => ?_⟩
  rw [List.append_assoc] at h1
  have hsd : sumD (m :: b) = (m.d.length + 1) + sumD b := by simp [sumD]
  rw [hsd] at h4
  have hal : (addL x m.d).length ≤ x.length + m.d.length + 1 := by
   unfold addL
   split
   ·
    omega
   ·
    simp; omega
  have e := hK (k + b.length) (by omega) s i (p ++ r) B x h1 h2 h3 (by omega)
  rw [List.length_cons, show k + (b.length + 1) = (k + b.length) + 1 from rfl, e, hK2 k (by omega) s (i + q.length) r B _ (drop_more h1).1 h2 h3 (by omega), List.length_append, Nat.add_assoc]
  rfl
 ·
  intro p b hg hb
  obtain ⟨K, hK⟩ := hb
  have hgl := gram_len.2.1 p b hg
  refine ⟨K, b.length, fun k hk s i r B h1 h2 h3 => ?_⟩
  have hps : p.length ≤ s.length := by
   have := congrArg List.length h1
   simp at this
   omega
  have e := hK k hk s i r B [] h1 h2 (by omega) (by simp; omega)
  rw [e]
  cases b with
  | nil => exact absurd rfl hgl.1
  | cons m b =>
   have hmd : m.d ≠ [] := by
    cases hg with
    | one q m h => exact ne _ _ h
    | cons q p m b h _ => exact ne _ _ h
   rw [fold_dual m b hmd]
   rfl
 ·
  intro p r' b c hg hc hb ih
  obtain ⟨K, hK⟩ := hb
  obtain ⟨K2, n, hK2⟩ := ih
  have hgl := gram_len.2.1 p b hg
  refine ⟨K + K2, n + 1 + b.length, fun k hk s i r B h1 h2 h3 => ?_⟩
  have e0 : (p ++ 43 :: r') ++ r = p ++ (43 :: (r' ++ r)) := by simp
  rw [e0] at h1
  have hps : p.length ≤ s.length := by
   have := congrArg List.length h1
   simp at this
   omega
  rw [List.length_cons] at h3
  have hsz := tx_size s
  have e := hK ((k + n) + 1) (by omega) s i _ B [] h1 h2 (by omega) (by simp; omega)
  have g4 := (drop_more h1).1
  obtain ⟨g5, g6, g7⟩ := drop43 g4
  rw [show k + (n + 1 + b.length) = ((k + n) + 1) + b.length from by omega, e]
  have hfd : b.foldl (fun x m => addL x m.d) [] = dualB b := by
   cases b with
   | nil => exact absurd rfl hgl.1
   | cons m b =>
    have hmd : m.d ≠ [] := by
     cases hg with
     | one q m h => exact ne _ _ h
     | cons q p m b h _ => exact ne _ _ h
    exact fold_dual m b hmd
  rw [hfd]
  have e2 := hK2 k (by omega) s (i + p.length + 1) r (B ++ [tx (dualB b)]) g7 h2 (by simp; omega)
  show dropperref09_turned.l0 ((k + n) + 1) _ _ _ = _
  rw [dropperref09_turned.l0, if_pos (by rw [hsz]; omega), if_pos (by omega), g6, if_pos rfl, if_pos (by simp; omega), wrap_nat _ (by omega)]
  refine Eq.trans e2 ?_
  rw [show i + p.length + 1 + r'.length = i + (p ++ 43 :: r').length from by simp; omega]
  simp
theorem turned_f {s : List UInt8} {c : List (List Mean)} (h : parseC s = some c) (hs : s.length < 1000000) : ∃ K, ∀ k, K ≤ k → dropperref09_turned.f k (tx s) = some (tx (dualC c)) :=
 turned_whole (parse_of h) hs (turn_all.2.2 s c (parse_of h))
theorem rdual_f (s : List UInt8) (hs : s.length < 1000000) : ∃ K, ∀ k, K ≤ k → dropperref09_Dual.f k (tx s) = some (tx (dualR s).1, (dualR s).2) := by
 cases hc : parseC s with
 | none =>
  have hn : parseL s = none := by unfold parseL; rw [hc]; rfl
  refine ⟨0, fun k _ => ?_⟩
  unfold dropperref09_Dual.f dropperref09_Valid.f dualR
  rw [hc, show (tx s).data.toList = s from rfl, hn]
  rfl
 | some c =>
  have hn : parseL s = some (meanC c) := by unfold parseL; rw [hc]; rfl
  obtain ⟨K, hK⟩ := turned_f hc hs
  refine ⟨K, fun k hk => ?_⟩
  have hsz := tx_size (dualC c)
  unfold dropperref09_Dual.f dropperref09_Valid.f dualR
  rw [hc, show (tx s).data.toList = s from rfl, hn, Option.bind_some]
  show (if true = true then _ else _) = _
  rw [if_pos rfl, hK k hk, Option.bind_some]
  by_cases h : 40 < (dualC c).length
  ·
   rw [if_pos (by rw [hsz]; omega)]
   simp only [if_pos h]
   rfl
  ·
   rw [if_neg (by rw [hsz]; omega)]
   simp only [if_neg h]
end Go.Proofs.Yteikgnaikeleaaa

/- The plain circuit, and the text of the dual: program and reference answer the same. -/
namespace Go.Proofs.Yteikgnaikeleaaa.Pure
set_option linter.unusedVariables false
open Go.RowKit Go.Proofs.Yteikgnaikeleaaa.XLoop Go.Proofs.YteikgnaikeleaaaW.PrintWords Go.Proofs.YteikgnaikeleaaaW.PrintLast Go.Proofs.YteikgnaikeleaaaW.PrintMore

theorem LoopPlains : dropperlaw09_LoopPlains.Pure := by
 intro a _
 rcases long_ev a ⟨#[]⟩ with hl | ⟨hl, h1, h2⟩
 ·
  refine ⟨300, ?_⟩
  have hF : dropperlaw09_First.f 300 = some true := first_evk 297
  unfold dropperlaw09_LoopPlains.f
  rw [hl, Option.bind_some, if_pos rfl, hF]; rfl
 ·
  have za : a.data.toList.length = a.size := by rw [← tx_size, tx_data]
  obtain ⟨K, hK⟩ := rdual_f a.data.toList (by omega)
  refine ⟨K + 3, ?_⟩
  have hF : dropperlaw09_First.f (K + 3) = some true := first_evk K
  have hD := hK (K + 3) (by omega)
  rw [tx_data] at hD
  unfold dropperlaw09_LoopPlains.f
  rw [hl, Option.bind_some, if_neg (by decide), hF, hD]
  unfold loop_Plain.f loop_Dual.f dropperref09_Plain.f
  simp only [Option.bind_some, beq_self_eq_true, if_true]
end Go.Proofs.Yteikgnaikeleaaa.Pure

-- Written by wip/xprint.py of this repo, over the kit's print.py: out of the translation; the oracles in it are by hand. Not trusted: Lean checks it.
namespace Go.Proofs.Yteikgnaikeleaaa.loopPlains
open Go.ChangeShapes Go.WideShapes Go.ChangeAt Go.RowKit Go.Proofs.Yteikgnaikeleaaa.Open Go.Proofs.Yteikgnaikeleaaa.XLoop Go.Proofs.YteikgnaikeleaaaW.PrintWords Go.Proofs.YteikgnaikeleaaaW.PrintLast Go.Proofs.YteikgnaikeleaaaW.PrintMore
open Go.ChangeMaps (open_string shut_string)
set_option linter.unusedVariables false
set_option linter.unusedSimpArgs false
theorem own : ownKnob Try.prog.godebug = none := by kernel_rfl
theorem laidOut : laidOutB Try.prog = true := by kernel_rfl
set_option maxRecDepth 100000 in
theorem lifted (os : Os) (started : os.Started) (H : Type) (enc : TypeId × Value → H) :
  ReturnsInHanded {} Try.checked os 6 .any (Rows.loopPlainsSpec.pre6 enc Try.prog Try.f6 Rows.loopPlainsRow.domain false) (Rows.loopPlainsSpec.post enc Try.prog Try.f6 false true false false) := by
 refine returnsInHanded_of_change_sized (C := Try.checked) own started (by kernel_rfl) Try.func6
  (ChangeSpec.witness6 (enc := enc) (C := Try.checked) false ⟨#[], #[.string ByteArray.empty], []⟩ 8 (by kernel_rfl) (by kernel_rfl) (by kernel_rfl) (by kernel_rfl)) ?_
 intro W base args ds gs before hval0 hW hcnd hsz0 _
 have hval : ∀ (j : Nat) t v, Try.f6.params[j]? = some t → args[j]? = some v → Value.okWide Try.prog W .any base t v := hval0
 have hW' := hW
 obtain ⟨p, q, hA0, hV, rfl, hfz, hnd⟩ := hW
 have hA : DataW.TrodAll enc Try.prog W 0 (fun _ => true) true Try.f6.params.toList args.toList ds p := hA0
 rw [Try.params6] at hA hval
 obtain ⟨v0, vs0, d0, ds0, p0, q0, hargs, rfl, rfl, h0, r0⟩ := trodAll_cons hA
 obtain ⟨rfl, rfl, rfl⟩ := trodAll_nil r0
 obtain rfl : args = #[v0] := by cases args; simp_all
 obtain ⟨rfl, rfl⟩ := trodVars_none hV
 obtain ⟨a0, rfl, rfl, rfl, y0⟩ := open_string Try.underlying9 (hval 0 9 v0 rfl rfl) h0
 clear hA0 hval0 hsz0
 obtain ⟨k, h⟩ := Pure.LoopPlains a0 y0
 refine (dropperlaw09_LoopPlains.calls k a0 true W  h).mono fun e W' ⟨he, bel0⟩ => ?_
 have bel : Below W.heap.size W W' := bel0
 subst he
 exact ⟨_, rfl, _, _, _, [], _, [], hW', trodAll_mk1 (shut_bool Try.underlying4 _), (trodAll_cons_mk (shut_string Try.underlying9 y0) trodAll_mk0), rfl, bel.frame _, fun h => by cases h⟩
theorem over : Rows.loopPlainsRow.holds Try.pinned (OpenSpec.ofChange Rows.loopPlainsSpec) :=
 OpenClaim.holds_of_wide 6 Try.f6 rfl rfl rfl rfl rfl rfl rfl ⟨rfl, rfl, rfl, rfl, rfl⟩ rfl rfl rfl rfl rfl (by kernel_rfl) Try.func6 (by kernel_rfl)
  (of_decide_eq_true (by kernel_rfl)) (by unfold Func.isWrapper; first | (rw [if_pos (by decide +kernel)]; kernel_rfl) | (rw [if_neg (by decide +kernel)]; exact ⟨rfl, rfl⟩))
  (fun os started H enc _ => lifted os started H enc)
theorem proved : Rows.LoopPlainsSaid := over
#print axioms proved
end Go.Proofs.Yteikgnaikeleaaa.loopPlains
namespace Go.Proofs.Yteikgnaikeleaaa
theorem loopPlains_holds : Rows.LoopPlainsSaid := loopPlains.proved
end Go.Proofs.Yteikgnaikeleaaa
