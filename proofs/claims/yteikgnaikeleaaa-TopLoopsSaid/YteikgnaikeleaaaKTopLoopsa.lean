-- Written by wip/pack.py of this repo: texts of this claim, put together.
import Derived.Test.YteikgnaikeleaaaRows
import Derived.WalkKit
import Derived.ProofKit
import Derived.OpenShut
import Derived.ShutString
import Derived.ChangeOld
import Derived.Below
import Derived.SizedLaws
import Derived.Test.YteikgnaikeleaaaKLoope
namespace Go.Proofs.Yteikgnaikeleaaa.XLoop
open Go.RowKit Go.Proofs.YteikgnaikeleaaaW.PrintWords Go.Proofs.YteikgnaikeleaaaW.PrintLast Go.Proofs.YteikgnaikeleaaaW.PrintMore
attribute [local go_sem] max2_int min2_int max_two min_two max_three min_three max_four min_four   -- for this text's walks alone
set_option linter.unusedVariables false
set_option linter.unusedSimpArgs false
/-! ### loop_Differ: function 30 -/
def loop_Differ.f (a0 : ByteArray) (a1 : ByteArray) : Option (ByteArray × Int) := some (tx (differR a0.data.toList a1.data.toList).1, (differR a0.data.toList a1.data.toList).2)
theorem loop_Differ.calls (a0 : ByteArray) (a1 : ByteArray) (r1 : ByteArray) (r2 : Int) (w : World) (h : loop_Differ.f a0 a1 = some (r1, r2)) :
  Calls Try.prog 30 #[.string a0, .string a1] w fun e w' => e = .returned (.tuple #[.string r1, .int .i64 r2]) ∧ Below w.heap.size w w' := by
 obtain ⟨rfl, rfl⟩ := Prod.mk.inj (Option.some.inj h)
 have hc := differ_calls a0.data.toList a1.data.toList w
 simp only [tx_data] at hc
 exact hc

/-! ### loop_Within: function 31 -/
def loop_Within.f (a0 : ByteArray) (a1 : ByteArray) : Option (Bool × Int) := some ((withinR a0.data.toList a1.data.toList).1, (withinR a0.data.toList a1.data.toList).2)
theorem loop_Within.calls (a0 : ByteArray) (a1 : ByteArray) (r1 : Bool) (r2 : Int) (w : World) (h : loop_Within.f a0 a1 = some (r1, r2)) :
  Calls Try.prog 31 #[.string a0, .string a1] w fun e w' => e = .returned (.tuple #[.bool r1, .int .i64 r2]) ∧ Below w.heap.size w w' := by
 obtain ⟨rfl, rfl⟩ := Prod.mk.inj (Option.some.inj h)
 have hc := within_calls a0.data.toList a1.data.toList w
 simp only [tx_data] at hc
 exact hc

/-! ### loop_IsPath: function 23 -/
def loop_IsPath.f (a0 : ByteArray) (a1 : ByteArray) : Option (Bool × Int) := some ((condR a0.data.toList a1.data.toList).1, (condR a0.data.toList a1.data.toList).2)
theorem loop_IsPath.calls (a0 : ByteArray) (a1 : ByteArray) (r1 : Bool) (r2 : Int) (w : World) (h : loop_IsPath.f a0 a1 = some (r1, r2)) :
  Calls Try.prog 23 #[.string a0, .string a1] w fun e w' => e = .returned (.tuple #[.bool r1, .int .i64 r2]) ∧ Below w.heap.size w w' := by
 obtain ⟨rfl, rfl⟩ := Prod.mk.inj (Option.some.inj h)
 have hc := ispath_calls a0.data.toList a1.data.toList w
 simp only [tx_data] at hc
 exact hc

/-! ### loop_IsCut: function 24 -/
def loop_IsCut.f (a0 : ByteArray) (a1 : ByteArray) : Option (Bool × Int) := some ((cutR a0.data.toList a1.data.toList).1, (cutR a0.data.toList a1.data.toList).2)
theorem loop_IsCut.calls (a0 : ByteArray) (a1 : ByteArray) (r1 : Bool) (r2 : Int) (w : World) (h : loop_IsCut.f a0 a1 = some (r1, r2)) :
  Calls Try.prog 24 #[.string a0, .string a1] w fun e w' => e = .returned (.tuple #[.bool r1, .int .i64 r2]) ∧ Below w.heap.size w w' := by
 obtain ⟨rfl, rfl⟩ := Prod.mk.inj (Option.some.inj h)
 have hc := iscut_calls a0.data.toList a1.data.toList w
 simp only [tx_data] at hc
 exact hc

/-! ### droppertop_in: function 67 -/
def droppertop_in.l0 : Nat → ByteArray → Int → Int → Option (Bool)
 | 0, _, _, _ => none
 | k + 1, x0, x1, x5 => if x5 < (x0.size : Int) then (if 0 ≤ x5 then (if (bt x0 x5) = x1 then (some true) else (droppertop_in.l0 k x0 x1 (wrap64 (x5 + 1)))) else (none)) else (some false)
def droppertop_in.f (k : Nat) (a0 : ByteArray) (a1 : Int) : Option (Bool) := droppertop_in.l0 k a0 a1 0
set_option maxHeartbeats 8000000 in
set_option maxRecDepth 100000 in
theorem droppertop_in.calls (k : Nat) (a0 : ByteArray) (a1 : Int) (r : Bool) (w : World) (h : droppertop_in.f k a0 a1 = some r) :
  Calls Try.prog 67 #[.string a0, .int .u8 a1] w fun e w' => e = .returned (.bool r) ∧ Drawn0 w w' := by
 have H : (droppertop_in.l0 k a0 a1 0) = some r := h
 clear h
 have H' := Aside0.mk H
 clear H
 go_enter Try.func67, Try.ntmps67
 go_wp2
 go_loopg [5] k (fun kq v5 w' => ∃ (x5_1 : Int), v5 = .int .i64 x5_1 ∧ Aside0 (droppertop_in.l0 kq a0 a1 x5_1 = some r) ∧ Aside0 (kq ≤ k) ∧ Drawn0 w w')
 case atStart => exact ⟨(0), rsz, H', ⟨Nat.le_refl _⟩, drz⟩
 case round =>
  clear H'
  try clear p2
  obtain ⟨x5_1, rfl, HA, HK1, ⟨m1, rfl⟩⟩ := hrel
  cases gk with
  | zero => exact absurd HA.out (by simp [droppertop_in.l0])
  | succ k1 =>
   have H := HA.out
   clear HA
   simp only [droppertop_in.l0] at H
   by_cases c3 : x5_1 < (a0.size : Int)
   ·
    rw [if_pos c3] at H
    have c3b0 : decide (x5_1 < (a0.size : Int)) = true := decide_eq_true c3
    clear c3
    by_cases c4 : 0 ≤ x5_1
    ·
     rw [if_pos c4] at H
     have c4b0 : decide (0 ≤ x5_1) = true := decide_eq_true c4
     clear c4
     by_cases c6 : (bt a0 x5_1) = a1
     ·
      rw [if_pos c6] at H
      have c6b0 : ((bt a0 x5_1) == a1) = true := beq_iff_eq.mpr c6
      have c6b1 : ((bt a0 x5_1) != a1) = false := bne_eq_false_iff_eq.mpr c6
      clear c6
      obtain rfl := Option.some.inj H
      have p5 : 0 ≤ (x5_1 : Int) := of_decide_eq_true asz
      have q5 : x5_1 < (a0.size : Int) := of_decide_eq_true asz
      have hx5 := bt_at a0 x5_1
      replace p5 := eq_true p5
      replace q5 := eq_true q5
      go_wp2
      go_ret
      exact ⟨by first | rfl | (simp; done) | (simp [*]; done), drz⟩
     ·
      rw [if_neg c6] at H
      have c6b0 : ((bt a0 x5_1) == a1) = false := beq_eq_false_iff_ne.mpr c6
      have c6b1 : ((bt a0 x5_1) != a1) = true := bne_iff_ne.mpr c6
      have H' := Aside0.mk H
      clear H
      have p5 : 0 ≤ (x5_1 : Int) := of_decide_eq_true asz
      have q5 : x5_1 < (a0.size : Int) := of_decide_eq_true asz
      have hx5 := bt_at a0 x5_1
      replace p5 := eq_true p5
      replace q5 := eq_true q5
      go_wp2
      go_roundg k1
      case measure => have := HK1.out; omega
      case rel => exact ⟨(wrap64 (x5_1 + 1)), rsz, H', ⟨by have := HK1.out; omega⟩, drz⟩
    ·
     rw [if_neg c4] at H
     exact absurd H (by simp)
   ·
    rw [if_neg c3] at H
    have c3b0 : decide (x5_1 < (a0.size : Int)) = false := decide_eq_false c3
    clear c3
    obtain rfl := Option.some.inj H
    go_wp2
    go_ret
    exact ⟨by first | rfl | (simp; done) | (simp [*]; done), drz⟩

/-! ### droppertop_part: function 26 -/
mutual
def droppertop_part.l0 : Nat → List ByteArray → ByteArray → Int → Option (Bool)
 | 0, _, _, _ => none
 | k + 1, x0, x1, x5 => if x5 < (x0.length : Int) then (droppertop_part.l1 k x0 x1 x5 true 0) else (some false)
def droppertop_part.l1 : Nat → List ByteArray → ByteArray → Int → Bool → Int → Option (Bool)
 | 0, _, _, _, _, _ => none
 | k + 1, x0, x1, x5, x6, x7 => if 0 ≤ x5 then (if x5 < (x0.length : Int) then (if x7 < ((rdOf ByteArray.empty x0 x5).size : Int) then (if x6 = true then (if 0 ≤ x7 then ((droppertop_in.f k x1 (bt (rdOf ByteArray.empty x0 x5) x7)).bind fun t297 => (droppertop_part.l1 k x0 x1 x5 t297 (wrap64 (x7 + 1)))) else (none)) else (droppertop_part.l1 k x0 x1 x5 false (wrap64 (x7 + 1)))) else (if x6 = true then (some true) else (droppertop_part.l0 k x0 x1 (wrap64 (x5 + 1))))) else (none)) else (none)
end
def droppertop_part.f (k : Nat) (l0 : List ByteArray) (a1 : ByteArray) : Option (Bool) := droppertop_part.l0 k l0 a1 0
set_option maxHeartbeats 8000000 in
set_option maxRecDepth 100000 in
theorem droppertop_part.calls (k : Nat) (A0 : Option Addr) (c0 : Nat) (l0 : List ByteArray) (a1 : ByteArray) (r : Bool) (w : World) (hr0 : Kd.C Kd.string w A0 l0.length l0) (hc0 : l0.length ≤ c0) (h : droppertop_part.f k l0 a1 = some r) :
  Calls Try.prog 26 #[.slice A0 l0.length c0, .string a1] w fun e w' => e = .returned (.bool r) ∧ Drawn0 w w' := by
 have HR0 := Aside0.mk hr0
 have HC0 := Aside0.mk hc0
 clear hr0 hc0
 have H : (droppertop_part.l0 k l0 a1 0) = some r := h
 clear h
 have H' := Aside0.mk H
 clear H
 go_enter Try.func26, Try.ntmps26
 go_wp2
 go_loopg [5] k (fun kq v5 w' => ∃ (x5_1 : Int), v5 = .int .i64 x5_1 ∧ Aside0 (droppertop_part.l0 kq l0 a1 x5_1 = some r) ∧ Aside0 (kq ≤ k) ∧ Drawn0 w w')
 case atStart => exact ⟨(0), rsz, H', ⟨Nat.le_refl _⟩, drz⟩
 case round =>
  clear H'
  (try clear c2); (try clear p2)
  obtain ⟨x5_1, rfl, HA, HK1, ⟨m1, rfl⟩⟩ := hrel
  cases gk with
  | zero => exact absurd HA.out (by simp [droppertop_part.l0])
  | succ k1 =>
   have H := HA.out
   clear HA
   simp only [droppertop_part.l0] at H
   by_cases c3 : x5_1 < (l0.length : Int)
   ·
    rw [if_pos c3] at H
    have c3b0 : decide (x5_1 < (l0.length : Int)) = true := decide_eq_true c3
    clear c3
    have H' := Aside0.mk H
    clear H
    go_wp2
    go_loopg [6, 7] k1 (fun kq v6 v7 w' => ∃ (x6_2 : Bool) (x7_2 : Int), v6 = .bool x6_2 ∧ v7 = .int .i64 x7_2 ∧ Aside0 (droppertop_part.l1 kq l0 a1 x5_1 x6_2 x7_2 = some r) ∧ Aside0 (kq ≤ k1) ∧ Drawn0 w w')
    case atStart => exact ⟨(true), (0), rsz, rsz, H', ⟨Nat.le_refl _⟩, drz⟩
    case round =>
     clear H'
     (try clear c2); (try clear p2); (try clear c3); (try clear c3b0); (try clear p2)
     obtain ⟨x6_2, x7_2, rfl, rfl, HA, HK2, ⟨m2, rfl⟩⟩ := hrel
     cases gk with
     | zero => exact absurd HA.out (by simp [droppertop_part.l1])
     | succ k2 =>
      have H := HA.out
      clear HA
      simp only [droppertop_part.l1] at H
      by_cases c4 : 0 ≤ x5_1
      ·
       rw [if_pos c4] at H
       have c4b0 : decide (0 ≤ x5_1) = true := decide_eq_true c4
       clear c4
       by_cases c5 : x5_1 < (l0.length : Int)
       ·
        rw [if_pos c5] at H
        have c5b0 : decide (x5_1 < (l0.length : Int)) = true := decide_eq_true c5
        clear c5
        by_cases c6 : x7_2 < ((rdOf ByteArray.empty l0 x5_1).size : Int)
        ·
         rw [if_pos c6] at H
         have c6b0 : decide (x7_2 < ((rdOf ByteArray.empty l0 x5_1).size : Int)) = true := decide_eq_true c6
         clear c6
         by_cases c7 : x6_2 = true
         ·
          subst c7
          rw [if_pos rfl] at H
          by_cases c8 : 0 ≤ x7_2
          ·
           rw [if_pos c8] at H
           have c8b0 : decide (0 ≤ x7_2) = true := decide_eq_true c8
           clear c8
           replace H := Option.bind_eq_some_iff.mp H
           obtain ⟨t297, A100, H⟩ := H
           try dsimp only at H
           have A10 := Aside0.mk A100
           clear A100
           have H' := Aside0.mk H
           clear H
           have p295 : 0 ≤ (x5_1 : Int) := of_decide_eq_true asz
           have q295 : x5_1 < (l0.length : Int) := of_decide_eq_true asz
           obtain ⟨ad295, e295, hx295_0⟩ := Kd.at_string HR0.out x5_1 p295 q295
           cases e295
           replace p295 := eq_true p295
           replace q295 := eq_true q295
           have p296 : 0 ≤ (x5_1 : Int) := of_decide_eq_true asz
           have q296 : x5_1 < (l0.length : Int) := of_decide_eq_true asz
           obtain ⟨ad296, e296, hx296_0⟩ := Kd.at_string HR0.out x5_1 p296 q296
           obtain rfl : ad295 = ad296 := (by injection e296)
           replace p296 := eq_true p296
           replace q296 := eq_true q296
           have p9 : 0 ≤ (x7_2 : Int) := of_decide_eq_true asz
           have q9 : x7_2 < ((rdOf ByteArray.empty l0 x5_1).size : Int) := of_decide_eq_true asz
           have hx9 := bt_at (rdOf ByteArray.empty l0 x5_1) x7_2
           replace p9 := eq_true p9
           replace q9 := eq_true q9
           go_wp2_with (first | (go_at_call 67; (with_reducible refine (droppertop_in.calls k2 a1 (bt (rdOf ByteArray.empty l0 x5_1) x7_2) t297 _ A10.out).mono ?_); rintro e w' ⟨rfl, ⟨nd, rfl⟩⟩))
           go_roundg k2
           case measure => have := HK1.out; have := HK2.out; omega
           case rel => exact ⟨(t297), (wrap64 (x7_2 + 1)), rsz, rsz, H', ⟨by have := HK1.out; have := HK2.out; omega⟩, drz⟩
          ·
           rw [if_neg c8] at H
           exact absurd H (by simp)
         ·
          replace c7 := Bool.eq_false_iff.mpr c7
          subst c7
          rw [if_neg (show ¬ (false = true) by decide)] at H
          have H' := Aside0.mk H
          clear H
          have p295 : 0 ≤ (x5_1 : Int) := of_decide_eq_true asz
          have q295 : x5_1 < (l0.length : Int) := of_decide_eq_true asz
          obtain ⟨ad295, e295, hx295_0⟩ := Kd.at_string HR0.out x5_1 p295 q295
          cases e295
          replace p295 := eq_true p295
          replace q295 := eq_true q295
          go_wp2
          go_roundg k2
          case measure => have := HK1.out; have := HK2.out; omega
          case rel => exact ⟨(false), (wrap64 (x7_2 + 1)), rsz, rsz, H', ⟨by have := HK1.out; have := HK2.out; omega⟩, drz⟩
        ·
         rw [if_neg c6] at H
         have c6b0 : decide (x7_2 < ((rdOf ByteArray.empty l0 x5_1).size : Int)) = false := decide_eq_false c6
         clear c6
         by_cases c11 : x6_2 = true
         ·
          subst c11
          rw [if_pos rfl] at H
          obtain rfl := Option.some.inj H
          have p295 : 0 ≤ (x5_1 : Int) := of_decide_eq_true asz
          have q295 : x5_1 < (l0.length : Int) := of_decide_eq_true asz
          obtain ⟨ad295, e295, hx295_0⟩ := Kd.at_string HR0.out x5_1 p295 q295
          cases e295
          replace p295 := eq_true p295
          replace q295 := eq_true q295
          go_wp2
          go_ret
          exact ⟨by first | rfl | (simp; done) | (simp [*]; done), drz⟩
         ·
          replace c11 := Bool.eq_false_iff.mpr c11
          subst c11
          rw [if_neg (show ¬ (false = true) by decide)] at H
          have H' := Aside0.mk H
          clear H
          have p295 : 0 ≤ (x5_1 : Int) := of_decide_eq_true asz
          have q295 : x5_1 < (l0.length : Int) := of_decide_eq_true asz
          obtain ⟨ad295, e295, hx295_0⟩ := Kd.at_string HR0.out x5_1 p295 q295
          cases e295
          replace p295 := eq_true p295
          replace q295 := eq_true q295
          go_wp2
          go_roundg k2
          case measure => have := HK1.out; have := HK2.out; omega
          case rel => exact ⟨(wrap64 (x5_1 + 1)), rsz, H', ⟨by have := HK1.out; have := HK2.out; omega⟩, drz⟩
       ·
        rw [if_neg c5] at H
        exact absurd H (by simp)
      ·
       rw [if_neg c4] at H
       exact absurd H (by simp)
   ·
    rw [if_neg c3] at H
    have c3b0 : decide (x5_1 < (l0.length : Int)) = false := decide_eq_false c3
    clear c3
    obtain rfl := Option.some.inj H
    go_wp2
    go_ret
    exact ⟨by first | rfl | (simp; done) | (simp [*]; done), drz⟩

/-! ### droppertop_meets: function 27 -/
mutual
def droppertop_meets.l0 : Nat → List ByteArray → ByteArray → Int → Option (Bool)
 | 0, _, _, _ => none
 | k + 1, x0, x1, x5 => if x5 < (x0.length : Int) then (droppertop_meets.l1 k x0 x1 x5 false 0) else (some true)
def droppertop_meets.l1 : Nat → List ByteArray → ByteArray → Int → Bool → Int → Option (Bool)
 | 0, _, _, _, _, _ => none
 | k + 1, x0, x1, x5, x6, x7 => if 0 ≤ x5 then (if x5 < (x0.length : Int) then (if x7 < ((rdOf ByteArray.empty x0 x5).size : Int) then (if x6 = true then (droppertop_meets.l1 k x0 x1 x5 true (wrap64 (x7 + 1))) else (if 0 ≤ x7 then ((droppertop_in.f k x1 (bt (rdOf ByteArray.empty x0 x5) x7)).bind fun t300 => (droppertop_meets.l1 k x0 x1 x5 t300 (wrap64 (x7 + 1)))) else (none))) else (if x6 = true then (droppertop_meets.l0 k x0 x1 (wrap64 (x5 + 1))) else (some false))) else (none)) else (none)
end
def droppertop_meets.f (k : Nat) (l0 : List ByteArray) (a1 : ByteArray) : Option (Bool) := droppertop_meets.l0 k l0 a1 0
set_option maxHeartbeats 8000000 in
set_option maxRecDepth 100000 in
theorem droppertop_meets.calls (k : Nat) (A0 : Option Addr) (c0 : Nat) (l0 : List ByteArray) (a1 : ByteArray) (r : Bool) (w : World) (hr0 : Kd.C Kd.string w A0 l0.length l0) (hc0 : l0.length ≤ c0) (h : droppertop_meets.f k l0 a1 = some r) :
  Calls Try.prog 27 #[.slice A0 l0.length c0, .string a1] w fun e w' => e = .returned (.bool r) ∧ Drawn0 w w' := by
 have HR0 := Aside0.mk hr0
 have HC0 := Aside0.mk hc0
 clear hr0 hc0
 have H : (droppertop_meets.l0 k l0 a1 0) = some r := h
 clear h
 have H' := Aside0.mk H
 clear H
 go_enter Try.func27, Try.ntmps27
 go_wp2
 go_loopg [5] k (fun kq v5 w' => ∃ (x5_1 : Int), v5 = .int .i64 x5_1 ∧ Aside0 (droppertop_meets.l0 kq l0 a1 x5_1 = some r) ∧ Aside0 (kq ≤ k) ∧ Drawn0 w w')
 case atStart => exact ⟨(0), rsz, H', ⟨Nat.le_refl _⟩, drz⟩
 case round =>
  clear H'
  (try clear c2); (try clear p2)
  obtain ⟨x5_1, rfl, HA, HK1, ⟨m1, rfl⟩⟩ := hrel
  cases gk with
  | zero => exact absurd HA.out (by simp [droppertop_meets.l0])
  | succ k1 =>
   have H := HA.out
   clear HA
   simp only [droppertop_meets.l0] at H
   by_cases c3 : x5_1 < (l0.length : Int)
   ·
    rw [if_pos c3] at H
    have c3b0 : decide (x5_1 < (l0.length : Int)) = true := decide_eq_true c3
    clear c3
    have H' := Aside0.mk H
    clear H
    go_wp2
    go_loopg [6, 7] k1 (fun kq v6 v7 w' => ∃ (x6_2 : Bool) (x7_2 : Int), v6 = .bool x6_2 ∧ v7 = .int .i64 x7_2 ∧ Aside0 (droppertop_meets.l1 kq l0 a1 x5_1 x6_2 x7_2 = some r) ∧ Aside0 (kq ≤ k1) ∧ Drawn0 w w')
    case atStart => exact ⟨(false), (0), rsz, rsz, H', ⟨Nat.le_refl _⟩, drz⟩
    case round =>
     clear H'
     (try clear c2); (try clear p2); (try clear c3); (try clear c3b0); (try clear p2)
     obtain ⟨x6_2, x7_2, rfl, rfl, HA, HK2, ⟨m2, rfl⟩⟩ := hrel
     cases gk with
     | zero => exact absurd HA.out (by simp [droppertop_meets.l1])
     | succ k2 =>
      have H := HA.out
      clear HA
      simp only [droppertop_meets.l1] at H
      by_cases c4 : 0 ≤ x5_1
      ·
       rw [if_pos c4] at H
       have c4b0 : decide (0 ≤ x5_1) = true := decide_eq_true c4
       clear c4
       by_cases c5 : x5_1 < (l0.length : Int)
       ·
        rw [if_pos c5] at H
        have c5b0 : decide (x5_1 < (l0.length : Int)) = true := decide_eq_true c5
        clear c5
        by_cases c6 : x7_2 < ((rdOf ByteArray.empty l0 x5_1).size : Int)
        ·
         rw [if_pos c6] at H
         have c6b0 : decide (x7_2 < ((rdOf ByteArray.empty l0 x5_1).size : Int)) = true := decide_eq_true c6
         clear c6
         by_cases c7 : x6_2 = true
         ·
          subst c7
          rw [if_pos rfl] at H
          have H' := Aside0.mk H
          clear H
          have p298 : 0 ≤ (x5_1 : Int) := of_decide_eq_true asz
          have q298 : x5_1 < (l0.length : Int) := of_decide_eq_true asz
          obtain ⟨ad298, e298, hx298_0⟩ := Kd.at_string HR0.out x5_1 p298 q298
          cases e298
          replace p298 := eq_true p298
          replace q298 := eq_true q298
          go_wp2
          go_roundg k2
          case measure => have := HK1.out; have := HK2.out; omega
          case rel => exact ⟨(true), (wrap64 (x7_2 + 1)), rsz, rsz, H', ⟨by have := HK1.out; have := HK2.out; omega⟩, drz⟩
         ·
          replace c7 := Bool.eq_false_iff.mpr c7
          subst c7
          rw [if_neg (show ¬ (false = true) by decide)] at H
          by_cases c8 : 0 ≤ x7_2
          ·
           rw [if_pos c8] at H
           have c8b0 : decide (0 ≤ x7_2) = true := decide_eq_true c8
           clear c8
           replace H := Option.bind_eq_some_iff.mp H
           obtain ⟨t300, A100, H⟩ := H
           try dsimp only at H
           have A10 := Aside0.mk A100
           clear A100
           have H' := Aside0.mk H
           clear H
           have p298 : 0 ≤ (x5_1 : Int) := of_decide_eq_true asz
           have q298 : x5_1 < (l0.length : Int) := of_decide_eq_true asz
           obtain ⟨ad298, e298, hx298_0⟩ := Kd.at_string HR0.out x5_1 p298 q298
           cases e298
           replace p298 := eq_true p298
           replace q298 := eq_true q298
           have p299 : 0 ≤ (x5_1 : Int) := of_decide_eq_true asz
           have q299 : x5_1 < (l0.length : Int) := of_decide_eq_true asz
           obtain ⟨ad299, e299, hx299_0⟩ := Kd.at_string HR0.out x5_1 p299 q299
           obtain rfl : ad298 = ad299 := (by injection e299)
           replace p299 := eq_true p299
           replace q299 := eq_true q299
           have p9 : 0 ≤ (x7_2 : Int) := of_decide_eq_true asz
           have q9 : x7_2 < ((rdOf ByteArray.empty l0 x5_1).size : Int) := of_decide_eq_true asz
           have hx9 := bt_at (rdOf ByteArray.empty l0 x5_1) x7_2
           replace p9 := eq_true p9
           replace q9 := eq_true q9
           go_wp2_with (first | (go_at_call 67; (with_reducible refine (droppertop_in.calls k2 a1 (bt (rdOf ByteArray.empty l0 x5_1) x7_2) t300 _ A10.out).mono ?_); rintro e w' ⟨rfl, ⟨nd, rfl⟩⟩))
           go_roundg k2
           case measure => have := HK1.out; have := HK2.out; omega
           case rel => exact ⟨(t300), (wrap64 (x7_2 + 1)), rsz, rsz, H', ⟨by have := HK1.out; have := HK2.out; omega⟩, drz⟩
          ·
           rw [if_neg c8] at H
           exact absurd H (by simp)
        ·
         rw [if_neg c6] at H
         have c6b0 : decide (x7_2 < ((rdOf ByteArray.empty l0 x5_1).size : Int)) = false := decide_eq_false c6
         clear c6
         by_cases c11 : x6_2 = true
         ·
          subst c11
          rw [if_pos rfl] at H
          have H' := Aside0.mk H
          clear H
          have p298 : 0 ≤ (x5_1 : Int) := of_decide_eq_true asz
          have q298 : x5_1 < (l0.length : Int) := of_decide_eq_true asz
          obtain ⟨ad298, e298, hx298_0⟩ := Kd.at_string HR0.out x5_1 p298 q298
          cases e298
          replace p298 := eq_true p298
          replace q298 := eq_true q298
          go_wp2
          go_roundg k2
          case measure => have := HK1.out; have := HK2.out; omega
          case rel => exact ⟨(wrap64 (x5_1 + 1)), rsz, H', ⟨by have := HK1.out; have := HK2.out; omega⟩, drz⟩
         ·
          replace c11 := Bool.eq_false_iff.mpr c11
          subst c11
          rw [if_neg (show ¬ (false = true) by decide)] at H
          obtain rfl := Option.some.inj H
          have p298 : 0 ≤ (x5_1 : Int) := of_decide_eq_true asz
          have q298 : x5_1 < (l0.length : Int) := of_decide_eq_true asz
          obtain ⟨ad298, e298, hx298_0⟩ := Kd.at_string HR0.out x5_1 p298 q298
          cases e298
          replace p298 := eq_true p298
          replace q298 := eq_true q298
          go_wp2
          go_ret
          exact ⟨by first | rfl | (simp; done) | (simp [*]; done), drz⟩
       ·
        rw [if_neg c5] at H
        exact absurd H (by simp)
      ·
       rw [if_neg c4] at H
       exact absurd H (by simp)
   ·
    rw [if_neg c3] at H
    have c3b0 : decide (x5_1 < (l0.length : Int)) = false := decide_eq_false c3
    clear c3
    obtain rfl := Option.some.inj H
    go_wp2
    go_ret
    exact ⟨by first | rfl | (simp; done) | (simp [*]; done), drz⟩

/-! ### droppertop_TopLoops: function 4 -/
mutual
def droppertop_TopLoops.j0 : Nat → ByteArray → ByteArray → ByteArray → Bool → Option (Bool)
 | 0, _, _, _, _ => none
 | k + 1, x0, x1, x2, x52 => if x52 = true then ((dropperlaw09_First.f k).bind fun t305 => (some t305)) else ((loop_Paths.f x0).bind fun bt306 => ((loop_Cuts.f x0).bind fun bt310 => ((loop_IsPath.f x0 x2).bind fun bt314 => ((loop_IsCut.f x0 x2).bind fun bt316 => ((loop_Conducts.f x0 x2).bind fun bt318 => (if bt306.2 = 0 then (if bt310.2 = 0 then (if bt314.2 = 0 then (if bt316.2 = 0 then (if bt318.2 = 0 then (droppertop_TopLoops.j1 k x0 x1 x2 bt306.1 bt310.1 bt314.1 bt316.1 (bt314.1 != bt318.1)) else (droppertop_TopLoops.j1 k x0 x1 x2 bt306.1 bt310.1 bt314.1 bt316.1 true)) else (droppertop_TopLoops.j1 k x0 x1 x2 bt306.1 bt310.1 bt314.1 bt316.1 true)) else (droppertop_TopLoops.j1 k x0 x1 x2 bt306.1 bt310.1 bt314.1 bt316.1 true)) else (droppertop_TopLoops.j1 k x0 x1 x2 bt306.1 bt310.1 bt314.1 bt316.1 true)) else (droppertop_TopLoops.j1 k x0 x1 x2 bt306.1 bt310.1 bt314.1 bt316.1 true)))))))
def droppertop_TopLoops.j1 : Nat → ByteArray → ByteArray → ByteArray → List ByteArray → List ByteArray → Bool → Bool → Bool → Option (Bool)
 | 0, _, _, _, _, _, _, _, _ => none
 | k + 1, x0, x1, x2, x7, x9, x11, x13, x104 => if x104 = true then (none) else ((droppertop_part.f k x7 x2).bind fun t320 => (if (x11 != t320) = true then (droppertop_TopLoops.j2 k x0 x1 x7 x9 true) else ((droppertop_meets.f k x9 x2).bind fun t321 => (if (x11 != t321) = true then (droppertop_TopLoops.j2 k x0 x1 x7 x9 true) else ((droppertop_part.f k x9 x2).bind fun t322 => (if (x13 != t322) = true then (droppertop_TopLoops.j2 k x0 x1 x7 x9 true) else ((droppertop_meets.f k x7 x2).bind fun t323 => (droppertop_TopLoops.j2 k x0 x1 x7 x9 (x13 != t323)))))))))
def droppertop_TopLoops.j2 : Nat → ByteArray → ByteArray → List ByteArray → List ByteArray → Bool → Option (Bool)
 | 0, _, _, _, _, _ => none
 | k + 1, x0, x1, x7, x9, x130 => if x130 = true then (none) else (droppertop_TopLoops.l0 k x0 x1 x7 x9 0)
def droppertop_TopLoops.l0 : Nat → ByteArray → ByteArray → List ByteArray → List ByteArray → Int → Option (Bool)
 | 0, _, _, _, _, _ => none
 | k + 1, x0, x1, x7, x9, x17 => if x17 < (x7.length : Int) then (if 0 ≤ x17 then ((droppertop_meets.f k x9 (rdOf ByteArray.empty x7 x17)).bind fun t325 => (if t325 = true then (droppertop_TopLoops.l0 k x0 x1 x7 x9 (wrap64 (x17 + 1))) else (none))) else (none)) else ((loop_Dual.f x0).bind fun bt326 => (if bt326.2 = 0 then ((loop_Paths.f bt326.1).bind fun bt328 => ((loop_Cuts.f bt326.1).bind fun bt332 => (if bt328.2 = 0 then (if bt332.2 = 0 then ((dropperlaw09_SameTexts.f k bt328.1 x9).bind fun t336 => (if t336 = true then ((dropperlaw09_SameTexts.f k bt332.1 x7).bind fun t337 => (droppertop_TopLoops.j4 k x0 x1 x7 bt326.1 (!t337))) else (droppertop_TopLoops.j4 k x0 x1 x7 bt326.1 true))) else (droppertop_TopLoops.j4 k x0 x1 x7 bt326.1 true)) else (droppertop_TopLoops.j4 k x0 x1 x7 bt326.1 true)))) else (if bt326.2 = 4 then (droppertop_TopLoops.j5 k x0 x1 x7) else (none))))
def droppertop_TopLoops.j5 : Nat → ByteArray → ByteArray → List ByteArray → Option (Bool)
 | 0, _, _, _ => none
 | k + 1, x0, x1, x7 => (loop_Paths.f x1).bind fun bt342 => ((loop_Same.f x0 x1).bind fun bt346 => ((loop_Differ.f x0 x1).bind fun bt348 => ((loop_Within.f x0 x1).bind fun bt350 => ((loop_Within.f x1 x0).bind fun bt352 => (if bt342.2 = 0 then (if bt346.2 = 0 then (if bt348.2 = 0 then (if bt350.2 = 0 then (if bt352.2 = 0 then ((dropperlaw09_SameTexts.f k x7 bt342.1).bind fun t354 => (if (bt346.1 == t354) = true then (if (bt346.1 == (bt348.2 == 5)) = true then (if bt350.1 = true then (if (bt346.1 == bt352.1) = true then ((dropperlaw09_First.f k).bind fun t355 => (some t355)) else (none)) else (if (bt346.1 == false) = true then ((dropperlaw09_First.f k).bind fun t356 => (some t356)) else (none))) else (none)) else (none))) else (none)) else (none)) else (if bt348.2 = 5 then (if bt350.2 = 0 then (if bt352.2 = 0 then ((dropperlaw09_SameTexts.f k x7 bt342.1).bind fun t357 => (if (bt346.1 == t357) = true then (if (bt346.1 == (bt348.2 == 5)) = true then (if bt350.1 = true then (if (bt346.1 == bt352.1) = true then ((dropperlaw09_First.f k).bind fun t358 => (some t358)) else (none)) else (if (bt346.1 == false) = true then ((dropperlaw09_First.f k).bind fun t359 => (some t359)) else (none))) else (none)) else (none))) else (none)) else (none)) else (none))) else (none)) else (none))))))
def droppertop_TopLoops.j4 : Nat → ByteArray → ByteArray → List ByteArray → ByteArray → Bool → Option (Bool)
 | 0, _, _, _, _, _ => none
 | k + 1, x0, x1, x7, x18, x178 => if x178 = true then (none) else ((loop_Dual.f x18).bind fun bt338 => (if bt338.2 = 0 then ((loop_Same.f bt338.1 x0).bind fun bt340 => (if bt340.2 = 0 then (if bt340.1 = true then (droppertop_TopLoops.j5 k x0 x1 x7) else (none)) else (none))) else (if bt338.2 = 4 then (droppertop_TopLoops.j5 k x0 x1 x7) else (none))))
end
def droppertop_TopLoops.f (k : Nat) (a0 : ByteArray) (a1 : ByteArray) (a2 : ByteArray) : Option (Bool) := (dropperlaw09_Long.f a0 a1).bind fun t301 => (if t301 = true then (droppertop_TopLoops.j0 k a0 a1 a2 true) else (if (a2.size : Int) > 20 then (droppertop_TopLoops.j0 k a0 a1 a2 true) else ((dropperref09_Valid.f a0).bind fun t302 => (if t302 = true then ((dropperref09_Valid.f a1).bind fun t303 => (if t303 = true then ((dropperref09_ValidSet.f k a2).bind fun t304 => (droppertop_TopLoops.j0 k a0 a1 a2 (!t304))) else (droppertop_TopLoops.j0 k a0 a1 a2 true))) else (droppertop_TopLoops.j0 k a0 a1 a2 true)))))
set_option maxHeartbeats 8000000 in
set_option maxRecDepth 100000 in
theorem droppertop_TopLoops.calls (k : Nat) (a0 : ByteArray) (a1 : ByteArray) (a2 : ByteArray) (r : Bool) (w : World) (h : droppertop_TopLoops.f k a0 a1 a2 = some r) :
  Calls Try.prog 4 #[.string a0, .string a1, .string a2] w fun e w' => e = .returned (.bool r) ∧ Below w.heap.size w w' := by
 have HB := Aside0.mk (Below.refl w.heap.size w)
 have H : ((dropperlaw09_Long.f a0 a1).bind fun t301 => (if t301 = true then (droppertop_TopLoops.j0 k a0 a1 a2 true) else (if (a2.size : Int) > 20 then (droppertop_TopLoops.j0 k a0 a1 a2 true) else ((dropperref09_Valid.f a0).bind fun t302 => (if t302 = true then ((dropperref09_Valid.f a1).bind fun t303 => (if t303 = true then ((dropperref09_ValidSet.f k a2).bind fun t304 => (droppertop_TopLoops.j0 k a0 a1 a2 (!t304))) else (droppertop_TopLoops.j0 k a0 a1 a2 true))) else (droppertop_TopLoops.j0 k a0 a1 a2 true)))))) = some r := h
 clear h
 have HC4 := Aside0.mk H
 clear H
 go_enter Try.func4, Try.ntmps4
 go_upto_region 1 with (fail)
 go_cut [52] (fun v52 wc => ∃ (kq : Nat) (x52_3 : Bool), v52 = .bool x52_3 ∧ Aside0 (droppertop_TopLoops.j0 kq a0 a1 a2 x52_3 = some r) ∧ Aside0 (kq ≤ k) ∧ Aside0 (Below w.heap.size w wc))
 case first =>
  as_aux_lemma =>
   have H := HC4.out
   clear HC4
   replace H := Option.bind_eq_some_iff.mp H
   obtain ⟨t301, A50, H⟩ := H
   try dsimp only at H
   have A5 := Aside0.mk A50
   clear A50
   by_cases c6 : t301 = true
   ·
    subst c6
    rw [if_pos rfl] at H
    have H' := Aside0.mk H
    clear H
    go_wp2_with (first | ((with_reducible refine gate_callee (f := 14) rfl ?_); refine goesL_ (some 32) rfl rfl Try.func14 (by kernel_rfl) rfl #[.string a0, .string a1] rfl mapz ?_; (with_reducible refine (dropperlaw09_Long.calls a0 a1 true _ A5.out).mono ?_); rintro e w' ⟨rfl, ⟨nd, rfl⟩⟩; refine ⟨_, rfl, ?_⟩))
    go_meet
    case rel => exact ⟨_, (true), rsz, H', ⟨by first | omega | exact Nat.le_refl _⟩, ⟨bel⟩⟩
   ·
    as_aux_lemma =>
     replace c6 := Bool.eq_false_iff.mpr c6
     subst c6
     rw [if_neg (show ¬ (false = true) by decide)] at H
     by_cases c7 : (a2.size : Int) > 20
     ·
      rw [if_pos c7] at H
      have c7b0 : decide (20 < (a2.size : Int)) = true := decide_eq_true c7
      have c7b1 : decide (20 < a2.size) = true := decide_eq_true (by omega)
      clear c7
      (first | rw [c7b0] | (simp only [i64_w, i32_w]; rw [c7b0]) | skip)
      have H' := Aside0.mk H
      clear H
      go_wp2_with (first | ((with_reducible refine gate_callee (f := 14) rfl ?_); refine goesL_ (some 32) rfl rfl Try.func14 (by kernel_rfl) rfl #[.string a0, .string a1] rfl mapz ?_; (with_reducible refine (dropperlaw09_Long.calls a0 a1 false _ A5.out).mono ?_); rintro e w' ⟨rfl, ⟨nd, rfl⟩⟩; refine ⟨_, rfl, ?_⟩))
      go_meet
      case rel => exact ⟨_, (true), rsz, H', ⟨by first | omega | exact Nat.le_refl _⟩, ⟨bel⟩⟩
     ·
      as_aux_lemma =>
       rw [if_neg c7] at H
       have c7b0 : decide (20 < (a2.size : Int)) = false := decide_eq_false c7
       have c7b1 : decide (20 < a2.size) = false := decide_eq_false (by omega)
       clear c7
       (first | rw [c7b0] | (simp only [i64_w, i32_w]; rw [c7b0]) | skip)
       replace H := Option.bind_eq_some_iff.mp H
       obtain ⟨t302, A80, H⟩ := H
       try dsimp only at H
       have A8 := Aside0.mk A80
       clear A80
       by_cases c9 : t302 = true
       ·
        subst c9
        rw [if_pos rfl] at H
        replace H := Option.bind_eq_some_iff.mp H
        obtain ⟨t303, A100, H⟩ := H
        try dsimp only at H
        have A10 := Aside0.mk A100
        clear A100
        by_cases c11 : t303 = true
        ·
         subst c11
         rw [if_pos rfl] at H
         replace H := Option.bind_eq_some_iff.mp H
         obtain ⟨t304, A120, H⟩ := H
         try dsimp only at H
         have A12 := Aside0.mk A120
         clear A120
         have H' := Aside0.mk H
         clear H
         go_wp2_with (first | ((with_reducible refine gate_callee (f := 14) rfl ?_); refine goesL_ (some 32) rfl rfl Try.func14 (by kernel_rfl) rfl #[.string a0, .string a1] rfl mapz ?_; (with_reducible refine (dropperlaw09_Long.calls a0 a1 false _ A5.out).mono ?_); rintro e w' ⟨rfl, ⟨nd, rfl⟩⟩; refine ⟨_, rfl, ?_⟩) | (go_at_call 21; (with_reducible refine (dropperref09_Valid.calls a0 true _ A8.out).mono ?_); rintro e w13 ⟨rfl, hb⟩; replace HB := Aside0.mk (below_step bel hb); clear hb) | (go_at_call 21; (with_reducible refine (dropperref09_Valid.calls a1 true _ A10.out).mono ?_); rintro e w14 ⟨rfl, hb⟩; replace HB := Aside0.mk (below_step bel hb); clear hb) | (go_at_call 22; (with_reducible refine (dropperref09_ValidSet.calls k a2 t304 _ A12.out).mono ?_); rintro e w' ⟨rfl, ⟨nd, rfl⟩⟩))
         go_meet
         case rel => exact ⟨_, (!t304), rsz, H', ⟨by first | omega | exact Nat.le_refl _⟩, ⟨bel⟩⟩
        ·
         as_aux_lemma =>
          replace c11 := Bool.eq_false_iff.mpr c11
          subst c11
          rw [if_neg (show ¬ (false = true) by decide)] at H
          have H' := Aside0.mk H
          clear H
          go_wp2_with (first | ((with_reducible refine gate_callee (f := 14) rfl ?_); refine goesL_ (some 32) rfl rfl Try.func14 (by kernel_rfl) rfl #[.string a0, .string a1] rfl mapz ?_; (with_reducible refine (dropperlaw09_Long.calls a0 a1 false _ A5.out).mono ?_); rintro e w' ⟨rfl, ⟨nd, rfl⟩⟩; refine ⟨_, rfl, ?_⟩) | (go_at_call 21; (with_reducible refine (dropperref09_Valid.calls a0 true _ A8.out).mono ?_); rintro e w15 ⟨rfl, hb⟩; replace HB := Aside0.mk (below_step bel hb); clear hb) | (go_at_call 21; (with_reducible refine (dropperref09_Valid.calls a1 false _ A10.out).mono ?_); rintro e w16 ⟨rfl, hb⟩; replace HB := Aside0.mk (below_step bel hb); clear hb))
          go_meet
          case rel => exact ⟨_, (true), rsz, H', ⟨by first | omega | exact Nat.le_refl _⟩, ⟨bel⟩⟩
       ·
        as_aux_lemma =>
         replace c9 := Bool.eq_false_iff.mpr c9
         subst c9
         rw [if_neg (show ¬ (false = true) by decide)] at H
         have H' := Aside0.mk H
         clear H
         go_wp2_with (first | ((with_reducible refine gate_callee (f := 14) rfl ?_); refine goesL_ (some 32) rfl rfl Try.func14 (by kernel_rfl) rfl #[.string a0, .string a1] rfl mapz ?_; (with_reducible refine (dropperlaw09_Long.calls a0 a1 false _ A5.out).mono ?_); rintro e w' ⟨rfl, ⟨nd, rfl⟩⟩; refine ⟨_, rfl, ?_⟩) | (go_at_call 21; (with_reducible refine (dropperref09_Valid.calls a0 false _ A8.out).mono ?_); rintro e w17 ⟨rfl, hb⟩; replace HB := Aside0.mk (below_step bel hb); clear hb))
         go_meet
         case rel => exact ⟨_, (true), rsz, H', ⟨by first | omega | exact Nat.le_refl _⟩, ⟨bel⟩⟩
 case rest =>
  as_aux_lemma =>
   clear HC4
   (try clear c1); (try clear p2); (try clear c4); (try clear c6); (try clear c7); (try clear c7b0); (try clear c7b1); (try clear c9); (try clear c11); (try clear c14)
   obtain ⟨kq, x52_3, rfl, HA, HJ3, HB⟩ := hcut
   cases kq with
   | zero => exact absurd HA.out (by simp [droppertop_TopLoops.j0])
   | succ kj3 =>
    have H := HA.out
    clear HA
    simp only [droppertop_TopLoops.j0] at H
    by_cases c18 : x52_3 = true
    ·
     subst c18
     rw [if_pos rfl] at H
     replace H := Option.bind_eq_some_iff.mp H
     obtain ⟨t305, A190, H⟩ := H
     try dsimp only at H
     have A19 := Aside0.mk A190
     clear A190
     obtain rfl := Option.some.inj H
     go_wp2_with (first | ((with_reducible refine gate_callee (f := 15) rfl ?_); refine goesL_ (some 53) rfl rfl Try.func15 (by kernel_rfl) rfl #[] rfl mapz ?_; (with_reducible refine (dropperlaw09_First.calls kj3  t305 _ A19.out).mono ?_); rintro e w20 ⟨rfl, hb⟩; refine ⟨_, rfl, ?_⟩; replace HB := Aside0.mk (below_step bel hb); clear hb))
     go_ret
     exact ⟨ezz, bel⟩
    ·
     as_aux_lemma =>
      replace c18 := Bool.eq_false_iff.mpr c18
      subst c18
      rw [if_neg (show ¬ (false = true) by decide)] at H
      replace H := Option.bind_eq_some_iff.mp H
      obtain ⟨⟨t306, t307⟩, A210, H⟩ := H
      try dsimp only at H
      have A21 := Aside0.mk A210
      clear A210
      replace H := Option.bind_eq_some_iff.mp H
      obtain ⟨⟨t310, t311⟩, A220, H⟩ := H
      try dsimp only at H
      have A22 := Aside0.mk A220
      clear A220
      replace H := Option.bind_eq_some_iff.mp H
      obtain ⟨⟨t314, t315⟩, A230, H⟩ := H
      try dsimp only at H
      have A23 := Aside0.mk A230
      clear A230
      replace H := Option.bind_eq_some_iff.mp H
      obtain ⟨⟨t316, t317⟩, A240, H⟩ := H
      try dsimp only at H
      have A24 := Aside0.mk A240
      clear A240
      replace H := Option.bind_eq_some_iff.mp H
      obtain ⟨⟨t318, t319⟩, A250, H⟩ := H
      try dsimp only at H
      have A25 := Aside0.mk A250
      clear A250
      have HC26 := Aside0.mk H
      clear H
      go_upto_region 8 with (first | ((with_reducible refine gate_callee (f := 16) rfl ?_); refine goesL_ (some 56) rfl rfl Try.func16 (by kernel_rfl) rfl #[.string a0] rfl mapz ?_; (with_reducible refine (loop_Paths.calls a0 t306 t307 _ A21.out).mono ?_); rintro e w27 ⟨v308, rfl, ho0, hb⟩; refine ⟨_, rfl, ?_⟩; have HO309 := Aside0.mk (Kd.R_lower ho0 (below_size bel)); replace HB := Aside0.mk (below_step bel hb); (try clear hb); (try clear hb2); (try clear hk); (try clear hi); (try clear ho0)) | ((with_reducible refine gate_callee (f := 18) rfl ?_); refine goesL_ (some 61) rfl rfl Try.func18 (by kernel_rfl) rfl #[.string a0] rfl mapz ?_; (with_reducible refine (loop_Cuts.calls a0 t310 t311 _ A22.out).mono ?_); rintro e w28 ⟨v312, rfl, ho0, hb⟩; refine ⟨_, rfl, ?_⟩; have HO313 := Aside0.mk (Kd.R_lower (Kd.R_new' ho0 (Kd.R_lt (ownx HO309))) (below_size bel)); replace HO309 := Aside0.mk (Kd.R_elder' (ownx HO309) (Kd.R_base ho0) hb); replace HB := Aside0.mk (below_step bel hb); (try clear hb); (try clear hb2); (try clear hk); (try clear hi); (try clear ho0)) | ((with_reducible refine gate_callee (f := 23) rfl ?_); refine goesL_ (some 67) rfl rfl Try.func23 (by kernel_rfl) rfl #[.string a0, .string a2] rfl mapz ?_; (with_reducible refine (loop_IsPath.calls a0 a2 t314 t315 _ A23.out).mono ?_); rintro e w29 ⟨rfl, hb⟩; refine ⟨_, rfl, ?_⟩; replace HO309 := Aside0.mk (Kd.R_below (ownx HO309) hb); replace HO313 := Aside0.mk (Kd.R_below (ownx HO313) hb); replace HB := Aside0.mk (below_step bel hb); clear hb) | ((with_reducible refine gate_callee (f := 24) rfl ?_); refine goesL_ (some 73) rfl rfl Try.func24 (by kernel_rfl) rfl #[.string a0, .string a2] rfl mapz ?_; (with_reducible refine (loop_IsCut.calls a0 a2 t316 t317 _ A24.out).mono ?_); rintro e w30 ⟨rfl, hb⟩; refine ⟨_, rfl, ?_⟩; replace HO309 := Aside0.mk (Kd.R_below (ownx HO309) hb); replace HO313 := Aside0.mk (Kd.R_below (ownx HO313) hb); replace HB := Aside0.mk (below_step bel hb); clear hb) | ((with_reducible refine gate_callee (f := 25) rfl ?_); refine goesL_ (some 79) rfl rfl Try.func25 (by kernel_rfl) rfl #[.string a0, .string a2] rfl mapz ?_; (with_reducible refine (loop_Conducts.calls a0 a2 t318 t319 _ A25.out).mono ?_); rintro e w31 ⟨rfl, hb⟩; refine ⟨_, rfl, ?_⟩; replace HO309 := Aside0.mk (Kd.R_below (ownx HO309) hb); replace HO313 := Aside0.mk (Kd.R_below (ownx HO313) hb); replace HB := Aside0.mk (below_step bel hb); clear hb))
      (try simp only [Act.put, List.setIfInBounds_toArray, List.set_cons_zero, List.set_cons_succ])
      go_cut [104] (fun v104 wc => ∃ (kq : Nat) (x104_25 : Bool), v104 = .bool x104_25 ∧ Aside0 (droppertop_TopLoops.j1 kq a0 a1 a2 t306 t310 t314 t316 x104_25 = some r) ∧ Aside0 (kq ≤ kj3) ∧ Aside0 (Kd.R Kd.string 9 wc w.heap.size (fun k_ => some k_ ≠ (v312 : Value).ownBlock) v308 t306) ∧ Aside0 (Kd.R Kd.string 9 wc w.heap.size (fun k_ => some k_ ≠ (v308 : Value).ownBlock) v312 t310) ∧ Aside0 (Below w.heap.size w wc))
      case first =>
       as_aux_lemma =>
        have H := HC26.out
        clear HC26
        by_cases c32 : t307 = 0
        ·
         rw [if_pos c32] at H
         have c32b0 : (t307 == 0) = true := beq_iff_eq.mpr c32
         have c32b1 : (t307 != 0) = false := bne_eq_false_iff_eq.mpr c32
         clear c32
         (first | rw [c32b0] | (simp only [i64_w, i32_w]; rw [c32b0]) | skip)
         by_cases c33 : t311 = 0
         ·
          rw [if_pos c33] at H
          have c33b0 : (t311 == 0) = true := beq_iff_eq.mpr c33
          have c33b1 : (t311 != 0) = false := bne_eq_false_iff_eq.mpr c33
          clear c33
          by_cases c34 : t315 = 0
          ·
           rw [if_pos c34] at H
           have c34b0 : (t315 == 0) = true := beq_iff_eq.mpr c34
           have c34b1 : (t315 != 0) = false := bne_eq_false_iff_eq.mpr c34
           clear c34
           by_cases c35 : t317 = 0
           ·
            rw [if_pos c35] at H
            have c35b0 : (t317 == 0) = true := beq_iff_eq.mpr c35
            have c35b1 : (t317 != 0) = false := bne_eq_false_iff_eq.mpr c35
            clear c35
            by_cases c36 : t319 = 0
            ·
             rw [if_pos c36] at H
             have c36b0 : (t319 == 0) = true := beq_iff_eq.mpr c36
             have c36b1 : (t319 != 0) = false := bne_eq_false_iff_eq.mpr c36
             clear c36
             have H' := Aside0.mk H
             clear H
             go_wp2
             go_meet
             case rel => exact ⟨_, ((t314 != t318)), rsz, H', ⟨by have := HJ3.out; first | omega | exact Nat.le_refl _⟩, ⟨by (with_reducible repeat (first | apply Kd.R_alloc | apply Kd.R_drewN | apply Kd.R_drew)); exact Kd.R_mono HO309.out (fun _ hk => hk.2)⟩, ⟨by (with_reducible repeat (first | apply Kd.R_alloc | apply Kd.R_drewN | apply Kd.R_drew)); exact Kd.R_mono HO313.out (fun _ hk => hk.2)⟩, ⟨bel⟩⟩
            ·
             as_aux_lemma =>
              rw [if_neg c36] at H
              have c36b0 : (t319 == 0) = false := beq_eq_false_iff_ne.mpr c36
              have c36b1 : (t319 != 0) = true := bne_iff_ne.mpr c36
              have H' := Aside0.mk H
              clear H
              go_wp2
              go_meet
              case rel => exact ⟨_, (true), rsz, H', ⟨by have := HJ3.out; first | omega | exact Nat.le_refl _⟩, ⟨by (with_reducible repeat (first | apply Kd.R_alloc | apply Kd.R_drewN | apply Kd.R_drew)); exact Kd.R_mono HO309.out (fun _ hk => hk.2)⟩, ⟨by (with_reducible repeat (first | apply Kd.R_alloc | apply Kd.R_drewN | apply Kd.R_drew)); exact Kd.R_mono HO313.out (fun _ hk => hk.2)⟩, ⟨bel⟩⟩
           ·
            as_aux_lemma =>
             rw [if_neg c35] at H
             have c35b0 : (t317 == 0) = false := beq_eq_false_iff_ne.mpr c35
             have c35b1 : (t317 != 0) = true := bne_iff_ne.mpr c35
             have H' := Aside0.mk H
             clear H
             go_wp2
             go_meet
             case rel => exact ⟨_, (true), rsz, H', ⟨by have := HJ3.out; first | omega | exact Nat.le_refl _⟩, ⟨by (with_reducible repeat (first | apply Kd.R_alloc | apply Kd.R_drewN | apply Kd.R_drew)); exact Kd.R_mono HO309.out (fun _ hk => hk.2)⟩, ⟨by (with_reducible repeat (first | apply Kd.R_alloc | apply Kd.R_drewN | apply Kd.R_drew)); exact Kd.R_mono HO313.out (fun _ hk => hk.2)⟩, ⟨bel⟩⟩
          ·
           as_aux_lemma =>
            rw [if_neg c34] at H
            have c34b0 : (t315 == 0) = false := beq_eq_false_iff_ne.mpr c34
            have c34b1 : (t315 != 0) = true := bne_iff_ne.mpr c34
            have H' := Aside0.mk H
            clear H
            go_wp2
            go_meet
            case rel => exact ⟨_, (true), rsz, H', ⟨by have := HJ3.out; first | omega | exact Nat.le_refl _⟩, ⟨by (with_reducible repeat (first | apply Kd.R_alloc | apply Kd.R_drewN | apply Kd.R_drew)); exact Kd.R_mono HO309.out (fun _ hk => hk.2)⟩, ⟨by (with_reducible repeat (first | apply Kd.R_alloc | apply Kd.R_drewN | apply Kd.R_drew)); exact Kd.R_mono HO313.out (fun _ hk => hk.2)⟩, ⟨bel⟩⟩
         ·
          as_aux_lemma =>
           rw [if_neg c33] at H
           have c33b0 : (t311 == 0) = false := beq_eq_false_iff_ne.mpr c33
           have c33b1 : (t311 != 0) = true := bne_iff_ne.mpr c33
           have H' := Aside0.mk H
           clear H
           go_wp2
           go_meet
           case rel => exact ⟨_, (true), rsz, H', ⟨by have := HJ3.out; first | omega | exact Nat.le_refl _⟩, ⟨by (with_reducible repeat (first | apply Kd.R_alloc | apply Kd.R_drewN | apply Kd.R_drew)); exact Kd.R_mono HO309.out (fun _ hk => hk.2)⟩, ⟨by (with_reducible repeat (first | apply Kd.R_alloc | apply Kd.R_drewN | apply Kd.R_drew)); exact Kd.R_mono HO313.out (fun _ hk => hk.2)⟩, ⟨bel⟩⟩
        ·
         as_aux_lemma =>
          rw [if_neg c32] at H
          have c32b0 : (t307 == 0) = false := beq_eq_false_iff_ne.mpr c32
          have c32b1 : (t307 != 0) = true := bne_iff_ne.mpr c32
          (first | rw [c32b0] | (simp only [i64_w, i32_w]; rw [c32b0]) | skip)
          have H' := Aside0.mk H
          clear H
          go_wp2
          go_meet
          case rel => exact ⟨_, (true), rsz, H', ⟨by have := HJ3.out; first | omega | exact Nat.le_refl _⟩, ⟨by (with_reducible repeat (first | apply Kd.R_alloc | apply Kd.R_drewN | apply Kd.R_drew)); exact Kd.R_mono HO309.out (fun _ hk => hk.2)⟩, ⟨by (with_reducible repeat (first | apply Kd.R_alloc | apply Kd.R_drewN | apply Kd.R_drew)); exact Kd.R_mono HO313.out (fun _ hk => hk.2)⟩, ⟨bel⟩⟩
      case rest =>
       as_aux_lemma =>
        clear HC26
        (try clear c1); (try clear c2); (try clear p2); (try clear c3); (try clear c4); (try clear c6); (try clear c7); (try clear c7b0); (try clear c7b1); (try clear c9); (try clear c11); (try clear c14); (try clear c15); (try clear c16); (try clear c18); (try clear c23); (try clear c24); (try clear c25); (try clear c32); (try clear c32b0); (try clear c32b1); (try clear c33); (try clear c33b0); (try clear c33b1); (try clear c34); (try clear c34b0); (try clear c34b1); (try clear c35); (try clear c35b0); (try clear c35b1); (try clear c36); (try clear c36b0); (try clear c36b1); (try clear p2)
        obtain ⟨kq, x104_25, rfl, HA, HJ25, HO_7, HO_9, HB⟩ := hcut
        cases kq with
        | zero => exact absurd HA.out (by simp [droppertop_TopLoops.j1])
        | succ kj25 =>
         have H := HA.out
         clear HA
         simp only [droppertop_TopLoops.j1] at H
         by_cases c37 : x104_25 = true
         ·
          subst c37
          rw [if_pos rfl] at H
          exact absurd H (by simp)
         ·
          as_aux_lemma =>
           replace c37 := Bool.eq_false_iff.mpr c37
           subst c37
           rw [if_neg (show ¬ (false = true) by decide)] at H
           have HC38 := Aside0.mk H
           clear H
           go_upto_region 10 with (fail)
           go_cut [130] (fun v130 wc => ∃ (kq : Nat) (x130_37 : Bool), v130 = .bool x130_37 ∧ Aside0 (droppertop_TopLoops.j2 kq a0 a1 t306 t310 x130_37 = some r) ∧ Aside0 (kq ≤ kj25) ∧ Aside0 (Kd.R Kd.string 9 wc w.heap.size (fun k_ => some k_ ≠ (v312 : Value).ownBlock) v308 t306) ∧ Aside0 (Kd.R Kd.string 9 wc w.heap.size (fun k_ => some k_ ≠ (v308 : Value).ownBlock) v312 t310) ∧ Aside0 (Below w.heap.size w wc))
           case first =>
            as_aux_lemma =>
             have H := HC38.out
             clear HC38
             replace H := Option.bind_eq_some_iff.mp H
             obtain ⟨t320, A390, H⟩ := H
             try dsimp only at H
             have A39 := Aside0.mk A390
             clear A390
             by_cases c40 : (t314 != t320) = true
             ·
              rw [if_pos c40] at H
              have c40b0 : (t314 != t320) = true := c40
              (try (have c40b1 : decide (t314 = t320) = false := by simpa using c40))
              (try (have c40b2 : (t314 == t320) = false := by simpa using c40))
              (try (have c40b3 : ¬ (t314 = t320) := by simpa using c40))
              clear c40
              (first | rw [c40b0] | (simp only [i64_w, i32_w]; rw [c40b0]) | skip)
              have H' := Aside0.mk H
              clear H
              obtain ⟨Ao41, co41, eo41⟩ := Kd.R_slice HO_7.out
              subst eo41
              go_wp2_with (first | ((with_reducible refine gate_callee (f := 26) rfl ?_); refine goesL_ (some 108) rfl rfl Try.func26 (by kernel_rfl) rfl #[.slice Ao41 t306.length co41, .string a2] rfl mapz ?_; (with_reducible refine (droppertop_part.calls kj25 _ _ t306 a2 t320 _ ?side1 ?side2 A39.out).mono ?_); (case side1 => repeat (first | exact (Kd.R_reads' HO_7.out).2.2 | (with_reducible refine Kd.C_alloc ?_ _) | (with_reducible refine Kd.C_drewN ?_ _) | (with_reducible refine Kd.C_drew ?_))); (case side2 => exact (Kd.R_reads' HO_7.out).2.1); rintro e w' ⟨rfl, ⟨nd, rfl⟩⟩; refine ⟨_, rfl, ?_⟩))
              go_meet
              case rel => exact ⟨_, (true), rsz, H', ⟨by have := HJ3.out; have := HJ25.out; first | omega | exact Nat.le_refl _⟩, ⟨by (with_reducible repeat (first | apply Kd.R_alloc | apply Kd.R_drewN | apply Kd.R_drew)); exact HO_7.out⟩, ⟨by (with_reducible repeat (first | apply Kd.R_alloc | apply Kd.R_drewN | apply Kd.R_drew)); exact HO_9.out⟩, ⟨bel⟩⟩
             ·
              as_aux_lemma =>
               rw [if_neg c40] at H
               have c40b0 : (t314 != t320) = false := by simpa using c40
               (try (have c40b1 : decide (t314 = t320) = true := by simpa using c40))
               (try (have c40b2 : (t314 == t320) = true := by simpa using c40))
               clear c40
               (first | rw [c40b0] | (simp only [i64_w, i32_w]; rw [c40b0]) | skip)
               replace H := Option.bind_eq_some_iff.mp H
               obtain ⟨t321, A420, H⟩ := H
               try dsimp only at H
               have A42 := Aside0.mk A420
               clear A420
               by_cases c43 : (t314 != t321) = true
               ·
                rw [if_pos c43] at H
                have c43b0 : (t314 != t321) = true := c43
                (try (have c43b1 : decide (t314 = t321) = false := by simpa using c43))
                (try (have c43b2 : (t314 == t321) = false := by simpa using c43))
                (try (have c43b3 : ¬ (t314 = t321) := by simpa using c43))
                clear c43
                have H' := Aside0.mk H
                clear H
                obtain ⟨Ao44, co44, eo44⟩ := Kd.R_slice HO_7.out
                subst eo44
                go_wp2_with (first | ((with_reducible refine gate_callee (f := 26) rfl ?_); refine goesL_ (some 108) rfl rfl Try.func26 (by kernel_rfl) rfl #[.slice Ao44 t306.length co44, .string a2] rfl mapz ?_; (with_reducible refine (droppertop_part.calls kj25 _ _ t306 a2 t320 _ ?side1 ?side2 A39.out).mono ?_); (case side1 => repeat (first | exact (Kd.R_reads' HO_7.out).2.2 | (with_reducible refine Kd.C_alloc ?_ _) | (with_reducible refine Kd.C_drewN ?_ _) | (with_reducible refine Kd.C_drew ?_))); (case side2 => exact (Kd.R_reads' HO_7.out).2.1); rintro e w' ⟨rfl, ⟨nd, rfl⟩⟩; refine ⟨_, rfl, ?_⟩; obtain ⟨Ao45, co45, eo45⟩ := Kd.R_slice HO_9.out; subst eo45) | (go_at_call 27; (with_reducible refine (droppertop_meets.calls kj25 _ _ t310 a2 t321 _ ?side1 ?side2 A42.out).mono ?_); (case side1 => repeat (first | exact (Kd.R_reads' HO_9.out).2.2 | (with_reducible refine Kd.C_alloc ?_ _) | (with_reducible refine Kd.C_drewN ?_ _) | (with_reducible refine Kd.C_drew ?_))); (case side2 => exact (Kd.R_reads' HO_9.out).2.1); rintro e w' ⟨rfl, ⟨nd, rfl⟩⟩))
                go_meet
                case rel => exact ⟨_, (true), rsz, H', ⟨by have := HJ3.out; have := HJ25.out; first | omega | exact Nat.le_refl _⟩, ⟨by (with_reducible repeat (first | apply Kd.R_alloc | apply Kd.R_drewN | apply Kd.R_drew)); exact HO_7.out⟩, ⟨by (with_reducible repeat (first | apply Kd.R_alloc | apply Kd.R_drewN | apply Kd.R_drew)); exact HO_9.out⟩, ⟨bel⟩⟩
               ·
                as_aux_lemma =>
                 rw [if_neg c43] at H
                 have c43b0 : (t314 != t321) = false := by simpa using c43
                 (try (have c43b1 : decide (t314 = t321) = true := by simpa using c43))
                 (try (have c43b2 : (t314 == t321) = true := by simpa using c43))
                 clear c43
                 replace H := Option.bind_eq_some_iff.mp H
                 obtain ⟨t322, A460, H⟩ := H
                 try dsimp only at H
                 have A46 := Aside0.mk A460
                 clear A460
                 by_cases c47 : (t316 != t322) = true
                 ·
                  rw [if_pos c47] at H
                  have c47b0 : (t316 != t322) = true := c47
                  (try (have c47b1 : decide (t316 = t322) = false := by simpa using c47))
                  (try (have c47b2 : (t316 == t322) = false := by simpa using c47))
                  (try (have c47b3 : ¬ (t316 = t322) := by simpa using c47))
                  clear c47
                  have H' := Aside0.mk H
                  clear H
                  obtain ⟨Ao48, co48, eo48⟩ := Kd.R_slice HO_7.out
                  subst eo48
                  go_wp2_with (first | ((with_reducible refine gate_callee (f := 26) rfl ?_); refine goesL_ (some 108) rfl rfl Try.func26 (by kernel_rfl) rfl #[.slice Ao48 t306.length co48, .string a2] rfl mapz ?_; (with_reducible refine (droppertop_part.calls kj25 _ _ t306 a2 t320 _ ?side1 ?side2 A39.out).mono ?_); (case side1 => repeat (first | exact (Kd.R_reads' HO_7.out).2.2 | (with_reducible refine Kd.C_alloc ?_ _) | (with_reducible refine Kd.C_drewN ?_ _) | (with_reducible refine Kd.C_drew ?_))); (case side2 => exact (Kd.R_reads' HO_7.out).2.1); rintro e w' ⟨rfl, ⟨nd, rfl⟩⟩; refine ⟨_, rfl, ?_⟩; obtain ⟨Ao49, co49, eo49⟩ := Kd.R_slice HO_9.out; subst eo49) | (go_at_call 27; (with_reducible refine (droppertop_meets.calls kj25 _ _ t310 a2 t321 _ ?side1 ?side2 A42.out).mono ?_); (case side1 => repeat (first | exact (Kd.R_reads' HO_9.out).2.2 | (with_reducible refine Kd.C_alloc ?_ _) | (with_reducible refine Kd.C_drewN ?_ _) | (with_reducible refine Kd.C_drew ?_))); (case side2 => exact (Kd.R_reads' HO_9.out).2.1); rintro e w' ⟨rfl, ⟨nd, rfl⟩⟩) | (go_at_call 26; (with_reducible refine (droppertop_part.calls kj25 _ _ t310 a2 t322 _ ?side1 ?side2 A46.out).mono ?_); (case side1 => repeat (first | exact (Kd.R_reads' HO_9.out).2.2 | (with_reducible refine Kd.C_alloc ?_ _) | (with_reducible refine Kd.C_drewN ?_ _) | (with_reducible refine Kd.C_drew ?_))); (case side2 => exact (Kd.R_reads' HO_9.out).2.1); rintro e w' ⟨rfl, ⟨nd, rfl⟩⟩))
                  go_meet
                  case rel => exact ⟨_, (true), rsz, H', ⟨by have := HJ3.out; have := HJ25.out; first | omega | exact Nat.le_refl _⟩, ⟨by (with_reducible repeat (first | apply Kd.R_alloc | apply Kd.R_drewN | apply Kd.R_drew)); exact HO_7.out⟩, ⟨by (with_reducible repeat (first | apply Kd.R_alloc | apply Kd.R_drewN | apply Kd.R_drew)); exact HO_9.out⟩, ⟨bel⟩⟩
                 ·
                  as_aux_lemma =>
                   rw [if_neg c47] at H
                   have c47b0 : (t316 != t322) = false := by simpa using c47
                   (try (have c47b1 : decide (t316 = t322) = true := by simpa using c47))
                   (try (have c47b2 : (t316 == t322) = true := by simpa using c47))
                   clear c47
                   replace H := Option.bind_eq_some_iff.mp H
                   obtain ⟨t323, A500, H⟩ := H
                   try dsimp only at H
                   have A50 := Aside0.mk A500
                   clear A500
                   have H' := Aside0.mk H
                   clear H
                   obtain ⟨Ao51, co51, eo51⟩ := Kd.R_slice HO_7.out
                   subst eo51
                   go_wp2_with (first | ((with_reducible refine gate_callee (f := 26) rfl ?_); refine goesL_ (some 108) rfl rfl Try.func26 (by kernel_rfl) rfl #[.slice Ao51 t306.length co51, .string a2] rfl mapz ?_; (with_reducible refine (droppertop_part.calls kj25 _ _ t306 a2 t320 _ ?side1 ?side2 A39.out).mono ?_); (case side1 => repeat (first | exact (Kd.R_reads' HO_7.out).2.2 | (with_reducible refine Kd.C_alloc ?_ _) | (with_reducible refine Kd.C_drewN ?_ _) | (with_reducible refine Kd.C_drew ?_))); (case side2 => exact (Kd.R_reads' HO_7.out).2.1); rintro e w' ⟨rfl, ⟨nd, rfl⟩⟩; refine ⟨_, rfl, ?_⟩; obtain ⟨Ao52, co52, eo52⟩ := Kd.R_slice HO_9.out; subst eo52) | (go_at_call 27; (with_reducible refine (droppertop_meets.calls kj25 _ _ t310 a2 t321 _ ?side1 ?side2 A42.out).mono ?_); (case side1 => repeat (first | exact (Kd.R_reads' HO_9.out).2.2 | (with_reducible refine Kd.C_alloc ?_ _) | (with_reducible refine Kd.C_drewN ?_ _) | (with_reducible refine Kd.C_drew ?_))); (case side2 => exact (Kd.R_reads' HO_9.out).2.1); rintro e w' ⟨rfl, ⟨nd, rfl⟩⟩) | (go_at_call 26; (with_reducible refine (droppertop_part.calls kj25 _ _ t310 a2 t322 _ ?side1 ?side2 A46.out).mono ?_); (case side1 => repeat (first | exact (Kd.R_reads' HO_9.out).2.2 | (with_reducible refine Kd.C_alloc ?_ _) | (with_reducible refine Kd.C_drewN ?_ _) | (with_reducible refine Kd.C_drew ?_))); (case side2 => exact (Kd.R_reads' HO_9.out).2.1); rintro e w' ⟨rfl, ⟨nd, rfl⟩⟩) | (go_at_call 27; (with_reducible refine (droppertop_meets.calls kj25 _ _ t306 a2 t323 _ ?side1 ?side2 A50.out).mono ?_); (case side1 => repeat (first | exact (Kd.R_reads' HO_7.out).2.2 | (with_reducible refine Kd.C_alloc ?_ _) | (with_reducible refine Kd.C_drewN ?_ _) | (with_reducible refine Kd.C_drew ?_))); (case side2 => exact (Kd.R_reads' HO_7.out).2.1); rintro e w' ⟨rfl, ⟨nd, rfl⟩⟩))
                   go_meet
                   case rel => exact ⟨_, ((t316 != t323)), rsz, H', ⟨by have := HJ3.out; have := HJ25.out; first | omega | exact Nat.le_refl _⟩, ⟨by (with_reducible repeat (first | apply Kd.R_alloc | apply Kd.R_drewN | apply Kd.R_drew)); exact HO_7.out⟩, ⟨by (with_reducible repeat (first | apply Kd.R_alloc | apply Kd.R_drewN | apply Kd.R_drew)); exact HO_9.out⟩, ⟨bel⟩⟩
           case rest =>
            as_aux_lemma =>
             clear HC38
             (try clear c1); (try clear c2); (try clear p2); (try clear c3); (try clear c4); (try clear c6); (try clear c7); (try clear c7b0); (try clear c7b1); (try clear c9); (try clear c11); (try clear c14); (try clear c15); (try clear c16); (try clear c18); (try clear c23); (try clear c24); (try clear c25); (try clear c26); (try clear c32); (try clear c32b0); (try clear c32b1); (try clear c33); (try clear c33b0); (try clear c33b1); (try clear c34); (try clear c34b0); (try clear c34b1); (try clear c35); (try clear c35b0); (try clear c35b1); (try clear c36); (try clear c36b0); (try clear c36b1); (try clear c37); (try clear c40); (try clear c40b0); (try clear c40b1); (try clear c40b2); (try clear c43); (try clear c43b0); (try clear c43b1); (try clear c43b2); (try clear c47); (try clear c47b0); (try clear c47b1); (try clear c47b2); (try clear p2)
             obtain ⟨kq, x130_37, rfl, HA, HJ37, HO_7, HO_9, HB⟩ := hcut
             cases kq with
             | zero => exact absurd HA.out (by simp [droppertop_TopLoops.j2])
             | succ kj37 =>
              have H := HA.out
              clear HA
              simp only [droppertop_TopLoops.j2] at H
              by_cases c53 : x130_37 = true
              ·
               subst c53
               rw [if_pos rfl] at H
               exact absurd H (by simp)
              ·
               as_aux_lemma =>
                replace c53 := Bool.eq_false_iff.mpr c53
                subst c53
                rw [if_neg (show ¬ (false = true) by decide)] at H
                have H' := Aside0.mk H
                clear H
                go_wp2
                go_loopg [17] kj37 (fun kq v17 w' => ∃ (x17_4 : Int), v17 = .int .i64 x17_4 ∧ Aside0 (droppertop_TopLoops.l0 kq a0 a1 t306 t310 x17_4 = some r) ∧ Aside0 (kq ≤ kj37) ∧ Aside0 (Kd.R Kd.string 9 w' w.heap.size (fun k_ => some k_ ≠ (v312 : Value).ownBlock) v308 t306) ∧ Aside0 (Kd.R Kd.string 9 w' w.heap.size (fun k_ => some k_ ≠ (v308 : Value).ownBlock) v312 t310) ∧ Aside0 (Below w.heap.size w w'))
                case atStart => exact ⟨(0), rsz, H', ⟨Nat.le_refl _⟩, ⟨by (with_reducible repeat (first | apply Kd.R_alloc | apply Kd.R_drewN | apply Kd.R_drew)); exact HO_7.out⟩, ⟨by (with_reducible repeat (first | apply Kd.R_alloc | apply Kd.R_drewN | apply Kd.R_drew)); exact HO_9.out⟩, ⟨bel⟩⟩
                case round =>
                 clear H'
                 (try clear c1); (try clear c2); (try clear p2); (try clear c3); (try clear c4); (try clear c5); (try clear c6); (try clear c7); (try clear c7b0); (try clear c7b1); (try clear c9); (try clear c11); (try clear c14); (try clear c15); (try clear c16); (try clear c18); (try clear c23); (try clear c24); (try clear c25); (try clear c26); (try clear c32); (try clear c32b0); (try clear c32b1); (try clear c33); (try clear c33b0); (try clear c33b1); (try clear c34); (try clear c34b0); (try clear c34b1); (try clear c35); (try clear c35b0); (try clear c35b1); (try clear c36); (try clear c36b0); (try clear c36b1); (try clear c37); (try clear c40); (try clear c40b0); (try clear c40b1); (try clear c40b2); (try clear c43); (try clear c43b0); (try clear c43b1); (try clear c43b2); (try clear c47); (try clear c47b0); (try clear c47b1); (try clear c47b2); (try clear c53); (try clear p2)
                 obtain ⟨x17_4, rfl, HA, HK4, HO_7, HO_9, HB⟩ := hrel
                 cases gk with
                 | zero => exact absurd HA.out (by simp [droppertop_TopLoops.l0])
                 | succ k4 =>
                  have H := HA.out
                  clear HA
                  simp only [droppertop_TopLoops.l0] at H
                  by_cases c54 : x17_4 < (t306.length : Int)
                  ·
                   rw [if_pos c54] at H
                   have c54b0 : decide (x17_4 < (t306.length : Int)) = true := decide_eq_true c54
                   clear c54
                   by_cases c55 : 0 ≤ x17_4
                   ·
                    rw [if_pos c55] at H
                    have c55b0 : decide (0 ≤ x17_4) = true := decide_eq_true c55
                    clear c55
                    replace H := Option.bind_eq_some_iff.mp H
                    obtain ⟨t325, A560, H⟩ := H
                    try dsimp only at H
                    have A56 := Aside0.mk A560
                    clear A560
                    by_cases c57 : t325 = true
                    ·
                     subst c57
                     rw [if_pos rfl] at H
                     have H' := Aside0.mk H
                     clear H
                     obtain ⟨Ao58, co58, eo58⟩ := Kd.R_slice HO_7.out
                     subst eo58
                     have p324 : 0 ≤ (x17_4 : Int) := of_decide_eq_true asz
                     have q324 : x17_4 < (t306.length : Int) := of_decide_eq_true asz
                     obtain ⟨ad324, e324, hx324_0⟩ := Kd.at_string (Kd.R_reads' HO_7.out).2.2 x17_4 p324 q324
                     cases e324
                     replace p324 := eq_true p324
                     replace q324 := eq_true q324
                     obtain ⟨Ao59, co59, eo59⟩ := Kd.R_slice HO_9.out
                     subst eo59
                     go_wp2_with (first | ((with_reducible refine gate_callee (f := 27) rfl ?_); refine goesL_ (some 142) rfl rfl Try.func27 (by kernel_rfl) rfl #[.slice Ao59 t310.length co59, .string (rdOf ByteArray.empty t306 x17_4)] rfl mapz ?_; (with_reducible refine (droppertop_meets.calls k4 _ _ t310 (rdOf ByteArray.empty t306 x17_4) true _ ?side1 ?side2 A56.out).mono ?_); (case side1 => repeat (first | exact (Kd.R_reads' HO_9.out).2.2 | (with_reducible refine Kd.C_alloc ?_ _) | (with_reducible refine Kd.C_drewN ?_ _) | (with_reducible refine Kd.C_drew ?_))); (case side2 => exact (Kd.R_reads' HO_9.out).2.1); rintro e w' ⟨rfl, ⟨nd, rfl⟩⟩; refine ⟨_, rfl, ?_⟩))
                     go_roundg k4
                     case measure => have := HJ3.out; have := HJ25.out; have := HJ37.out; have := HK4.out; omega
                     case rel => exact ⟨(wrap64 (x17_4 + 1)), rsz, H', ⟨by have := HJ3.out; have := HJ25.out; have := HJ37.out; have := HK4.out; omega⟩, ⟨by (with_reducible repeat (first | apply Kd.R_alloc | apply Kd.R_drewN | apply Kd.R_drew)); exact HO_7.out⟩, ⟨by (with_reducible repeat (first | apply Kd.R_alloc | apply Kd.R_drewN | apply Kd.R_drew)); exact HO_9.out⟩, ⟨bel⟩⟩
                    ·
                     as_aux_lemma =>
                      replace c57 := Bool.eq_false_iff.mpr c57
                      subst c57
                      rw [if_neg (show ¬ (false = true) by decide)] at H
                      exact absurd H (by simp)
                   ·
                    as_aux_lemma =>
                     rw [if_neg c55] at H
                     exact absurd H (by simp)
                  ·
                   as_aux_lemma =>
                    rw [if_neg c54] at H
                    have c54b0 : decide (x17_4 < (t306.length : Int)) = false := decide_eq_false c54
                    clear c54
                    replace H := Option.bind_eq_some_iff.mp H
                    obtain ⟨⟨t326, t327⟩, A600, H⟩ := H
                    try dsimp only at H
                    have A60 := Aside0.mk A600
                    clear A600
                    have HC61 := Aside0.mk H
                    clear H
                    obtain ⟨Ao62, co62, eo62⟩ := Kd.R_slice HO_7.out
                    subst eo62
                    go_upto_if 150 with (first | ((with_reducible refine gate_callee (f := 28) rfl ?_); refine goesL_ (some 146) rfl rfl Try.func28 (by kernel_rfl) rfl #[.string a0] rfl mapz ?_; (with_reducible refine (loop_Dual.calls a0 t326 t327 _ A60.out).mono ?_); rintro e w63 ⟨rfl, hb⟩; refine ⟨_, rfl, ?_⟩; replace HO_7 := Aside0.mk (Kd.R_below (ownx HO_7) hb); replace HO_9 := Aside0.mk (Kd.R_below (ownx HO_9) hb); replace HB := Aside0.mk (below_step bel hb); clear hb))
                    (try simp only [Act.put, List.setIfInBounds_toArray, List.set_cons_zero, List.set_cons_succ])
                    go_cut [] (fun wc => ∃ (kq : Nat), Aside0 (droppertop_TopLoops.j5 kq a0 a1 t306 = some r) ∧ Aside0 (kq ≤ k4) ∧ Aside0 (Kd.R Kd.string 9 wc w.heap.size (fun _ => True) (.slice Ao62 t306.length co62) t306) ∧ Aside0 (Below w.heap.size w wc))
                    case first =>
                     as_aux_lemma =>
                      have H := HC61.out
                      clear HC61
                      by_cases c64 : t327 = 0
                      ·
                       rw [if_pos c64] at H
                       have c64b0 : (t327 == 0) = true := beq_iff_eq.mpr c64
                       have c64b1 : (t327 != 0) = false := bne_eq_false_iff_eq.mpr c64
                       clear c64
                       (first | rw [c64b0] | (simp only [i64_w, i32_w]; rw [c64b0]) | skip)
                       replace H := Option.bind_eq_some_iff.mp H
                       obtain ⟨⟨t328, t329⟩, A650, H⟩ := H
                       try dsimp only at H
                       have A65 := Aside0.mk A650
                       clear A650
                       replace H := Option.bind_eq_some_iff.mp H
                       obtain ⟨⟨t332, t333⟩, A660, H⟩ := H
                       try dsimp only at H
                       have A66 := Aside0.mk A660
                       clear A660
                       have HC67 := Aside0.mk H
                       clear H
                       go_upto_region 21 with (first | ((with_reducible refine gate_callee (f := 16) rfl ?_); refine goesL_ (some 153) rfl rfl Try.func16 (by kernel_rfl) rfl #[.string t326] rfl mapz ?_; (with_reducible refine (loop_Paths.calls t326 t328 t329 _ A65.out).mono ?_); rintro e w68 ⟨v330, rfl, ho0, hb⟩; refine ⟨_, rfl, ?_⟩; have HO331 := Aside0.mk (Kd.R_lower (Kd.R_new' (Kd.R_new' ho0 (Kd.R_lt (ownx HO_7))) (Kd.R_lt (ownx HO_9))) (below_size bel)); replace HO_7 := Aside0.mk (Kd.R_elder' (ownx HO_7) (Kd.R_base ho0) hb); replace HO_9 := Aside0.mk (Kd.R_elder' (ownx HO_9) (Kd.R_base ho0) hb); replace HB := Aside0.mk (below_step bel hb); (try clear hb); (try clear hb2); (try clear hk); (try clear hi); (try clear ho0)) | ((with_reducible refine gate_callee (f := 18) rfl ?_); refine goesL_ (some 158) rfl rfl Try.func18 (by kernel_rfl) rfl #[.string t326] rfl mapz ?_; (with_reducible refine (loop_Cuts.calls t326 t332 t333 _ A66.out).mono ?_); rintro e w69 ⟨v334, rfl, ho0, hb⟩; refine ⟨_, rfl, ?_⟩; have HO335 := Aside0.mk (Kd.R_lower (Kd.R_new' (Kd.R_new' (Kd.R_new' ho0 (Kd.R_lt (ownx HO_7))) (Kd.R_lt (ownx HO_9))) (Kd.R_lt (ownx HO331))) (below_size bel)); replace HO_7 := Aside0.mk (Kd.R_elder' (ownx HO_7) (Kd.R_base ho0) hb); replace HO_9 := Aside0.mk (Kd.R_elder' (ownx HO_9) (Kd.R_base ho0) hb); replace HO331 := Aside0.mk (Kd.R_elder' (ownx HO331) (Kd.R_base ho0) hb); replace HB := Aside0.mk (below_step bel hb); (try clear hb); (try clear hb2); (try clear hk); (try clear hi); (try clear ho0)))
                       (try simp only [Act.put, List.setIfInBounds_toArray, List.set_cons_zero, List.set_cons_succ])
                       go_cut [178] (fun v178 wc => ∃ (kq : Nat) (x178_66 : Bool), v178 = .bool x178_66 ∧ Aside0 (droppertop_TopLoops.j4 kq a0 a1 t306 t326 x178_66 = some r) ∧ Aside0 (kq ≤ k4) ∧ Aside0 (Kd.R Kd.string 9 wc w.heap.size (fun _ => True) (.slice Ao62 t306.length co62) t306) ∧ Aside0 (Below w.heap.size w wc))
                       case first =>
                        as_aux_lemma =>
                         have H := HC67.out
                         clear HC67
                         by_cases c70 : t329 = 0
                         ·
                          rw [if_pos c70] at H
                          have c70b0 : (t329 == 0) = true := beq_iff_eq.mpr c70
                          have c70b1 : (t329 != 0) = false := bne_eq_false_iff_eq.mpr c70
                          clear c70
                          (first | rw [c70b0] | (simp only [i64_w, i32_w]; rw [c70b0]) | skip)
                          by_cases c71 : t333 = 0
                          ·
                           rw [if_pos c71] at H
                           have c71b0 : (t333 == 0) = true := beq_iff_eq.mpr c71
                           have c71b1 : (t333 != 0) = false := bne_eq_false_iff_eq.mpr c71
                           clear c71
                           replace H := Option.bind_eq_some_iff.mp H
                           obtain ⟨t336, A720, H⟩ := H
                           try dsimp only at H
                           have A72 := Aside0.mk A720
                           clear A720
                           by_cases c73 : t336 = true
                           ·
                            subst c73
                            rw [if_pos rfl] at H
                            replace H := Option.bind_eq_some_iff.mp H
                            obtain ⟨t337, A740, H⟩ := H
                            try dsimp only at H
                            have A74 := Aside0.mk A740
                            clear A740
                            have H' := Aside0.mk H
                            clear H
                            obtain ⟨Ao75, co75, eo75⟩ := Kd.R_slice HO331.out
                            subst eo75
                            obtain ⟨Ao76, co76, eo76⟩ := Kd.R_slice HO_9.out
                            subst eo76
                            go_wp2_with (first | (go_at_call 20; (with_reducible refine (dropperlaw09_SameTexts.calls k4 _ _ t328 _ _ t310 true _ ?side1 ?side2 ?side3 ?side4 A72.out).mono ?_); (case side1 => repeat (first | exact (Kd.R_reads' HO331.out).2.2 | (with_reducible refine Kd.C_alloc ?_ _) | (with_reducible refine Kd.C_drewN ?_ _) | (with_reducible refine Kd.C_drew ?_))); (case side2 => exact (Kd.R_reads' HO331.out).2.1); (case side3 => repeat (first | exact (Kd.R_reads' HO_9.out).2.2 | (with_reducible refine Kd.C_alloc ?_ _) | (with_reducible refine Kd.C_drewN ?_ _) | (with_reducible refine Kd.C_drew ?_))); (case side4 => exact (Kd.R_reads' HO_9.out).2.1); rintro e w' ⟨rfl, ⟨nd, rfl⟩⟩; obtain ⟨Ao77, co77, eo77⟩ := Kd.R_slice HO335.out; subst eo77) | (go_at_call 20; (with_reducible refine (dropperlaw09_SameTexts.calls k4 _ _ t332 _ _ t306 t337 _ ?side1 ?side2 ?side3 ?side4 A74.out).mono ?_); (case side1 => repeat (first | exact (Kd.R_reads' HO335.out).2.2 | (with_reducible refine Kd.C_alloc ?_ _) | (with_reducible refine Kd.C_drewN ?_ _) | (with_reducible refine Kd.C_drew ?_))); (case side2 => exact (Kd.R_reads' HO335.out).2.1); (case side3 => repeat (first | exact (Kd.R_reads' HO_7.out).2.2 | (with_reducible refine Kd.C_alloc ?_ _) | (with_reducible refine Kd.C_drewN ?_ _) | (with_reducible refine Kd.C_drew ?_))); (case side4 => exact (Kd.R_reads' HO_7.out).2.1); rintro e w' ⟨rfl, ⟨nd, rfl⟩⟩))
                            go_meet
                            case rel => exact ⟨_, (!t337), rsz, H', ⟨by have := HJ3.out; have := HJ25.out; have := HJ37.out; have := HK4.out; first | omega | exact Nat.le_refl _⟩, ⟨by (with_reducible repeat (first | apply Kd.R_alloc | apply Kd.R_drewN | apply Kd.R_drew)); exact Kd.R_mono HO_7.out (fun _ hk => trivial)⟩, ⟨bel⟩⟩
                           ·
                            as_aux_lemma =>
                             replace c73 := Bool.eq_false_iff.mpr c73
                             subst c73
                             rw [if_neg (show ¬ (false = true) by decide)] at H
                             have H' := Aside0.mk H
                             clear H
                             obtain ⟨Ao78, co78, eo78⟩ := Kd.R_slice HO331.out
                             subst eo78
                             obtain ⟨Ao79, co79, eo79⟩ := Kd.R_slice HO_9.out
                             subst eo79
                             go_wp2_with (first | (go_at_call 20; (with_reducible refine (dropperlaw09_SameTexts.calls k4 _ _ t328 _ _ t310 false _ ?side1 ?side2 ?side3 ?side4 A72.out).mono ?_); (case side1 => repeat (first | exact (Kd.R_reads' HO331.out).2.2 | (with_reducible refine Kd.C_alloc ?_ _) | (with_reducible refine Kd.C_drewN ?_ _) | (with_reducible refine Kd.C_drew ?_))); (case side2 => exact (Kd.R_reads' HO331.out).2.1); (case side3 => repeat (first | exact (Kd.R_reads' HO_9.out).2.2 | (with_reducible refine Kd.C_alloc ?_ _) | (with_reducible refine Kd.C_drewN ?_ _) | (with_reducible refine Kd.C_drew ?_))); (case side4 => exact (Kd.R_reads' HO_9.out).2.1); rintro e w' ⟨rfl, ⟨nd, rfl⟩⟩))
                             go_meet
                             case rel => exact ⟨_, (true), rsz, H', ⟨by have := HJ3.out; have := HJ25.out; have := HJ37.out; have := HK4.out; first | omega | exact Nat.le_refl _⟩, ⟨by (with_reducible repeat (first | apply Kd.R_alloc | apply Kd.R_drewN | apply Kd.R_drew)); exact Kd.R_mono HO_7.out (fun _ hk => trivial)⟩, ⟨bel⟩⟩
                          ·
                           as_aux_lemma =>
                            rw [if_neg c71] at H
                            have c71b0 : (t333 == 0) = false := beq_eq_false_iff_ne.mpr c71
                            have c71b1 : (t333 != 0) = true := bne_iff_ne.mpr c71
                            have H' := Aside0.mk H
                            clear H
                            go_wp2
                            go_meet
                            case rel => exact ⟨_, (true), rsz, H', ⟨by have := HJ3.out; have := HJ25.out; have := HJ37.out; have := HK4.out; first | omega | exact Nat.le_refl _⟩, ⟨by (with_reducible repeat (first | apply Kd.R_alloc | apply Kd.R_drewN | apply Kd.R_drew)); exact Kd.R_mono HO_7.out (fun _ hk => trivial)⟩, ⟨bel⟩⟩
                         ·
                          as_aux_lemma =>
                           rw [if_neg c70] at H
                           have c70b0 : (t329 == 0) = false := beq_eq_false_iff_ne.mpr c70
                           have c70b1 : (t329 != 0) = true := bne_iff_ne.mpr c70
                           (first | rw [c70b0] | (simp only [i64_w, i32_w]; rw [c70b0]) | skip)
                           have H' := Aside0.mk H
                           clear H
                           go_wp2
                           go_meet
                           case rel => exact ⟨_, (true), rsz, H', ⟨by have := HJ3.out; have := HJ25.out; have := HJ37.out; have := HK4.out; first | omega | exact Nat.le_refl _⟩, ⟨by (with_reducible repeat (first | apply Kd.R_alloc | apply Kd.R_drewN | apply Kd.R_drew)); exact Kd.R_mono HO_7.out (fun _ hk => trivial)⟩, ⟨bel⟩⟩
                       case rest =>
                        as_aux_lemma =>
                         clear HC67
                         (try clear c1); (try clear c2); (try clear p2); (try clear c3); (try clear p3); (try clear q3); (try clear hx3); (try clear c4); (try clear c5); (try clear c6); (try clear p6); (try clear c7); (try clear c7b0); (try clear c7b1); (try clear c9); (try clear c11); (try clear c14); (try clear c15); (try clear c16); (try clear c18); (try clear c23); (try clear c24); (try clear c25); (try clear c26); (try clear c27); (try clear c28); (try clear c32); (try clear c32b0); (try clear c32b1); (try clear p32); (try clear q32); (try clear hx32); (try clear c33); (try clear c33b0); (try clear c33b1); (try clear c34); (try clear c34b0); (try clear c34b1); (try clear c35); (try clear c35b0); (try clear c35b1); (try clear c36); (try clear c36b0); (try clear c36b1); (try clear c37); (try clear c40); (try clear c40b0); (try clear c40b1); (try clear c40b2); (try clear c43); (try clear c43b0); (try clear c43b1); (try clear c43b2); (try clear c47); (try clear c47b0); (try clear c47b1); (try clear c47b2); (try clear c53); (try clear c54); (try clear c54b0); (try clear c55); (try clear c55b0); (try clear c57); (try clear c64); (try clear c64b0); (try clear c64b1); (try clear p64); (try clear c70); (try clear c70b0); (try clear c70b1); (try clear c71); (try clear c71b0); (try clear c71b1); (try clear c73); (try clear hx324_0); (try clear p2); (try clear p324); (try clear q324)
                         obtain ⟨kq, x178_66, rfl, HA, HJ66, HO_7, HB⟩ := hcut
                         cases kq with
                         | zero => exact absurd HA.out (by simp [droppertop_TopLoops.j4])
                         | succ kj66 =>
                          have H := HA.out
                          clear HA
                          simp only [droppertop_TopLoops.j4] at H
                          by_cases c80 : x178_66 = true
                          ·
                           subst c80
                           rw [if_pos rfl] at H
                           exact absurd H (by simp)
                          ·
                           as_aux_lemma =>
                            replace c80 := Bool.eq_false_iff.mpr c80
                            subst c80
                            rw [if_neg (show ¬ (false = true) by decide)] at H
                            replace H := Option.bind_eq_some_iff.mp H
                            obtain ⟨⟨t338, t339⟩, A810, H⟩ := H
                            try dsimp only at H
                            have A81 := Aside0.mk A810
                            clear A810
                            by_cases c82 : t339 = 0
                            ·
                             rw [if_pos c82] at H
                             have c82b0 : (t339 == 0) = true := beq_iff_eq.mpr c82
                             have c82b1 : (t339 != 0) = false := bne_eq_false_iff_eq.mpr c82
                             clear c82
                             replace H := Option.bind_eq_some_iff.mp H
                             obtain ⟨⟨t340, t341⟩, A830, H⟩ := H
                             try dsimp only at H
                             have A83 := Aside0.mk A830
                             clear A830
                             by_cases c84 : t341 = 0
                             ·
                              rw [if_pos c84] at H
                              have c84b0 : (t341 == 0) = true := beq_iff_eq.mpr c84
                              have c84b1 : (t341 != 0) = false := bne_eq_false_iff_eq.mpr c84
                              clear c84
                              by_cases c85 : t340 = true
                              ·
                               subst c85
                               rw [if_pos rfl] at H
                               have H' := Aside0.mk H
                               clear H
                               go_wp2_with (first | ((with_reducible refine gate_callee (f := 28) rfl ?_); refine goesL_ (some 181) rfl rfl Try.func28 (by kernel_rfl) rfl #[.string t326] rfl mapz ?_; (with_reducible refine (loop_Dual.calls t326 t338 t339 _ A81.out).mono ?_); rintro e w86 ⟨rfl, hb⟩; refine ⟨_, rfl, ?_⟩; replace HO_7 := Aside0.mk (Kd.R_below (ownx HO_7) hb); replace HB := Aside0.mk (below_step bel hb); clear hb) | ((with_reducible refine gate_callee (f := 29) rfl ?_); refine goesL_ (some 189) rfl rfl Try.func29 (by kernel_rfl) rfl #[.string t338, .string a0] rfl mapz ?_; (with_reducible refine (loop_Same.calls t338 a0 true t341 _ A83.out).mono ?_); rintro e w87 ⟨rfl, hb⟩; refine ⟨_, rfl, ?_⟩; replace HO_7 := Aside0.mk (Kd.R_below (ownx HO_7) hb); replace HB := Aside0.mk (below_step bel hb); clear hb))
                               go_meet
                               case rel => exact ⟨_, H', ⟨by have := HJ3.out; have := HJ25.out; have := HJ37.out; have := HK4.out; have := HJ66.out; first | omega | exact Nat.le_refl _⟩, ⟨by (with_reducible repeat (first | apply Kd.R_alloc | apply Kd.R_drewN | apply Kd.R_drew)); exact HO_7.out⟩, ⟨bel⟩⟩
                              ·
                               as_aux_lemma =>
                                replace c85 := Bool.eq_false_iff.mpr c85
                                subst c85
                                rw [if_neg (show ¬ (false = true) by decide)] at H
                                exact absurd H (by simp)
                             ·
                              as_aux_lemma =>
                               rw [if_neg c84] at H
                               exact absurd H (by simp)
                            ·
                             as_aux_lemma =>
                              rw [if_neg c82] at H
                              have c82b0 : (t339 == 0) = false := beq_eq_false_iff_ne.mpr c82
                              have c82b1 : (t339 != 0) = true := bne_iff_ne.mpr c82
                              by_cases c88 : t339 = 4
                              ·
                               rw [if_pos c88] at H
                               have c88b0 : (t339 == 4) = true := beq_iff_eq.mpr c88
                               have c88b1 : (t339 != 4) = false := bne_eq_false_iff_eq.mpr c88
                               clear c88
                               have H' := Aside0.mk H
                               clear H
                               go_wp2_with (first | ((with_reducible refine gate_callee (f := 28) rfl ?_); refine goesL_ (some 181) rfl rfl Try.func28 (by kernel_rfl) rfl #[.string t326] rfl mapz ?_; (with_reducible refine (loop_Dual.calls t326 t338 t339 _ A81.out).mono ?_); rintro e w89 ⟨rfl, hb⟩; refine ⟨_, rfl, ?_⟩; replace HO_7 := Aside0.mk (Kd.R_below (ownx HO_7) hb); replace HB := Aside0.mk (below_step bel hb); clear hb))
                               go_meet
                               case rel => exact ⟨_, H', ⟨by have := HJ3.out; have := HJ25.out; have := HJ37.out; have := HK4.out; have := HJ66.out; first | omega | exact Nat.le_refl _⟩, ⟨by (with_reducible repeat (first | apply Kd.R_alloc | apply Kd.R_drewN | apply Kd.R_drew)); exact HO_7.out⟩, ⟨bel⟩⟩
                              ·
                               as_aux_lemma =>
                                rw [if_neg c88] at H
                                exact absurd H (by simp)
                      ·
                       as_aux_lemma =>
                        rw [if_neg c64] at H
                        have c64b0 : (t327 == 0) = false := beq_eq_false_iff_ne.mpr c64
                        have c64b1 : (t327 != 0) = true := bne_iff_ne.mpr c64
                        (first | rw [c64b0] | (simp only [i64_w, i32_w]; rw [c64b0]) | skip)
                        by_cases c90 : t327 = 4
                        ·
                         rw [if_pos c90] at H
                         have c90b0 : (t327 == 4) = true := beq_iff_eq.mpr c90
                         have c90b1 : (t327 != 4) = false := bne_eq_false_iff_eq.mpr c90
                         clear c90
                         have H' := Aside0.mk H
                         clear H
                         go_wp2
                         go_meet
                         case rel => exact ⟨_, H', ⟨by have := HJ3.out; have := HJ25.out; have := HJ37.out; have := HK4.out; first | omega | exact Nat.le_refl _⟩, ⟨by (with_reducible repeat (first | apply Kd.R_alloc | apply Kd.R_drewN | apply Kd.R_drew)); exact Kd.R_mono HO_7.out (fun _ hk => trivial)⟩, ⟨bel⟩⟩
                        ·
                         as_aux_lemma =>
                          rw [if_neg c90] at H
                          exact absurd H (by simp)
                    case rest =>
                     as_aux_lemma =>
                      clear HC61
                      (try clear c1); (try clear c2); (try clear p2); (try clear c3); (try clear p3); (try clear q3); (try clear hx3); (try clear c4); (try clear c5); (try clear c6); (try clear p6); (try clear c7); (try clear c7b0); (try clear c7b1); (try clear c8); (try clear c9); (try clear c11); (try clear c14); (try clear c15); (try clear c16); (try clear c18); (try clear c23); (try clear c24); (try clear c25); (try clear c26); (try clear c27); (try clear c28); (try clear c29); (try clear c32); (try clear c32b0); (try clear c32b1); (try clear p32); (try clear q32); (try clear hx32); (try clear c33); (try clear c33b0); (try clear c33b1); (try clear c34); (try clear c34b0); (try clear c34b1); (try clear c35); (try clear c35b0); (try clear c35b1); (try clear c36); (try clear c36b0); (try clear c36b1); (try clear c37); (try clear c40); (try clear c40b0); (try clear c40b1); (try clear c40b2); (try clear c43); (try clear c43b0); (try clear c43b1); (try clear c43b2); (try clear c47); (try clear c47b0); (try clear c47b1); (try clear c47b2); (try clear c53); (try clear c54); (try clear c54b0); (try clear c55); (try clear c55b0); (try clear c57); (try clear c64); (try clear c64b0); (try clear c64b1); (try clear p64); (try clear c70); (try clear c70b0); (try clear c70b1); (try clear c71); (try clear c71b0); (try clear c71b1); (try clear c73); (try clear c80); (try clear c82); (try clear c82b0); (try clear c82b1); (try clear c84); (try clear c84b0); (try clear c84b1); (try clear c85); (try clear c88); (try clear c88b0); (try clear c88b1); (try clear c90); (try clear c90b0); (try clear c90b1); (try clear hx324_0); (try clear p2); (try clear p3); (try clear p32); (try clear p324); (try clear p6); (try clear p64); (try clear q3); (try clear q32); (try clear q324)
                      obtain ⟨kq, HA, HJ60, HO_7, HB⟩ := hcut
                      cases kq with
                      | zero => exact absurd HA.out (by simp [droppertop_TopLoops.j5])
                      | succ kj60 =>
                       have H := HA.out
                       clear HA
                       simp only [droppertop_TopLoops.j5] at H
                       replace H := Option.bind_eq_some_iff.mp H
                       obtain ⟨⟨t342, t343⟩, A910, H⟩ := H
                       try dsimp only at H
                       have A91 := Aside0.mk A910
                       clear A910
                       replace H := Option.bind_eq_some_iff.mp H
                       obtain ⟨⟨t346, t347⟩, A920, H⟩ := H
                       try dsimp only at H
                       have A92 := Aside0.mk A920
                       clear A920
                       replace H := Option.bind_eq_some_iff.mp H
                       obtain ⟨⟨t348, t349⟩, A930, H⟩ := H
                       try dsimp only at H
                       have A93 := Aside0.mk A930
                       clear A930
                       replace H := Option.bind_eq_some_iff.mp H
                       obtain ⟨⟨t350, t351⟩, A940, H⟩ := H
                       try dsimp only at H
                       have A94 := Aside0.mk A940
                       clear A940
                       replace H := Option.bind_eq_some_iff.mp H
                       obtain ⟨⟨t352, t353⟩, A950, H⟩ := H
                       try dsimp only at H
                       have A95 := Aside0.mk A950
                       clear A950
                       by_cases c96 : t343 = 0
                       ·
                        rw [if_pos c96] at H
                        have c96b0 : (t343 == 0) = true := beq_iff_eq.mpr c96
                        have c96b1 : (t343 != 0) = false := bne_eq_false_iff_eq.mpr c96
                        clear c96
                        by_cases c97 : t347 = 0
                        ·
                         rw [if_pos c97] at H
                         have c97b0 : (t347 == 0) = true := beq_iff_eq.mpr c97
                         have c97b1 : (t347 != 0) = false := bne_eq_false_iff_eq.mpr c97
                         clear c97
                         by_cases c98 : t349 = 0
                         ·
                          rw [if_pos c98] at H
                          have c98b0 : (t349 == 0) = true := beq_iff_eq.mpr c98
                          have c98b1 : (t349 != 0) = false := bne_eq_false_iff_eq.mpr c98
                          clear c98
                          by_cases c99 : t351 = 0
                          ·
                           rw [if_pos c99] at H
                           have c99b0 : (t351 == 0) = true := beq_iff_eq.mpr c99
                           have c99b1 : (t351 != 0) = false := bne_eq_false_iff_eq.mpr c99
                           clear c99
                           by_cases c100 : t353 = 0
                           ·
                            rw [if_pos c100] at H
                            have c100b0 : (t353 == 0) = true := beq_iff_eq.mpr c100
                            have c100b1 : (t353 != 0) = false := bne_eq_false_iff_eq.mpr c100
                            clear c100
                            replace H := Option.bind_eq_some_iff.mp H
                            obtain ⟨t354, A1010, H⟩ := H
                            try dsimp only at H
                            have A101 := Aside0.mk A1010
                            clear A1010
                            by_cases c102 : (t346 == t354) = true
                            ·
                             rw [if_pos c102] at H
                             have c102b0 : (t346 == t354) = true := c102
                             (try (have c102b1 : decide (t346 = t354) = true := by simpa using c102))
                             (try (have c102b2 : (t346 == t354) = true := by simpa using c102))
                             clear c102
                             by_cases c103 : (t346 == (t349 == 5)) = true
                             ·
                              rw [if_pos c103] at H
                              have c103b0 : (t346 == (t349 == 5)) = true := c103
                              (try (have c103b1 : decide (t346 = (t349 == 5)) = true := by simpa using c103))
                              (try (have c103b2 : (t346 == (t349 == 5)) = true := by simpa using c103))
                              clear c103
                              by_cases c104 : t350 = true
                              ·
                               subst c104
                               rw [if_pos rfl] at H
                               by_cases c105 : (t346 == t352) = true
                               ·
                                rw [if_pos c105] at H
                                have c105b0 : (t346 == t352) = true := c105
                                (try (have c105b1 : decide (t346 = t352) = true := by simpa using c105))
                                (try (have c105b2 : (t346 == t352) = true := by simpa using c105))
                                clear c105
                                replace H := Option.bind_eq_some_iff.mp H
                                obtain ⟨t355, A1060, H⟩ := H
                                try dsimp only at H
                                have A106 := Aside0.mk A1060
                                clear A1060
                                obtain rfl := Option.some.inj H
                                go_wp2_with (first | ((with_reducible refine gate_callee (f := 16) rfl ?_); refine goesL_ (some 204) rfl rfl Try.func16 (by kernel_rfl) rfl #[.string a1] rfl mapz ?_; (with_reducible refine (loop_Paths.calls a1 t342 t343 _ A91.out).mono ?_); rintro e w107 ⟨v344, rfl, ho0, hb⟩; refine ⟨_, rfl, ?_⟩; have HO345 := Aside0.mk (Kd.R_lower (Kd.R_new' ho0 (Kd.R_lt (ownx HO_7))) (below_size bel)); replace HO_7 := Aside0.mk (Kd.R_elder' (ownx HO_7) (Kd.R_base ho0) hb); replace HB := Aside0.mk (below_step bel hb); (try clear hb); (try clear hb2); (try clear hk); (try clear hi); (try clear ho0)) | ((with_reducible refine gate_callee (f := 29) rfl ?_); refine goesL_ (some 210) rfl rfl Try.func29 (by kernel_rfl) rfl #[.string a0, .string a1] rfl mapz ?_; (with_reducible refine (loop_Same.calls a0 a1 t346 t347 _ A92.out).mono ?_); rintro e w108 ⟨rfl, hb⟩; refine ⟨_, rfl, ?_⟩; replace HO_7 := Aside0.mk (Kd.R_below (ownx HO_7) hb); replace HO345 := Aside0.mk (Kd.R_below (ownx HO345) hb); replace HB := Aside0.mk (below_step bel hb); clear hb) | ((with_reducible refine gate_callee (f := 30) rfl ?_); refine goesL_ (some 216) rfl rfl Try.func30 (by kernel_rfl) rfl #[.string a0, .string a1] rfl mapz ?_; (with_reducible refine (loop_Differ.calls a0 a1 t348 t349 _ A93.out).mono ?_); rintro e w109 ⟨rfl, hb⟩; refine ⟨_, rfl, ?_⟩; replace HO_7 := Aside0.mk (Kd.R_below (ownx HO_7) hb); replace HO345 := Aside0.mk (Kd.R_below (ownx HO345) hb); replace HB := Aside0.mk (below_step bel hb); clear hb) | ((with_reducible refine gate_callee (f := 31) rfl ?_); refine goesL_ (some 222) rfl rfl Try.func31 (by kernel_rfl) rfl #[.string a0, .string a1] rfl mapz ?_; (with_reducible refine (loop_Within.calls a0 a1 true t351 _ A94.out).mono ?_); rintro e w110 ⟨rfl, hb⟩; refine ⟨_, rfl, ?_⟩; replace HO_7 := Aside0.mk (Kd.R_below (ownx HO_7) hb); replace HO345 := Aside0.mk (Kd.R_below (ownx HO345) hb); replace HB := Aside0.mk (below_step bel hb); clear hb) | ((with_reducible refine gate_callee (f := 31) rfl ?_); refine goesL_ (some 228) rfl rfl Try.func31 (by kernel_rfl) rfl #[.string a1, .string a0] rfl mapz ?_; (with_reducible refine (loop_Within.calls a1 a0 t352 t353 _ A95.out).mono ?_); rintro e w111 ⟨rfl, hb⟩; refine ⟨_, rfl, ?_⟩; replace HO_7 := Aside0.mk (Kd.R_below (ownx HO_7) hb); replace HO345 := Aside0.mk (Kd.R_below (ownx HO345) hb); replace HB := Aside0.mk (below_step bel hb); clear hb; obtain ⟨Ao112, co112, eo112⟩ := Kd.R_slice HO345.out; subst eo112) | (go_at_call 20; (with_reducible refine (dropperlaw09_SameTexts.calls kj60 _ _ t306 _ _ t342 t354 _ ?side1 ?side2 ?side3 ?side4 A101.out).mono ?_); (case side1 => repeat (first | exact (Kd.R_reads' HO_7.out).2.2 | (with_reducible refine Kd.C_alloc ?_ _) | (with_reducible refine Kd.C_drewN ?_ _) | (with_reducible refine Kd.C_drew ?_))); (case side2 => exact (Kd.R_reads' HO_7.out).2.1); (case side3 => repeat (first | exact (Kd.R_reads' HO345.out).2.2 | (with_reducible refine Kd.C_alloc ?_ _) | (with_reducible refine Kd.C_drewN ?_ _) | (with_reducible refine Kd.C_drew ?_))); (case side4 => exact (Kd.R_reads' HO345.out).2.1); rintro e w' ⟨rfl, ⟨nd, rfl⟩⟩) | (go_at_call 15; (with_reducible refine (dropperlaw09_First.calls kj60  t355 _ A106.out).mono ?_); rintro e w113 ⟨rfl, hb⟩; replace HO_7 := Aside0.mk (Kd.R_below (ownx HO_7) hb); replace HO345 := Aside0.mk (Kd.R_below (ownx HO345) hb); replace HB := Aside0.mk (below_step bel hb); clear hb))
                                go_ret
                                exact ⟨ezz, bel⟩
                               ·
                                as_aux_lemma =>
                                 rw [if_neg c105] at H
                                 exact absurd H (by simp)
                              ·
                               as_aux_lemma =>
                                replace c104 := Bool.eq_false_iff.mpr c104
                                subst c104
                                rw [if_neg (show ¬ (false = true) by decide)] at H
                                by_cases c114 : (t346 == false) = true
                                ·
                                 rw [if_pos c114] at H
                                 have c114b0 : (t346 == false) = true := c114
                                 (try (have c114b1 : decide (t346 = false) = true := by simpa using c114))
                                 (try (have c114b2 : (t346 == false) = true := by simpa using c114))
                                 clear c114
                                 replace H := Option.bind_eq_some_iff.mp H
                                 obtain ⟨t356, A1150, H⟩ := H
                                 try dsimp only at H
                                 have A115 := Aside0.mk A1150
                                 clear A1150
                                 obtain rfl := Option.some.inj H
                                 go_wp2_with (first | ((with_reducible refine gate_callee (f := 16) rfl ?_); refine goesL_ (some 204) rfl rfl Try.func16 (by kernel_rfl) rfl #[.string a1] rfl mapz ?_; (with_reducible refine (loop_Paths.calls a1 t342 t343 _ A91.out).mono ?_); rintro e w116 ⟨v344, rfl, ho0, hb⟩; refine ⟨_, rfl, ?_⟩; have HO345 := Aside0.mk (Kd.R_lower (Kd.R_new' ho0 (Kd.R_lt (ownx HO_7))) (below_size bel)); replace HO_7 := Aside0.mk (Kd.R_elder' (ownx HO_7) (Kd.R_base ho0) hb); replace HB := Aside0.mk (below_step bel hb); (try clear hb); (try clear hb2); (try clear hk); (try clear hi); (try clear ho0)) | ((with_reducible refine gate_callee (f := 29) rfl ?_); refine goesL_ (some 210) rfl rfl Try.func29 (by kernel_rfl) rfl #[.string a0, .string a1] rfl mapz ?_; (with_reducible refine (loop_Same.calls a0 a1 t346 t347 _ A92.out).mono ?_); rintro e w117 ⟨rfl, hb⟩; refine ⟨_, rfl, ?_⟩; replace HO_7 := Aside0.mk (Kd.R_below (ownx HO_7) hb); replace HO345 := Aside0.mk (Kd.R_below (ownx HO345) hb); replace HB := Aside0.mk (below_step bel hb); clear hb) | ((with_reducible refine gate_callee (f := 30) rfl ?_); refine goesL_ (some 216) rfl rfl Try.func30 (by kernel_rfl) rfl #[.string a0, .string a1] rfl mapz ?_; (with_reducible refine (loop_Differ.calls a0 a1 t348 t349 _ A93.out).mono ?_); rintro e w118 ⟨rfl, hb⟩; refine ⟨_, rfl, ?_⟩; replace HO_7 := Aside0.mk (Kd.R_below (ownx HO_7) hb); replace HO345 := Aside0.mk (Kd.R_below (ownx HO345) hb); replace HB := Aside0.mk (below_step bel hb); clear hb) | ((with_reducible refine gate_callee (f := 31) rfl ?_); refine goesL_ (some 222) rfl rfl Try.func31 (by kernel_rfl) rfl #[.string a0, .string a1] rfl mapz ?_; (with_reducible refine (loop_Within.calls a0 a1 false t351 _ A94.out).mono ?_); rintro e w119 ⟨rfl, hb⟩; refine ⟨_, rfl, ?_⟩; replace HO_7 := Aside0.mk (Kd.R_below (ownx HO_7) hb); replace HO345 := Aside0.mk (Kd.R_below (ownx HO345) hb); replace HB := Aside0.mk (below_step bel hb); clear hb) | ((with_reducible refine gate_callee (f := 31) rfl ?_); refine goesL_ (some 228) rfl rfl Try.func31 (by kernel_rfl) rfl #[.string a1, .string a0] rfl mapz ?_; (with_reducible refine (loop_Within.calls a1 a0 t352 t353 _ A95.out).mono ?_); rintro e w120 ⟨rfl, hb⟩; refine ⟨_, rfl, ?_⟩; replace HO_7 := Aside0.mk (Kd.R_below (ownx HO_7) hb); replace HO345 := Aside0.mk (Kd.R_below (ownx HO345) hb); replace HB := Aside0.mk (below_step bel hb); clear hb; obtain ⟨Ao121, co121, eo121⟩ := Kd.R_slice HO345.out; subst eo121) | (go_at_call 20; (with_reducible refine (dropperlaw09_SameTexts.calls kj60 _ _ t306 _ _ t342 t354 _ ?side1 ?side2 ?side3 ?side4 A101.out).mono ?_); (case side1 => repeat (first | exact (Kd.R_reads' HO_7.out).2.2 | (with_reducible refine Kd.C_alloc ?_ _) | (with_reducible refine Kd.C_drewN ?_ _) | (with_reducible refine Kd.C_drew ?_))); (case side2 => exact (Kd.R_reads' HO_7.out).2.1); (case side3 => repeat (first | exact (Kd.R_reads' HO345.out).2.2 | (with_reducible refine Kd.C_alloc ?_ _) | (with_reducible refine Kd.C_drewN ?_ _) | (with_reducible refine Kd.C_drew ?_))); (case side4 => exact (Kd.R_reads' HO345.out).2.1); rintro e w' ⟨rfl, ⟨nd, rfl⟩⟩) | (go_at_call 15; (with_reducible refine (dropperlaw09_First.calls kj60  t356 _ A115.out).mono ?_); rintro e w122 ⟨rfl, hb⟩; replace HO_7 := Aside0.mk (Kd.R_below (ownx HO_7) hb); replace HO345 := Aside0.mk (Kd.R_below (ownx HO345) hb); replace HB := Aside0.mk (below_step bel hb); clear hb))
                                 go_ret
                                 exact ⟨ezz, bel⟩
                                ·
                                 as_aux_lemma =>
                                  rw [if_neg c114] at H
                                  exact absurd H (by simp)
                             ·
                              as_aux_lemma =>
                               rw [if_neg c103] at H
                               exact absurd H (by simp)
                            ·
                             as_aux_lemma =>
                              rw [if_neg c102] at H
                              exact absurd H (by simp)
                           ·
                            as_aux_lemma =>
                             rw [if_neg c100] at H
                             exact absurd H (by simp)
                          ·
                           as_aux_lemma =>
                            rw [if_neg c99] at H
                            exact absurd H (by simp)
                         ·
                          as_aux_lemma =>
                           rw [if_neg c98] at H
                           have c98b0 : (t349 == 0) = false := beq_eq_false_iff_ne.mpr c98
                           have c98b1 : (t349 != 0) = true := bne_iff_ne.mpr c98
                           by_cases c123 : t349 = 5
                           ·
                            rw [if_pos c123] at H
                            have c123b0 : (t349 == 5) = true := beq_iff_eq.mpr c123
                            have c123b1 : (t349 != 5) = false := bne_eq_false_iff_eq.mpr c123
                            clear c123
                            by_cases c124 : t351 = 0
                            ·
                             rw [if_pos c124] at H
                             have c124b0 : (t351 == 0) = true := beq_iff_eq.mpr c124
                             have c124b1 : (t351 != 0) = false := bne_eq_false_iff_eq.mpr c124
                             clear c124
                             by_cases c125 : t353 = 0
                             ·
                              rw [if_pos c125] at H
                              have c125b0 : (t353 == 0) = true := beq_iff_eq.mpr c125
                              have c125b1 : (t353 != 0) = false := bne_eq_false_iff_eq.mpr c125
                              clear c125
                              replace H := Option.bind_eq_some_iff.mp H
                              obtain ⟨t357, A1260, H⟩ := H
                              try dsimp only at H
                              have A126 := Aside0.mk A1260
                              clear A1260
                              by_cases c127 : (t346 == t357) = true
                              ·
                               rw [if_pos c127] at H
                               have c127b0 : (t346 == t357) = true := c127
                               (try (have c127b1 : decide (t346 = t357) = true := by simpa using c127))
                               (try (have c127b2 : (t346 == t357) = true := by simpa using c127))
                               clear c127
                               by_cases c128 : (t346 == (t349 == 5)) = true
                               ·
                                rw [if_pos c128] at H
                                have c128b0 : (t346 == (t349 == 5)) = true := c128
                                (try (have c128b1 : decide (t346 = (t349 == 5)) = true := by simpa using c128))
                                (try (have c128b2 : (t346 == (t349 == 5)) = true := by simpa using c128))
                                clear c128
                                have c128b3 : t346 = true := by simpa [c123b0] using c128b0
                                have c127b3 : t357 = true := by simpa [c128b3] using c127b0
                                by_cases c129 : t350 = true
                                ·
                                 subst c129
                                 rw [if_pos rfl] at H
                                 by_cases c130 : (t346 == t352) = true
                                 ·
                                  rw [if_pos c130] at H
                                  have c130b0 : (t346 == t352) = true := c130
                                  (try (have c130b1 : decide (t346 = t352) = true := by simpa using c130))
                                  (try (have c130b2 : (t346 == t352) = true := by simpa using c130))
                                  clear c130
                                  have c130b3 : t352 = true := by simpa [c128b3] using c130b0
                                  replace H := Option.bind_eq_some_iff.mp H
                                  obtain ⟨t358, A1310, H⟩ := H
                                  try dsimp only at H
                                  have A131 := Aside0.mk A1310
                                  clear A1310
                                  obtain rfl := Option.some.inj H
                                  go_wp2_with (first | ((with_reducible refine gate_callee (f := 16) rfl ?_); refine goesL_ (some 204) rfl rfl Try.func16 (by kernel_rfl) rfl #[.string a1] rfl mapz ?_; (with_reducible refine (loop_Paths.calls a1 t342 t343 _ A91.out).mono ?_); rintro e w132 ⟨v344, rfl, ho0, hb⟩; refine ⟨_, rfl, ?_⟩; have HO345 := Aside0.mk (Kd.R_lower (Kd.R_new' ho0 (Kd.R_lt (ownx HO_7))) (below_size bel)); replace HO_7 := Aside0.mk (Kd.R_elder' (ownx HO_7) (Kd.R_base ho0) hb); replace HB := Aside0.mk (below_step bel hb); (try clear hb); (try clear hb2); (try clear hk); (try clear hi); (try clear ho0)) | ((with_reducible refine gate_callee (f := 29) rfl ?_); refine goesL_ (some 210) rfl rfl Try.func29 (by kernel_rfl) rfl #[.string a0, .string a1] rfl mapz ?_; (with_reducible refine (loop_Same.calls a0 a1 t346 t347 _ A92.out).mono ?_); rintro e w133 ⟨rfl, hb⟩; refine ⟨_, rfl, ?_⟩; replace HO_7 := Aside0.mk (Kd.R_below (ownx HO_7) hb); replace HO345 := Aside0.mk (Kd.R_below (ownx HO345) hb); replace HB := Aside0.mk (below_step bel hb); clear hb) | ((with_reducible refine gate_callee (f := 30) rfl ?_); refine goesL_ (some 216) rfl rfl Try.func30 (by kernel_rfl) rfl #[.string a0, .string a1] rfl mapz ?_; (with_reducible refine (loop_Differ.calls a0 a1 t348 t349 _ A93.out).mono ?_); rintro e w134 ⟨rfl, hb⟩; refine ⟨_, rfl, ?_⟩; replace HO_7 := Aside0.mk (Kd.R_below (ownx HO_7) hb); replace HO345 := Aside0.mk (Kd.R_below (ownx HO345) hb); replace HB := Aside0.mk (below_step bel hb); clear hb) | ((with_reducible refine gate_callee (f := 31) rfl ?_); refine goesL_ (some 222) rfl rfl Try.func31 (by kernel_rfl) rfl #[.string a0, .string a1] rfl mapz ?_; (with_reducible refine (loop_Within.calls a0 a1 true t351 _ A94.out).mono ?_); rintro e w135 ⟨rfl, hb⟩; refine ⟨_, rfl, ?_⟩; replace HO_7 := Aside0.mk (Kd.R_below (ownx HO_7) hb); replace HO345 := Aside0.mk (Kd.R_below (ownx HO345) hb); replace HB := Aside0.mk (below_step bel hb); clear hb) | ((with_reducible refine gate_callee (f := 31) rfl ?_); refine goesL_ (some 228) rfl rfl Try.func31 (by kernel_rfl) rfl #[.string a1, .string a0] rfl mapz ?_; (with_reducible refine (loop_Within.calls a1 a0 t352 t353 _ A95.out).mono ?_); rintro e w136 ⟨rfl, hb⟩; refine ⟨_, rfl, ?_⟩; replace HO_7 := Aside0.mk (Kd.R_below (ownx HO_7) hb); replace HO345 := Aside0.mk (Kd.R_below (ownx HO345) hb); replace HB := Aside0.mk (below_step bel hb); clear hb; obtain ⟨Ao137, co137, eo137⟩ := Kd.R_slice HO345.out; subst eo137) | (go_at_call 20; (with_reducible refine (dropperlaw09_SameTexts.calls kj60 _ _ t306 _ _ t342 t357 _ ?side1 ?side2 ?side3 ?side4 A126.out).mono ?_); (case side1 => repeat (first | exact (Kd.R_reads' HO_7.out).2.2 | (with_reducible refine Kd.C_alloc ?_ _) | (with_reducible refine Kd.C_drewN ?_ _) | (with_reducible refine Kd.C_drew ?_))); (case side2 => exact (Kd.R_reads' HO_7.out).2.1); (case side3 => repeat (first | exact (Kd.R_reads' HO345.out).2.2 | (with_reducible refine Kd.C_alloc ?_ _) | (with_reducible refine Kd.C_drewN ?_ _) | (with_reducible refine Kd.C_drew ?_))); (case side4 => exact (Kd.R_reads' HO345.out).2.1); rintro e w' ⟨rfl, ⟨nd, rfl⟩⟩) | (go_at_call 15; (with_reducible refine (dropperlaw09_First.calls kj60  t358 _ A131.out).mono ?_); rintro e w138 ⟨rfl, hb⟩; replace HO_7 := Aside0.mk (Kd.R_below (ownx HO_7) hb); replace HO345 := Aside0.mk (Kd.R_below (ownx HO345) hb); replace HB := Aside0.mk (below_step bel hb); clear hb))
                                  go_ret
                                  exact ⟨ezz, bel⟩
                                 ·
                                  as_aux_lemma =>
                                   rw [if_neg c130] at H
                                   exact absurd H (by simp)
                                ·
                                 as_aux_lemma =>
                                  replace c129 := Bool.eq_false_iff.mpr c129
                                  subst c129
                                  rw [if_neg (show ¬ (false = true) by decide)] at H
                                  by_cases c139 : (t346 == false) = true
                                  ·
                                   exact absurd c139 (by rw [c128b3]; decide)
                                  ·
                                   as_aux_lemma =>
                                    rw [if_neg c139] at H
                                    exact absurd H (by simp)
                               ·
                                as_aux_lemma =>
                                 rw [if_neg c128] at H
                                 exact absurd H (by simp)
                              ·
                               as_aux_lemma =>
                                rw [if_neg c127] at H
                                exact absurd H (by simp)
                             ·
                              as_aux_lemma =>
                               rw [if_neg c125] at H
                               exact absurd H (by simp)
                            ·
                             as_aux_lemma =>
                              rw [if_neg c124] at H
                              exact absurd H (by simp)
                           ·
                            as_aux_lemma =>
                             rw [if_neg c123] at H
                             exact absurd H (by simp)
                        ·
                         as_aux_lemma =>
                          rw [if_neg c97] at H
                          exact absurd H (by simp)
                       ·
                        as_aux_lemma =>
                         rw [if_neg c96] at H
                         exact absurd H (by simp)

end Go.Proofs.Yteikgnaikeleaaa.XLoop
-- Written by wip/xprint.py of this repo, over the kit's print.py: out of the translation; the oracles in it are by hand. Not trusted: Lean checks it.
namespace Go.Proofs.Yteikgnaikeleaaa.XLoop
open Go.RowKit Go.Proofs.Yteikgnaikeleaaa.XLoop Go.Proofs.YteikgnaikeleaaaW.PrintWords Go.Proofs.YteikgnaikeleaaaW.PrintLast Go.Proofs.YteikgnaikeleaaaW.PrintMore
def droppertop_TopLoops.Pure : Prop := ∀ (a0 : ByteArray) (a1 : ByteArray) (a2 : ByteArray), (a0.size ≤ maxLen) → (a1.size ≤ maxLen) → (a2.size ≤ maxLen) → ∃ k, droppertop_TopLoops.f k a0 a1 a2 = some true
end Go.Proofs.Yteikgnaikeleaaa.XLoop

/- What least paths and cuts, duals and comparisons of circuits say of each other. -/
namespace Go.Proofs.Yteikgnaikeleaaa.Pure
set_option linter.unusedVariables false
open Go.RowKit Go.Proofs.Yteikgnaikeleaaa.XLoop Go.Proofs.YteikgnaikeleaaaW.PrintWords Go.Proofs.YteikgnaikeleaaaW.PrintLast Go.Proofs.YteikgnaikeleaaaW.PrintMore

theorem in_l0 (c : UInt8) (s : List UInt8) (hs : s.length < 100000000) : ∀ (t : List UInt8) (k i : Nat), s.drop i = t → t.length < k → i ≤ s.length → droppertop_in.l0 k (tx s) (c.toNat : Int) (i : Int) = some (t.contains c)
 | t, 0, i, h1, h2, h4 => by simp at h2
 | [], k + 1, i, h1, h2, h4 => by
  have hsz := tx_size s
  have : s.length ≤ i := by simpa using h1
  rw [droppertop_in.l0, if_neg (by rw [hsz]; omega)]
  rfl
 | b :: t, k + 1, i, h1, h2, h4 => by
  have hsz := tx_size s
  obtain ⟨g1, g2, g3⟩ := drop_head h1
  rw [List.length_cons] at h2
  rw [droppertop_in.l0, if_pos (by rw [hsz]; omega), if_pos (by omega), g2, wrap_nat i (by omega)]
  by_cases hb : b = c
  ·
   subst hb
   rw [if_pos rfl]
   simp
  ·
   have hc : (c == b) = false := beq_eq_false_iff_ne.2 (fun e => hb e.symm)
   rw [if_neg (byte_ne hb), in_l0 c s hs t k (i + 1) g3 (by omega) (by omega), List.contains_cons, hc, Bool.false_or]
theorem in_f (c : UInt8) (s : List UInt8) (hs : s.length ≤ 8) (k : Nat) (hk : 9 ≤ k) : droppertop_in.f k (tx s) (c.toNat : Int) = some (s.contains c) :=
 in_l0 c s (by omega) s k 0 rfl (by omega) (Nat.zero_le _)
theorem text_le (n : Nat) : (textN n).length ≤ 8 := textN_len n
theorem rd_texts (L : List (Fin 256)) (x : Nat) (h : x < L.length) : rdOf ByteArray.empty (textsOf L) (x : Int) = tx (textN (L[x]).val) := by
 simp [rdOf, textsOf, h]
theorem texts_len (L : List (Fin 256)) : (textsOf L).length = L.length := by simp [textsOf]
def allIn (s d : List UInt8) : Bool := d.all (fun b => s.contains b)
def someIn (s d : List UInt8) : Bool := d.any (fun b => s.contains b)
theorem part_l1 (L : List (Fin 256)) (hL : L.length ≤ 256) (s : List UInt8) (hs : s.length ≤ 8) (x : Nat) (hx : x < L.length) : ∀ (t : List UInt8) (k y : Nat) (fl : Bool), (textN (L[x]).val).drop y = t → y ≤ (textN (L[x]).val).length → 9 ≤ k →
  droppertop_part.l1 (k + t.length + 1) (textsOf L) (tx s) (x : Int) fl (y : Int) = if (fl && allIn s t) = true then some true else droppertop_part.l0 k (textsOf L) (tx s) ((x + 1 : Nat) : Int)
 | [], k, y, fl, h1, h2, h3 => by
  have hsz := tx_size (textN (L[x]).val)
  have h5 : (textN (L[x]).val).length ≤ y := by simpa using h1
  rw [droppertop_part.l1, if_pos (by omega), if_pos (by rw [texts_len]; omega), rd_texts L x hx, if_neg (by rw [hsz]; omega), wrap_nat x (by omega)]
  cases fl <;> rfl
 | b :: t, k, y, fl, h1, h2, h3 => by
  have hsz := tx_size (textN (L[x]).val)
  obtain ⟨g1, g2, g3⟩ := drop_head h1
  have h8 := text_le (L[x]).val
  have ih := fun fl => part_l1 L hL s hs x hx t k (y + 1) fl g3 (by omega) h3
  rw [List.length_cons, show k + (t.length + 1) + 1 = (k + t.length + 1) + 1 from rfl, droppertop_part.l1, if_pos (by omega), if_pos (by rw [texts_len]; omega), rd_texts L x hx, if_pos (by rw [hsz]; omega), wrap_nat y (by omega)]
  cases fl with
  | true =>
   rw [if_pos rfl, if_pos (by omega), g2, in_f b s hs _ (by omega), Option.bind_some, ih]
   rfl
  | false =>
   rw [if_neg (by decide), ih]
   rfl
theorem part_l0 (L : List (Fin 256)) (hL : L.length ≤ 256) (s : List UInt8) (hs : s.length ≤ 8) : ∀ (r : List (Fin 256)) (k x : Nat), L.drop x = r → x ≤ L.length → 10 + 10 * r.length ≤ k →
  droppertop_part.l0 k (textsOf L) (tx s) (x : Int) = some (r.any (fun n => allIn s (textN n.val)))
 | r, 0, x, h1, h2, h3 => by omega
 | [], k + 1, x, h1, h2, h3 => by
  have h5 : L.length ≤ x := by simpa using h1
  rw [droppertop_part.l0, if_neg (by rw [texts_len]; omega)]
  rfl
 | n :: r, k + 1, x, h1, h2, h3 => by
  have hx : x < L.length := by
   have := congrArg List.length h1
   simp at this
   omega
  have hc := List.drop_eq_getElem_cons hx
  rw [h1] at hc
  obtain ⟨hn, hr⟩ := List.cons.inj hc
  have h8 := text_le n.val
  rw [List.length_cons] at h3
  obtain ⟨k', rfl⟩ : ∃ k', k = k' + (textN n.val).length + 1 := ⟨k - (textN n.val).length - 1, by omega⟩
  rw [droppertop_part.l0, if_pos (by rw [texts_len]; omega)]
  have e := part_l1 L hL s hs x hx (textN n.val) k' 0 true (by rw [← hn]; rfl) (Nat.zero_le _) (by omega)
  refine Eq.trans e ?_
  rw [List.any_cons, Bool.true_and]
  cases ha : allIn s (textN n.val) with
  | true => rfl
  | false =>
   rw [if_neg (by decide), Bool.false_or]
   exact part_l0 L hL s hs r k' (x + 1) hr.symm (by omega) (by omega)
theorem meets_l1 (L : List (Fin 256)) (hL : L.length ≤ 256) (s : List UInt8) (hs : s.length ≤ 8) (x : Nat) (hx : x < L.length) : ∀ (t : List UInt8) (k y : Nat) (fl : Bool), (textN (L[x]).val).drop y = t → y ≤ (textN (L[x]).val).length → 9 ≤ k →
  droppertop_meets.l1 (k + t.length + 1) (textsOf L) (tx s) (x : Int) fl (y : Int) = if (fl || someIn s t) = true then droppertop_meets.l0 k (textsOf L) (tx s) ((x + 1 : Nat) : Int) else some false
 | [], k, y, fl, h1, h2, h3 => by
  have hsz := tx_size (textN (L[x]).val)
  have h5 : (textN (L[x]).val).length ≤ y := by simpa using h1
  rw [droppertop_meets.l1, if_pos (by omega), if_pos (by rw [texts_len]; omega), rd_texts L x hx, if_neg (by rw [hsz]; omega), wrap_nat x (by omega)]
  cases fl <;> rfl
 | b :: t, k, y, fl, h1, h2, h3 => by
  have hsz := tx_size (textN (L[x]).val)
  obtain ⟨g1, g2, g3⟩ := drop_head h1
  have h8 := text_le (L[x]).val
  have ih := fun fl => meets_l1 L hL s hs x hx t k (y + 1) fl g3 (by omega) h3
  rw [List.length_cons, show k + (t.length + 1) + 1 = (k + t.length + 1) + 1 from rfl, droppertop_meets.l1, if_pos (by omega), if_pos (by rw [texts_len]; omega), rd_texts L x hx, if_pos (by rw [hsz]; omega), wrap_nat y (by omega)]
  cases fl with
  | true =>
   rw [if_pos rfl, ih]
   rfl
  | false =>
   rw [if_neg (by decide), if_pos (by omega), g2, in_f b s hs _ (by omega), Option.bind_some, ih]
   rfl
theorem meets_l0 (L : List (Fin 256)) (hL : L.length ≤ 256) (s : List UInt8) (hs : s.length ≤ 8) : ∀ (r : List (Fin 256)) (k x : Nat), L.drop x = r → x ≤ L.length → 10 + 10 * r.length ≤ k →
  droppertop_meets.l0 k (textsOf L) (tx s) (x : Int) = some (r.all (fun n => someIn s (textN n.val)))
 | r, 0, x, h1, h2, h3 => by omega
 | [], k + 1, x, h1, h2, h3 => by
  have h5 : L.length ≤ x := by simpa using h1
  rw [droppertop_meets.l0, if_neg (by rw [texts_len]; omega)]
  rfl
 | n :: r, k + 1, x, h1, h2, h3 => by
  have hx : x < L.length := by
   have := congrArg List.length h1
   simp at this
   omega
  have hc := List.drop_eq_getElem_cons hx
  rw [h1] at hc
  obtain ⟨hn, hr⟩ := List.cons.inj hc
  have h8 := text_le n.val
  rw [List.length_cons] at h3
  obtain ⟨k', rfl⟩ : ∃ k', k = k' + (textN n.val).length + 1 := ⟨k - (textN n.val).length - 1, by omega⟩
  rw [droppertop_meets.l0, if_pos (by rw [texts_len]; omega)]
  have e := meets_l1 L hL s hs x hx (textN n.val) k' 0 false (by rw [← hn]; rfl) (Nat.zero_le _) (by omega)
  refine Eq.trans e ?_
  rw [List.all_cons, Bool.false_or]
  cases ha : someIn s (textN n.val) with
  | false => rfl
  | true =>
   rw [if_pos rfl, Bool.true_and]
   exact meets_l0 L hL s hs r k' (x + 1) hr.symm (by omega) (by omega)
theorem allIn_part (n x : Nat) (hn : n < 256) (hx : x < 256) : allIn (textN x) (textN n) = partOf n x := by
 rw [Bool.eq_iff_iff, part_iff n x hn hx]
 unfold allIn
 rw [List.all_eq_true]
 constructor
 ·
  intro h j hj
  have h8 := bit_lt n j hn hj
  have := h _ ((textN_has n j h8).2 hj)
  exact (textN_has x j h8).1 (List.contains_iff_mem.1 this)
 ·
  intro h b hb
  obtain ⟨j, h8, rfl, hj⟩ := textN_letter n b hb
  exact List.contains_iff_mem.2 ((textN_has x j h8).2 (h j hj))
theorem someIn_meet (n x : Nat) (hn : n < 256) (hx : x < 256) : someIn (textN x) (textN n) = ((n &&& x) != 0) := by
 rw [Bool.eq_iff_iff]
 unfold someIn
 rw [List.any_eq_true, bne_iff_ne]
 constructor
 ·
  rintro ⟨b, hb, h⟩ e
  obtain ⟨j, h8, rfl, hj⟩ := textN_letter n b hb
  have h2 := (textN_has x j h8).1 (List.contains_iff_mem.1 h)
  have h3 := congrArg (fun y => Nat.testBit y j) e
  simp only [Nat.testBit_and, hj, h2, Nat.zero_testBit] at h3
  cases h3
 ·
  intro h
  refine Classical.byContradiction (fun hc => h (Nat.eq_of_testBit_eq (fun j => ?_)))
  rw [Nat.testBit_and, Nat.zero_testBit]
  cases hj : n.testBit j with
  | false => rfl
  | true =>
   cases hk : x.testBit j with
   | false => rfl
   | true =>
    have h8 := bit_lt n j hn hj
    exact absurd ⟨_, (textN_has n j h8).2 hj, List.contains_iff_mem.2 ((textN_has x j h8).2 hk)⟩ hc
theorem part_f (L : List (Fin 256)) (hL : L.length ≤ 256) (x : Nat) (hx : x < 256) (k : Nat) (hk : 2570 ≤ k) : droppertop_part.f k (textsOf L) (tx (textN x)) = some (L.any (fun n => partOf n.val x)) := by
 have h := part_l0 L hL (textN x) (text_le x) L k 0 rfl (Nat.zero_le _) (by omega)
 refine Eq.trans h ?_
 congr 2
 funext n
 exact allIn_part n.val x n.isLt hx
theorem meets_f (L : List (Fin 256)) (hL : L.length ≤ 256) (x : Nat) (hx : x < 256) (k : Nat) (hk : 2570 ≤ k) : droppertop_meets.f k (textsOf L) (tx (textN x)) = some (L.all (fun n => (n.val &&& x) != 0)) := by
 have h := meets_l0 L hL (textN x) (text_le x) L k 0 rfl (Nat.zero_le _) (by omega)
 refine Eq.trans h ?_
 congr 2
 funext n
 exact someIn_meet n.val x n.isLt hx
theorem same_l0 (L M : List (Fin 256)) (hL : L.length ≤ 256) (hM : M.length = L.length) : ∀ (r r' : List (Fin 256)) (k x : Nat), L.drop x = r → M.drop x = r' → x ≤ L.length → r.length < k →
  dropperlaw09_SameTexts.l0 k (textsOf L) (textsOf M) (x : Int) = some (decide (r = r'))
 | r, r', 0, x, h1, h2, h3, h4 => by simp at h4
 | [], r', k + 1, x, h1, h2, h3, h4 => by
  have h5 : L.length ≤ x := by simpa using h1
  have h6 : r' = [] := by rw [← h2]; simp; omega
  rw [dropperlaw09_SameTexts.l0, if_neg (by rw [texts_len]; omega), h6]
  simp
 | n :: r, r', k + 1, x, h1, h2, h3, h4 => by
  have hx : x < L.length := by
   have := congrArg List.length h1
   simp at this
   omega
  have hxm : x < M.length := by omega
  have hc := List.drop_eq_getElem_cons hx
  rw [h1] at hc
  obtain ⟨hn, hr⟩ := List.cons.inj hc
  have hc2 := List.drop_eq_getElem_cons hxm
  rw [h2] at hc2
  rw [dropperlaw09_SameTexts.l0, if_pos (by rw [texts_len]; omega), if_pos (by omega), if_pos (by rw [texts_len]; omega), rd_texts L x hx, rd_texts M x hxm, tx_toList, tx_toList, wrap_nat x (by omega), hc2, ← hn]
  by_cases he : n = M[x]
  ·
   rw [if_pos (by rw [he]), same_l0 L M hL hM r (M.drop (x + 1)) k (x + 1) hr.symm rfl (by omega) (by simp at h4; omega)]
   simp [← he]
  ·
   rw [if_neg (fun h => he (Fin.ext (textN_inj n.isLt (M[x]).isLt h))), decide_eq_false (fun h => he (List.cons.inj h).1)]
theorem same_f (L M : List (Fin 256)) (hL : L.length ≤ 256) (hM : M.length ≤ 256) (k : Nat) (hk : 300 ≤ k) : dropperlaw09_SameTexts.f k (textsOf L) (textsOf M) = some (decide (L = M)) := by
 unfold dropperlaw09_SameTexts.f
 rw [texts_len, texts_len]
 by_cases h : M.length = L.length
 ·
  rw [if_pos (by omega)]
  exact same_l0 L M hL h L M k 0 rfl rfl (Nat.zero_le _) (by omega)
 ·
  rw [if_neg (by omega), decide_eq_false (fun e => h (by rw [e]))]
theorem bne_self (b : Bool) : (b != b) = false := by cases b <;> rfl
theorem j5_ev (a b : ByteArray) (m n : Mean) (hp : parseL a.data.toList = some m) (hq : parseL b.data.toList = some n) (k : Nat) (hk : 300 ≤ k) :
  droppertop_TopLoops.j5 (k + 1) a b (textsOf (leastF m.f)) = some true := by
 have hg := parseL_good hp
 have hh := parseL_good hq
 obtain ⟨k, rfl⟩ : ∃ k', k = k' + 3 := ⟨k - 3, by omega⟩
 have hF := first_evk k
 have c1 : loop_Paths.f b = some (textsOf (leastF n.f), 0) := by unfold loop_Paths.f pathsR; rw [hq]
 have c2 : loop_Same.f a b = some (sameF m.f n.f, 0) := by unfold loop_Same.f sameR; rw [hp, hq]
 have c4 : loop_Within.f a b = some (withinF m.f n.f, 0) := by unfold loop_Within.f withinR; rw [hp, hq]
 have c5 : loop_Within.f b a = some (withinF n.f m.f, 0) := by unfold loop_Within.f withinR; rw [hp, hq]
 have c6 := same_f (leastF m.f) (leastF n.f) (leastF_len _) (leastF_len _) (k + 3) hk
 have e6 : decide (leastF m.f = leastF n.f) = sameF m.f n.f := by
  rw [Bool.eq_iff_iff, decide_eq_true_iff, sameF_iff]
  exact ⟨fun h => least_same hg hh h, fun h => leastF_congr h⟩
 rw [e6] at c6
 have hw := same_within m.f n.f
 have c3 : ∃ d, ∃ e : Int, loop_Differ.f a b = some (d, e) ∧ ((e = 0 ∧ sameF m.f n.f = false) ∨ (e = 5 ∧ sameF m.f n.f = true)) := by
  have ed : differR a.data.toList b.data.toList = (match differF m.f n.f with | some k => (textN k.val, 0) | none => ([], 5)) := by
   unfold differR
   rw [hp, hq]
   rfl
  unfold loop_Differ.f
  cases hd : differF m.f n.f with
  | none =>
   rw [hd] at ed
   exact ⟨tx [], 5, by rw [ed], Or.inr ⟨rfl, (differ_none _ _).1 hd⟩⟩
  | some y =>
   rw [hd] at ed
   refine ⟨tx (textN y.val), 0, by rw [ed], Or.inl ⟨rfl, Bool.eq_false_iff.2 (fun h => ?_)⟩⟩
   rw [(differ_none _ _).2 h] at hd
   cases hd
 obtain ⟨d, e, c3, he⟩ := c3
 rw [droppertop_TopLoops.j5, c1, Option.bind_some, c2, Option.bind_some, c3, Option.bind_some, c4, Option.bind_some, c5, Option.bind_some, if_pos rfl, if_pos rfl]
 rw [hw] at c6 he ⊢
 rcases he with ⟨rfl, h⟩ | ⟨rfl, h⟩
 ·
  simp only [if_true, c6, Option.bind_some, hF, h, beq_self_eq_true]
  cases h1 : withinF m.f n.f with
  | true =>
   rw [h1, Bool.true_and] at h
   simp [h]
  | false => simp
 ·
  simp only [if_true, c6, Option.bind_some, hF, h, beq_self_eq_true]
  rw [Bool.and_eq_true] at h
  simp [h.1, h.2]
theorem tail_ev (a b : ByteArray) (c : List (List Mean)) (n : Mean) (hc : parseC a.data.toList = some c) (hp : parseL a.data.toList = some (meanC c)) (hq : parseL b.data.toList = some n) : ∀ (r : List (Fin 256)) (k x : Nat), (leastF (meanC c).f).drop x = r → x ≤ (leastF (meanC c).f).length → 3000 + r.length ≤ k →
  droppertop_TopLoops.l0 k a b (textsOf (leastF (meanC c).f)) (textsOf (leastF (cutF (meanC c).f))) (x : Int) = some true
 | r, 0, x, h1, h2, h3 => by omega
 | [], k + 1, x, h1, h2, h3 => by
  have hg := parseL_good hp
  have h5 : (leastF (meanC c).f).length ≤ x := by simpa using h1
  rw [droppertop_TopLoops.l0, if_neg (by rw [texts_len]; omega)]
  obtain ⟨k, rfl⟩ : ∃ k', k = k' + 3 := ⟨k - 3, by simp at h3; omega⟩
  have hk : 2900 ≤ k := by simp at h3; omega
  unfold loop_Dual.f dualR
  rw [hc, Option.bind_some]
  by_cases hs : 40 < (dualC c).length
  ·
   simp only [if_pos hs]
   rw [if_neg (by decide), if_pos trivial]
   exact j5_ev a b _ n hp hq (k + 2) (by omega)
  ·
   simp only [if_neg hs]
   rw [if_pos trivial]
   obtain ⟨m2, hp2, hm2⟩ := parse_dual hc (by omega)
   have c1 : loop_Paths.f (tx (dualC c)) = some (textsOf (leastF m2.f), 0) := by unfold loop_Paths.f pathsR; rw [show (tx (dualC c)).data.toList = dualC c from rfl, hp2]
   have c2 : loop_Cuts.f (tx (dualC c)) = some (textsOf (leastF (cutF m2.f)), 0) := by unfold loop_Cuts.f cutsR; rw [show (tx (dualC c)).data.toList = dualC c from rfl, hp2]
   have e1 : leastF m2.f = leastF (cutF (meanC c).f) := leastF_congr (fun x _ => hm2 x)
   have e2 : leastF (cutF m2.f) = leastF (meanC c).f := leastF_congr (fun x hx => by
    have h := cutF_congr (f := m2.f) (g := cutF (condC c)) (fun x _ => hm2 x) x hx
    rw [h]
    exact cut_cut (condC c) x hx)
   rw [c1, Option.bind_some, c2, Option.bind_some, if_pos rfl, if_pos rfl]
   simp only [e1, e2]
   rw [same_f _ _ (leastF_len _) (leastF_len _) (k + 3) (by omega), Option.bind_some, decide_eq_true rfl, if_pos rfl, same_f _ _ (leastF_len _) (leastF_len _) (k + 3) (by omega), Option.bind_some, decide_eq_true rfl]
   show droppertop_TopLoops.j4 (k + 3) a b _ _ false = some true
   rw [droppertop_TopLoops.j4, if_neg (by decide)]
   have hc2 : ∃ c2, parseC (dualC c) = some c2 ∧ meanC c2 = m2 := by
    unfold parseL at hp2
    cases hx : parseC (dualC c) with
    | none => rw [hx] at hp2; cases hp2
    | some c2 => rw [hx] at hp2; exact ⟨c2, rfl, Option.some.inj hp2⟩
   obtain ⟨c2', hcc, hmm⟩ := hc2
   have cd : loop_Dual.f (tx (dualC c)) = some (tx (dualR (dualC c)).1, (dualR (dualC c)).2) := rfl
   unfold dualR at cd
   rw [hcc] at cd
   rw [cd, Option.bind_some]
   by_cases hs2 : 40 < (dualC c2').length
   ·
    simp only [if_pos hs2]
    rw [if_neg (by decide), if_pos trivial]
    exact j5_ev a b _ n hp hq (k + 1) (by omega)
   ·
    simp only [if_neg hs2]
    rw [if_pos trivial]
    obtain ⟨m3, hp3, hm3⟩ := parse_dual hcc (by omega)
    have c3 : loop_Same.f (tx (dualC c2')) a = some (true, 0) := by
     unfold loop_Same.f sameR
     rw [show (tx (dualC c2')).data.toList = dualC c2' from rfl, hp3, hp]
     simp only
     rw [(sameF_iff _ _).2 (fun x hx => ?_)]
     rw [hm3 x, show condC c2' = m2.f from by rw [← hmm]; rfl]
     have h := cutF_congr (f := m2.f) (g := cutF (condC c)) (fun x _ => hm2 x) x hx
     rw [h]
     exact cut_cut (condC c) x hx
    rw [c3, Option.bind_some, if_pos rfl, if_pos rfl]
    exact j5_ev a b _ n hp hq (k + 1) (by omega)
 | y :: r, k + 1, x, h1, h2, h3 => by
  have hg := parseL_good hp
  have hx : x < (leastF (meanC c).f).length := by
   have := congrArg List.length h1
   simp at this
   omega
  have hcc := List.drop_eq_getElem_cons hx
  rw [h1] at hcc
  obtain ⟨hy, hr⟩ := List.cons.inj hcc
  have hmem : y ∈ leastF (meanC c).f := by rw [hy]; exact List.getElem_mem hx
  have hlen := leastF_len (meanC c).f
  rw [List.length_cons] at h3
  rw [droppertop_TopLoops.l0, if_pos (by rw [texts_len]; omega), if_pos (by omega), rd_texts _ x hx, ← hy, meets_f _ (leastF_len _) y.val y.isLt k (by omega), Option.bind_some, cuts_meet hg y.val y.isLt, least_true hg hmem, if_pos rfl, wrap_nat x (by omega)]
  exact tail_ev a b c n hc hp hq r k (x + 1) hr.symm (by omega) (by omega)
theorem TopLoops : droppertop_TopLoops.Pure := by
 intro a b s _ _ _
 refine ⟨4000, ?_⟩
 have hF : dropperlaw09_First.f 3999 = some true := first_evk 3996
 have hj : droppertop_TopLoops.j0 4000 a b s true = some true := by
  rw [droppertop_TopLoops.j0, if_pos rfl, hF]; rfl
 unfold droppertop_TopLoops.f
 rcases long_ev a b with hl | ⟨hl, h1, h2⟩
 ·
  rw [hl, Option.bind_some, if_pos rfl, hj]
 ·
  rw [hl, Option.bind_some, if_neg (by decide)]
  by_cases h20 : (s.size : Int) > 20
  ·
   rw [if_pos h20, hj]
  ·
   have zb : s.data.toList.length = s.size := by rw [← tx_size, tx_data]
   rw [if_neg h20]
   unfold dropperref09_Valid.f
   rw [Option.bind_some]
   cases hc : parseC a.data.toList with
   | none =>
    have hp : parseL a.data.toList = none := by unfold parseL; rw [hc]; rfl
    rw [hp]
    exact (if_neg (by decide)).trans hj
   | some c =>
    have hp : parseL a.data.toList = some (meanC c) := by unfold parseL; rw [hc]; rfl
    rw [hp]
    refine (if_pos rfl).trans ?_
    rw [Option.bind_some]
    cases hq : parseL b.data.toList with
    | none => exact (if_neg (by decide)).trans hj
    | some n =>
     refine (if_pos rfl).trans ?_
     have e4 : dropperref09_ValidSet.f 4000 s = some (setL s.data.toList 0 (-1)).isSome := by
      have h := vs_eq s.data.toList 4000 0 s.data.toList 0 (-1) rfl (by omega) (Or.inl ⟨rfl, rfl⟩) (by omega)
      rw [tx_data] at h
      exact h
     rw [e4, Option.bind_some]
     cases hs : setL s.data.toList 0 (-1) with
     | none => exact hj
     | some x =>
      have hx := setL_256 hs
      have hg := parseL_good hp
      have eb : s = tx (textN x) := by rw [← set_is hs, tx_data]
      show droppertop_TopLoops.j0 4000 a b s false = some true
      have c1 : loop_Paths.f a = some (textsOf (leastF (meanC c).f), 0) := by unfold loop_Paths.f pathsR; rw [hp]
      have c2 : loop_Cuts.f a = some (textsOf (leastF (cutF (meanC c).f)), 0) := by unfold loop_Cuts.f cutsR; rw [hp]
      have c3 : loop_IsPath.f a s = some ((meanC c).f x, 0) := by unfold loop_IsPath.f condR; rw [hp, hs]
      have c4 : loop_IsCut.f a s = some (cutF (meanC c).f x, 0) := by unfold loop_IsCut.f cutR; rw [hp, hs]
      have c5 : loop_Conducts.f a s = some ((meanC c).f x, 0) := by unfold loop_Conducts.f condR; rw [hp, hs]
      rw [droppertop_TopLoops.j0, if_neg (by decide), c1, Option.bind_some, c2, Option.bind_some, c3, Option.bind_some, c4, Option.bind_some, c5, Option.bind_some, if_pos rfl, if_pos rfl, if_pos rfl, if_pos rfl, if_pos rfl]
      simp only [bne_self]
      have p1 := part_f (leastF (meanC c).f) (leastF_len _) x hx 3998 (by decide)
      have p2 := meets_f (leastF (cutF (meanC c).f)) (leastF_len _) x hx 3998 (by decide)
      have p3 := part_f (leastF (cutF (meanC c).f)) (leastF_len _) x hx 3998 (by decide)
      have p4 := meets_f (leastF (meanC c).f) (leastF_len _) x hx 3998 (by decide)
      rw [least_any hg x hx] at p1
      rw [cuts_meet hg x hx] at p2
      rw [cuts_any hg x hx] at p3
      rw [least_meets hg x hx] at p4
      rw [droppertop_TopLoops.j1, if_neg (by decide), eb, p1, Option.bind_some, bne_self, if_neg (by decide), p2, Option.bind_some, bne_self, if_neg (by decide), p3, Option.bind_some, bne_self, if_neg (by decide), p4, Option.bind_some, bne_self, droppertop_TopLoops.j2, if_neg (by decide)]
      have hln := leastF_len (meanC c).f
      exact tail_ev a b c n hc hp hq (leastF (meanC c).f) 3997 0 rfl (Nat.zero_le _) (by omega)
end Go.Proofs.Yteikgnaikeleaaa.Pure

-- Written by wip/xprint.py of this repo, over the kit's print.py: out of the translation; the oracles in it are by hand. Not trusted: Lean checks it.
namespace Go.Proofs.Yteikgnaikeleaaa.topLoops
open Go.ChangeShapes Go.WideShapes Go.ChangeAt Go.RowKit Go.Proofs.Yteikgnaikeleaaa.Open Go.Proofs.Yteikgnaikeleaaa.XLoop Go.Proofs.YteikgnaikeleaaaW.PrintWords Go.Proofs.YteikgnaikeleaaaW.PrintLast Go.Proofs.YteikgnaikeleaaaW.PrintMore
open Go.ChangeMaps (open_string shut_string)
set_option linter.unusedVariables false
set_option linter.unusedSimpArgs false
theorem own : ownKnob Try.prog.godebug = none := by kernel_rfl
theorem laidOut : laidOutB Try.prog = true := by kernel_rfl
set_option maxRecDepth 100000 in
theorem lifted (os : Os) (started : os.Started) (H : Type) (enc : TypeId × Value → H) :
  ReturnsInHanded {} Try.checked os 4 .any (Rows.topLoopsSpec.pre6 enc Try.prog Try.f4 Rows.topLoopsRow.domain false) (Rows.topLoopsSpec.post enc Try.prog Try.f4 false true false false) := by
 refine returnsInHanded_of_change_sized (C := Try.checked) own started (by kernel_rfl) Try.func4
  (ChangeSpec.witness6 (enc := enc) (C := Try.checked) false ⟨#[], #[.string ByteArray.empty, .string ByteArray.empty, .string ByteArray.empty], []⟩ 8 (by kernel_rfl) (by kernel_rfl) (by kernel_rfl) (by kernel_rfl)) ?_
 intro W base args ds gs before hval0 hW hcnd hsz0 _
 have hval : ∀ (j : Nat) t v, Try.f4.params[j]? = some t → args[j]? = some v → Value.okWide Try.prog W .any base t v := hval0
 have hW' := hW
 obtain ⟨p, q, hA0, hV, rfl, hfz, hnd⟩ := hW
 have hA : DataW.TrodAll enc Try.prog W 0 (fun _ => true) true Try.f4.params.toList args.toList ds p := hA0
 rw [Try.params4] at hA hval
 obtain ⟨v0, vs0, d0, ds0, p0, q0, hargs, rfl, rfl, h0, r0⟩ := trodAll_cons hA
 obtain ⟨v1, vs1, d1, ds1, p1, q1, rfl, rfl, rfl, h1, r1⟩ := trodAll_cons r0
 obtain ⟨v2, vs2, d2, ds2, p2, q2, rfl, rfl, rfl, h2, r2⟩ := trodAll_cons r1
 obtain ⟨rfl, rfl, rfl⟩ := trodAll_nil r2
 obtain rfl : args = #[v0, v1, v2] := by cases args; simp_all
 obtain ⟨rfl, rfl⟩ := trodVars_none hV
 obtain ⟨a0, rfl, rfl, rfl, y0⟩ := open_string Try.underlying9 (hval 0 9 v0 rfl rfl) h0
 obtain ⟨a1, rfl, rfl, rfl, y1⟩ := open_string Try.underlying9 (hval 1 9 v1 rfl rfl) h1
 obtain ⟨a2, rfl, rfl, rfl, y2⟩ := open_string Try.underlying9 (hval 2 9 v2 rfl rfl) h2
 clear hA0 hval0 hsz0
 obtain ⟨k, h⟩ := Pure.TopLoops a0 a1 a2 y0 y1 y2
 refine (droppertop_TopLoops.calls k a0 a1 a2 true W  h).mono fun e W' ⟨he, bel0⟩ => ?_
 have bel : Below W.heap.size W W' := bel0
 subst he
 exact ⟨_, rfl, _, _, _, [], _, [], hW', trodAll_mk1 (shut_bool Try.underlying4 _), (trodAll_cons_mk (shut_string Try.underlying9 y0) (trodAll_cons_mk (shut_string Try.underlying9 y1) (trodAll_cons_mk (shut_string Try.underlying9 y2) trodAll_mk0))), rfl, bel.frame _, fun h => by cases h⟩
theorem over : Rows.topLoopsRow.holds Try.pinned (OpenSpec.ofChange Rows.topLoopsSpec) :=
 OpenClaim.holds_of_wide 4 Try.f4 rfl rfl rfl rfl rfl rfl rfl ⟨rfl, rfl, rfl, rfl, rfl⟩ rfl rfl rfl rfl rfl (by kernel_rfl) Try.func4 (by kernel_rfl)
  (of_decide_eq_true (by kernel_rfl)) (by unfold Func.isWrapper; first | (rw [if_pos (by decide +kernel)]; kernel_rfl) | (rw [if_neg (by decide +kernel)]; exact ⟨rfl, rfl⟩))
  (fun os started H enc _ => lifted os started H enc)
theorem proved : Rows.TopLoopsSaid := over
#print axioms proved
end Go.Proofs.Yteikgnaikeleaaa.topLoops
namespace Go.Proofs.Yteikgnaikeleaaa
theorem topLoops_holds : Rows.TopLoopsSaid := topLoops.proved
end Go.Proofs.Yteikgnaikeleaaa
