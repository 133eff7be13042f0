-- Written by wip/pack.py of this repo: texts of this claim, put together.
import Derived.Test.YteikgnaikeleaaaRows
import Derived.WalkKit
import Derived.ProofKit
import Derived.OpenShut
import Derived.ShutString
import Derived.ChangeOld
import Derived.Below
import Derived.SizedLaws
import Derived.Test.YteikgnaikeleaaaKLoopd
namespace Go.Proofs.Yteikgnaikeleaaa.XLoop
open Go.RowKit Go.Proofs.YteikgnaikeleaaaW.PrintWords Go.Proofs.YteikgnaikeleaaaW.PrintLast Go.Proofs.YteikgnaikeleaaaW.PrintMore
attribute [local go_sem] max2_int min2_int max_two min_two max_three min_three max_four min_four   -- for this text's walks alone
set_option linter.unusedVariables false
set_option linter.unusedSimpArgs false
/-! ### dropperref09_Valid: function 21 -/
def dropperref09_Valid.f (a0 : ByteArray) : Option (Bool) := some ((parseL a0.data.toList).isSome)
theorem dropperref09_Valid.calls (a0 : ByteArray) (r : Bool) (w : World) (h : dropperref09_Valid.f a0 = some r) :
  Calls Try.prog 21 #[.string a0] w fun e w' => e = .returned (.bool r) ∧ Below w.heap.size w w' := by
 obtain rfl := Option.some.inj h
 have hc := rvalid_calls a0.data.toList w
 simp only [tx_data] at hc
 exact hc

/-! ### loop_Conducts: function 25 -/
def loop_Conducts.f (a0 : ByteArray) (a1 : ByteArray) : Option (Bool × Int) := some ((condR a0.data.toList a1.data.toList).1, (condR a0.data.toList a1.data.toList).2)
theorem loop_Conducts.calls (a0 : ByteArray) (a1 : ByteArray) (r1 : Bool) (r2 : Int) (w : World) (h : loop_Conducts.f a0 a1 = some (r1, r2)) :
  Calls Try.prog 25 #[.string a0, .string a1] w fun e w' => e = .returned (.tuple #[.bool r1, .int .i64 r2]) ∧ Below w.heap.size w w' := by
 obtain ⟨rfl, rfl⟩ := Prod.mk.inj (Option.some.inj h)
 have hc := conducts_calls a0.data.toList a1.data.toList w
 simp only [tx_data] at hc
 exact hc

/-! ### dropperref09_Conducts: function 46 -/
def dropperref09_Conducts.f (a0 : ByteArray) (a1 : ByteArray) : Option (Bool × Int) := if a1.size ≤ 1000 then some ((condR a0.data.toList a1.data.toList).1, (condR a0.data.toList a1.data.toList).2) else none
theorem dropperref09_Conducts.calls (a0 : ByteArray) (a1 : ByteArray) (r1 : Bool) (r2 : Int) (w : World) (h : dropperref09_Conducts.f a0 a1 = some (r1, r2)) :
  Calls Try.prog 46 #[.string a0, .string a1] w fun e w' => e = .returned (.tuple #[.bool r1, .int .i64 r2]) ∧ Below w.heap.size w w' := by
 unfold dropperref09_Conducts.f at h
 split at h
 case isFalse => cases h
 rename_i hs_
 have H : a1.data.toList.length < 1000000000 := by
  have h_ := tx_size a1.data.toList
  rw [tx_data] at h_
  omega
 obtain ⟨rfl, rfl⟩ := Prod.mk.inj (Option.some.inj h)
 have hc := rconducts_calls a0.data.toList a1.data.toList H w
 simp only [tx_data] at hc
 exact hc

/-! ### loop_Letters: function 47 -/
def loop_Letters.f (a0 : ByteArray) : Option (ByteArray × Int) := some (tx (lettersR a0.data.toList).1, (lettersR a0.data.toList).2)
theorem loop_Letters.calls (a0 : ByteArray) (r1 : ByteArray) (r2 : Int) (w : World) (h : loop_Letters.f a0 = some (r1, r2)) :
  Calls Try.prog 47 #[.string a0] w fun e w' => e = .returned (.tuple #[.string r1, .int .i64 r2]) ∧ Below w.heap.size w w' := by
 obtain ⟨rfl, rfl⟩ := Prod.mk.inj (Option.some.inj h)
 have hc := letters_calls a0.data.toList w
 simp only [tx_data] at hc
 exact hc

/-! ### dropperref09_text: function 78 -/
def dropperref09_text.l0 : Nat → Int → ByteArray → Int → Option (ByteArray)
 | 0, _, _, _ => none
 | k + 1, x0, x3, x4 => if x4 < 8 then (if 0 ≤ x4 then (if (Go.bits .and .i64 (shr .i64 x0 x4) 1) = 1 then (if x4 ≤ (wrap64 (x4 + 1)) then (if (wrap64 (x4 + 1)) ≤ 8 then (if x3.size + ((⟨#[97, 98, 99, 100, 101, 102, 103, 104]⟩ : ByteArray).extract (x4 : Int).toNat ((wrap64 (x4 + 1)) : Int).toNat).size ≤ 9223372036854775807 then (dropperref09_text.l0 k x0 (x3 ++ ((⟨#[97, 98, 99, 100, 101, 102, 103, 104]⟩ : ByteArray).extract (x4 : Int).toNat ((wrap64 (x4 + 1)) : Int).toNat)) (wrap64 (x4 + 1))) else (none)) else (none)) else (none)) else (dropperref09_text.l0 k x0 x3 (wrap64 (x4 + 1)))) else (none)) else (some x3)
def dropperref09_text.f (k : Nat) (a0 : Int) : Option (ByteArray) := dropperref09_text.l0 k a0 (⟨#[]⟩ : ByteArray) 0
theorem dropperref09_text.mono_l : ∀ k, (∀ y0 y1 y2, LeO (dropperref09_text.l0 k y0 y1 y2) (dropperref09_text.l0 (k + 1) y0 y1 y2))
 | 0 => fun _ _ _ r h => by simp [dropperref09_text.l0] at h
 | k + 1 => by
  have ih0 := dropperref09_text.mono_l k
  ·
   intro y0 y1 y2
   unfold dropperref09_text.l0
   repeat' first
   | (with_reducible exact ih0 _ _ _)
   | (with_reducible exact LeO.refl _)
   | (with_reducible exact LeO.none _)
   | (with_reducible refine LeO.ite ?_ ?_)
   | (with_reducible refine LeO.bind ?_ (fun _ => ?_))
   | exact ih0 _ _ _
   | exact LeO.none _
   | refine LeO.ite ?_ ?_
   | refine LeO.bind ?_ (fun _ => ?_)
theorem dropperref09_text.mono : ∀ a0 k, LeO (dropperref09_text.f k a0) (dropperref09_text.f (k + 1) a0) := by
 intro a0 k
 have ih0 := dropperref09_text.mono_l k
 unfold dropperref09_text.f
 repeat' first
   | (with_reducible exact ih0 _ _ _)
   | (with_reducible exact LeO.refl _)
   | (with_reducible exact LeO.none _)
   | (with_reducible refine LeO.ite ?_ ?_)
   | (with_reducible refine LeO.bind ?_ (fun _ => ?_))
   | exact ih0 _ _ _
   | exact LeO.none _
   | refine LeO.ite ?_ ?_
   | refine LeO.bind ?_ (fun _ => ?_)
set_option maxHeartbeats 8000000 in
set_option maxRecDepth 100000 in
theorem dropperref09_text.calls (k : Nat) (a0 : Int) (r : ByteArray) (w : World) (h : dropperref09_text.f k a0 = some r) :
  Calls Try.prog 78 #[.int .i64 a0] w fun e w' => e = .returned (.string r) ∧ Drawn0 w w' := by
 have H : (dropperref09_text.l0 k a0 (⟨#[]⟩ : ByteArray) 0) = some r := h
 clear h
 have H' := Aside0.mk H
 clear H
 go_enter Try.func78, Try.ntmps78
 go_wp2
 go_loopg [3, 4] k (fun kq v3 v4 w' => ∃ (x3_1 : ByteArray) (x4_1 : Int), v3 = .string x3_1 ∧ v4 = .int .i64 x4_1 ∧ Aside0 (dropperref09_text.l0 kq a0 x3_1 x4_1 = some r) ∧ Aside0 (kq ≤ k) ∧ Drawn0 w w')
 case atStart => exact ⟨((⟨#[]⟩ : ByteArray)), (0), rsz, rsz, H', ⟨Nat.le_refl _⟩, drz⟩
 case round =>
  clear H'
  obtain ⟨x3_1, x4_1, rfl, rfl, HA, HK1, ⟨m1, rfl⟩⟩ := hrel
  cases gk with
  | zero => exact absurd HA.out (by simp [dropperref09_text.l0])
  | succ k1 =>
   have H := HA.out
   clear HA
   simp only [dropperref09_text.l0] at H
   by_cases c2 : x4_1 < 8
   ·
    rw [if_pos c2] at H
    have c2b0 : decide (x4_1 < 8) = true := decide_eq_true c2
    clear c2
    by_cases c3 : 0 ≤ x4_1
    ·
     rw [if_pos c3] at H
     have c3b0 := eq_true c3
     have c3b1 : decide (0 ≤ x4_1) = true := decide_eq_true c3
     clear c3
     obtain ⟨ji4, hji4⟩ : ∃ j_ : Int, (shr .i64 a0 x4_1) = j_ := ⟨_, rfl⟩
     replace H : (if (Go.bits .and .i64 (ji4) 1) = 1 then (if x4_1 ≤ (wrap64 (x4_1 + 1)) then (if (wrap64 (x4_1 + 1)) ≤ 8 then (if x3_1.size + ((⟨#[97, 98, 99, 100, 101, 102, 103, 104]⟩ : ByteArray).extract (x4_1 : Int).toNat ((wrap64 (x4_1 + 1)) : Int).toNat).size ≤ 9223372036854775807 then (dropperref09_text.l0 k1 a0 (x3_1 ++ ((⟨#[97, 98, 99, 100, 101, 102, 103, 104]⟩ : ByteArray).extract (x4_1 : Int).toNat ((wrap64 (x4_1 + 1)) : Int).toNat)) (wrap64 (x4_1 + 1))) else (none)) else (none)) else (none)) else (dropperref09_text.l0 k1 a0 x3_1 (wrap64 (x4_1 + 1)))) = some r := by first | (rw [hji4] at H; exact H) | (simp only [hji4] at H ⊢; exact H)
     have hji4_ : (a0 / 2 ^ min x4_1.toNat 64) = ji4 := hji4
     have hji4z : x4_1 ≤ 64 → (a0 / 2 ^ x4_1.toNat) = ji4 := shr_small hji4
     by_cases c5 : (Go.bits .and .i64 (ji4) 1) = 1
     ·
      rw [if_pos c5] at H
      have c5b0 : ((Go.bits .and .i64 (ji4) 1) == 1) = true := beq_iff_eq.mpr c5
      have c5b1 : ((Go.bits .and .i64 (ji4) 1) != 1) = false := bne_eq_false_iff_eq.mpr c5
      clear c5
      have c6b0 := eq_true (of_decide_eq_true asz : 0 ≤ x4_1)
      by_cases c7 : x4_1 ≤ (wrap64 (x4_1 + 1))
      ·
       rw [if_pos c7] at H
       have c7b0 := eq_true c7
       have c7b1 : decide (x4_1 ≤ (wrap64 (x4_1 + 1))) = true := decide_eq_true c7
       by_cases c8 : (wrap64 (x4_1 + 1)) ≤ 8
       ·
        rw [if_pos c8] at H
        have c8b0 := eq_true c8
        have c8b1 : decide ((wrap64 (x4_1 + 1)) ≤ 8) = true := decide_eq_true c8
        by_cases c9 : x3_1.size + ((⟨#[97, 98, 99, 100, 101, 102, 103, 104]⟩ : ByteArray).extract (x4_1 : Int).toNat ((wrap64 (x4_1 + 1)) : Int).toNat).size ≤ 9223372036854775807
        ·
         rw [if_pos c9] at H
         have c9b0 := eq_true c9
         have c9b1 : decide (x3_1.size + ((⟨#[97, 98, 99, 100, 101, 102, 103, 104]⟩ : ByteArray).extract (x4_1 : Int).toNat ((wrap64 (x4_1 + 1)) : Int).toNat).size ≤ 9223372036854775807) = true := decide_eq_true c9
         try have c9b2 : (9223372036854775807 < x3_1.size + ((⟨#[97, 98, 99, 100, 101, 102, 103, 104]⟩ : ByteArray).extract (x4_1 : Int).toNat ((wrap64 (x4_1 + 1)) : Int).toNat).size) = False := eq_false (Nat.not_lt.2 c9)
         have H' := Aside0.mk H
         clear H
         go_wp2
         go_roundg k1
         case measure => have := HK1.out; omega
         case rel => exact ⟨(x3_1 ++ ((⟨#[97, 98, 99, 100, 101, 102, 103, 104]⟩ : ByteArray).extract (x4_1 : Int).toNat ((wrap64 (x4_1 + 1)) : Int).toNat)), (wrap64 (x4_1 + 1)), rsz, rsz, H', ⟨by have := HK1.out; omega⟩, drz⟩
        ·
         rw [if_neg c9] at H
         exact absurd H (by simp)
       ·
        rw [if_neg c8] at H
        exact absurd H (by simp)
      ·
       rw [if_neg c7] at H
       exact absurd H (by simp)
     ·
      rw [if_neg c5] at H
      have c5b0 : ((Go.bits .and .i64 (ji4) 1) == 1) = false := beq_eq_false_iff_ne.mpr c5
      have c5b1 : ((Go.bits .and .i64 (ji4) 1) != 1) = true := bne_iff_ne.mpr c5
      have H' := Aside0.mk H
      clear H
      go_wp2
      go_roundg k1
      case measure => have := HK1.out; omega
      case rel => exact ⟨(x3_1), (wrap64 (x4_1 + 1)), rsz, rsz, H', ⟨by have := HK1.out; omega⟩, drz⟩
    ·
     rw [if_neg c3] at H
     exact absurd H (by simp)
   ·
    rw [if_neg c2] at H
    have c2b0 : decide (x4_1 < 8) = false := decide_eq_false c2
    clear c2
    obtain rfl := Option.some.inj H
    go_wp2
    go_ret
    exact ⟨by first | rfl | (simp; done) | (simp [*]; done), drz⟩

/-! ### dropperref09_Letters: function 48 -/
def dropperref09_Letters.l0 : Nat → ByteArray → Int → Int → Option (ByteArray × Int)
 | 0, _, _, _ => none
 | k + 1, x0, x4, x5 => if x5 < (x0.size : Int) then (if 0 ≤ x5 then (if (bt x0 x5) ≥ 97 then (dropperref09_Letters.l0 k x0 (Go.bits .or .i64 x4 (shl .i64 1 (((bt x0 x5) - 97) % 256))) (wrap64 (x5 + 1))) else (dropperref09_Letters.l0 k x0 x4 (wrap64 (x5 + 1)))) else (none)) else ((dropperref09_text.f k x4).bind fun t243 => (some (t243, 0)))
def dropperref09_Letters.f (k : Nat) (a0 : ByteArray) : Option (ByteArray × Int) := (dropperref09_Valid.f a0).bind fun t242 => (if t242 = true then (dropperref09_Letters.l0 k a0 0 0) else (some ((⟨#[]⟩ : ByteArray), 90)))
set_option maxHeartbeats 8000000 in
set_option maxRecDepth 100000 in
theorem dropperref09_Letters.calls (k : Nat) (a0 : ByteArray) (r1 : ByteArray) (r2 : Int) (w : World) (h : dropperref09_Letters.f k a0 = some (r1, r2)) :
  Calls Try.prog 48 #[.string a0] w fun e w' => e = .returned (.tuple #[.string r1, .int .i64 r2]) ∧ Below w.heap.size w w' := by
 have HB := Aside0.mk (Below.refl w.heap.size w)
 have H : ((dropperref09_Valid.f a0).bind fun t242 => (if t242 = true then (dropperref09_Letters.l0 k a0 0 0) else (some ((⟨#[]⟩ : ByteArray), 90)))) = some (r1, r2) := h
 clear h
 replace H := Option.bind_eq_some_iff.mp H
 obtain ⟨t242, A20, H⟩ := H
 try dsimp only at H
 have A2 := Aside0.mk A20
 clear A20
 by_cases c3 : t242 = true
 ·
  subst c3
  rw [if_pos rfl] at H
  have H' := Aside0.mk H
  clear H
  go_enter Try.func48, Try.ntmps48
  go_wp2_with (first | ((with_reducible refine gate_callee (f := 21) rfl ?_); refine goesL_ (some 7) rfl rfl Try.func21 (by kernel_rfl) rfl #[.string a0] rfl mapz ?_; (with_reducible refine (dropperref09_Valid.calls a0 true _ A2.out).mono ?_); rintro e w4 ⟨rfl, hb⟩; refine ⟨_, rfl, ?_⟩; replace HB := Aside0.mk (below_step bel hb); clear hb))
  go_loopg [4, 5] k (fun kq v4 v5 w' => ∃ (x4_1 : Int) (x5_1 : Int), v4 = .int .i64 x4_1 ∧ v5 = .int .i64 x5_1 ∧ Aside0 (dropperref09_Letters.l0 kq a0 x4_1 x5_1 = some (r1, r2)) ∧ Aside0 (kq ≤ k) ∧ Aside0 (Below w.heap.size w w'))
  case atStart => exact ⟨(0), (0), rsz, rsz, H', ⟨Nat.le_refl _⟩, ⟨bel⟩⟩
  case round =>
   clear H'
   (try clear c2); (try clear p2); (try clear c3); (try clear c4)
   obtain ⟨x4_1, x5_1, rfl, rfl, HA, HK1, HB⟩ := hrel
   cases gk with
   | zero => exact absurd HA.out (by simp [dropperref09_Letters.l0])
   | succ k1 =>
    have H := HA.out
    clear HA
    simp only [dropperref09_Letters.l0] at H
    by_cases c5 : x5_1 < (a0.size : Int)
    ·
     rw [if_pos c5] at H
     have c5b0 : decide (x5_1 < (a0.size : Int)) = true := decide_eq_true c5
     clear c5
     by_cases c6 : 0 ≤ x5_1
     ·
      rw [if_pos c6] at H
      have c6b0 : decide (0 ≤ x5_1) = true := decide_eq_true c6
      clear c6
      by_cases c8 : (bt a0 x5_1) ≥ 97
      ·
       rw [if_pos c8] at H
       have c8b0 : decide (97 ≤ (bt a0 x5_1)) = true := decide_eq_true c8
       clear c8
       obtain ⟨ji10, hji10⟩ : ∃ j_ : Int, (shl .i64 1 (((bt a0 x5_1) - 97) % 256)) = j_ := ⟨_, rfl⟩
       replace H : (dropperref09_Letters.l0 k1 a0 (Go.bits .or .i64 x4_1 (ji10)) (wrap64 (x5_1 + 1))) = some (r1, r2) := by first | (rw [hji10] at H; exact H) | (simp only [hji10] at H ⊢; exact H)
       have hji10_ : (IntKind.i64.wrap (1 * 2 ^ min (((bt a0 x5_1) - 97) % 256).toNat 64)) = ji10 := hji10
       have hji100 : 0 ≤ (((bt a0 x5_1) - 97) % 256) := Int.emod_nonneg _ (by decide)
       have hji10z : (((bt a0 x5_1) - 97) % 256) ≤ 64 → (IntKind.i64.wrap (1 * 2 ^ (((bt a0 x5_1) - 97) % 256).toNat)) = ji10 := shl_small hji10
       have hji10u : (IntKind.i64.wrap (2 ^ min (((bt a0 x5_1) - 97) % 256).toNat 64)) = ji10 := by have h_ := hji10_; rw [Int.one_mul] at h_; exact h_
       have hji10v : (((bt a0 x5_1) - 97) % 256) ≤ 64 → (IntKind.i64.wrap (2 ^ (((bt a0 x5_1) - 97) % 256).toNat)) = ji10 := fun hle_ => by have h_ := hji10z hle_; rw [Int.one_mul] at h_; exact h_
       have hji10y : (wrap64 (1 * 2 ^ min (((bt a0 x5_1) - 97) % 256).toNat 64)) = ji10 := (i64_w _).symm.trans hji10_
       have hji10x : (((bt a0 x5_1) - 97) % 256) ≤ 64 → (wrap64 (1 * 2 ^ (((bt a0 x5_1) - 97) % 256).toNat)) = ji10 := fun h_ => (i64_w _).symm.trans (hji10z h_)
       have H' := Aside0.mk H
       clear H
       have p7 : 0 ≤ (x5_1 : Int) := of_decide_eq_true asz
       have q7 : x5_1 < (a0.size : Int) := of_decide_eq_true asz
       have hx7 := bt_at a0 x5_1
       replace p7 := eq_true p7
       replace q7 := eq_true q7
       have p9 : 0 ≤ (x5_1 : Int) := of_decide_eq_true asz
       have q9 : x5_1 < (a0.size : Int) := of_decide_eq_true asz
       have hx9 := bt_at a0 x5_1
       replace p9 := eq_true p9
       replace q9 := eq_true q9
       go_wp2
       go_roundg k1
       case measure => have := HK1.out; omega
       case rel => exact ⟨(Go.bits .or .i64 x4_1 (ji10)), (wrap64 (x5_1 + 1)), (by first | rfl | (simp; done) | (simp only [← hji10] <;> (first | rfl | simp)) | (simp [*]; done)), rsz, H', ⟨by have := HK1.out; omega⟩, ⟨bel⟩⟩
      ·
       rw [if_neg c8] at H
       have c8b0 : decide (97 ≤ (bt a0 x5_1)) = false := decide_eq_false c8
       clear c8
       have H' := Aside0.mk H
       clear H
       have p7 : 0 ≤ (x5_1 : Int) := of_decide_eq_true asz
       have q7 : x5_1 < (a0.size : Int) := of_decide_eq_true asz
       have hx7 := bt_at a0 x5_1
       replace p7 := eq_true p7
       replace q7 := eq_true q7
       go_wp2
       go_roundg k1
       case measure => have := HK1.out; omega
       case rel => exact ⟨(x4_1), (wrap64 (x5_1 + 1)), rsz, rsz, H', ⟨by have := HK1.out; omega⟩, ⟨bel⟩⟩
     ·
      rw [if_neg c6] at H
      exact absurd H (by simp)
    ·
     rw [if_neg c5] at H
     have c5b0 : decide (x5_1 < (a0.size : Int)) = false := decide_eq_false c5
     clear c5
     replace H := Option.bind_eq_some_iff.mp H
     obtain ⟨t243, A110, H⟩ := H
     try dsimp only at H
     have A11 := Aside0.mk A110
     clear A110
     simp only [Option.some.injEq, Prod.mk.injEq] at H
     obtain ⟨rfl, rfl⟩ := H
     go_wp2_with (first | ((with_reducible refine gate_callee (f := 78) rfl ?_); refine goesL_ (some 27) rfl rfl Try.func78 (by kernel_rfl) rfl #[.int .i64 x4_1] rfl mapz ?_; (with_reducible refine (dropperref09_text.calls k1 x4_1 t243 _ A11.out).mono ?_); rintro e w' ⟨rfl, ⟨nd, rfl⟩⟩; refine ⟨_, rfl, ?_⟩))
     go_ret2
     exact ⟨ezz, bel⟩
 ·
  replace c3 := Bool.eq_false_iff.mpr c3
  subst c3
  rw [if_neg (show ¬ (false = true) by decide)] at H
  simp only [Option.some.injEq, Prod.mk.injEq] at H
  obtain ⟨rfl, rfl⟩ := H
  go_enter Try.func48, Try.ntmps48
  go_wp2_with (first | ((with_reducible refine gate_callee (f := 21) rfl ?_); refine goesL_ (some 7) rfl rfl Try.func21 (by kernel_rfl) rfl #[.string a0] rfl mapz ?_; (with_reducible refine (dropperref09_Valid.calls a0 false _ A2.out).mono ?_); rintro e w12 ⟨rfl, hb⟩; refine ⟨_, rfl, ?_⟩; replace HB := Aside0.mk (below_step bel hb); clear hb))
  go_ret2
  exact ⟨ezz, bel⟩

/-! ### loop_Valid: function 49 -/
def loop_Valid.f (a0 : ByteArray) : Option (Bool) := some ((parseL a0.data.toList).isSome)
theorem loop_Valid.calls (a0 : ByteArray) (r : Bool) (w : World) (h : loop_Valid.f a0 = some r) :
  Calls Try.prog 49 #[.string a0] w fun e w' => e = .returned (.bool r) ∧ Below w.heap.size w w' := by
 obtain rfl := Option.some.inj h
 have hc := valid_calls a0.data.toList w
 simp only [tx_data] at hc
 exact hc

/-! ### loop_number: function 83 -/
def loop_number.f (a0 : ByteArray) : Option (Int × Bool) := numL a0 (a0.size + 1) 0 0 (-1)
theorem loop_number.calls (a0 : ByteArray) (r1 : Int) (r2 : Bool) (w : World) (h : loop_number.f a0 = some (r1, r2)) :
  Calls Try.prog 83 #[.string a0] w fun e w' => e = .returned (.tuple #[.int .i64 r1, .bool r2]) ∧ Below w.heap.size w w' := number_calls _ a0 r1 r2 w h

/-! ### loop_ValidSet: function 50 -/
def loop_ValidSet.f (a0 : ByteArray) : Option (Bool) := (loop_number.f a0).bind fun bt244 => (some bt244.2)
set_option maxHeartbeats 8000000 in
set_option maxRecDepth 100000 in
theorem loop_ValidSet.calls (a0 : ByteArray) (r : Bool) (w : World) (h : loop_ValidSet.f a0 = some r) :
  Calls Try.prog 50 #[.string a0] w fun e w' => e = .returned (.bool r) ∧ Below w.heap.size w w' := by
 have HB := Aside0.mk (Below.refl w.heap.size w)
 have H : ((loop_number.f a0).bind fun bt244 => (some bt244.2)) = some r := h
 clear h
 replace H := Option.bind_eq_some_iff.mp H
 obtain ⟨⟨t244, t245⟩, A20, H⟩ := H
 try dsimp only at H
 have A2 := Aside0.mk A20
 clear A20
 obtain rfl := Option.some.inj H
 go_enter Try.func50, Try.ntmps50
 go_wp2_with (first | ((with_reducible refine gate_callee (f := 83) rfl ?_); refine goesL_ (some 7) rfl rfl Try.func83 (by kernel_rfl) rfl #[.string a0] rfl mapz ?_; (with_reducible refine (loop_number.calls a0 t244 t245 _ A2.out).mono ?_); rintro e w3 ⟨rfl, hb⟩; refine ⟨_, rfl, ?_⟩; replace HB := Aside0.mk (below_step bel hb); clear hb))
 go_ret
 exact ⟨ezz, bel⟩

/-! ### dropperlaw09_LoopConducts: function 11 -/
def dropperlaw09_LoopConducts.f (k : Nat) (a0 : ByteArray) (a1 : ByteArray) : Option (Bool) := (dropperlaw09_Long.f a0 a1).bind fun t246 => (if t246 = true then ((dropperlaw09_First.f k).bind fun t247 => (some t247)) else ((loop_Conducts.f a0 a1).bind fun bt248 => ((dropperref09_Conducts.f a0 a1).bind fun bt250 => ((loop_Letters.f a0).bind fun bt252 => ((dropperref09_Letters.f k a0).bind fun bt254 => ((loop_Valid.f a0).bind fun t256 => ((dropperref09_Valid.f a0).bind fun t257 => (if (t256 == t257) = true then ((loop_ValidSet.f a1).bind fun t258 => ((dropperref09_ValidSet.f k a1).bind fun t259 => (if (t258 == t259) = true then (if (bt248.1 == bt250.1) = true then (if bt248.2 = bt250.2 then (if bt252.1.toList = bt254.1.toList then (if bt252.2 = bt254.2 then ((dropperlaw09_First.f k).bind fun t260 => (some t260)) else (none)) else (none)) else (none)) else (none)) else (none)))) else (none)))))))))
set_option maxHeartbeats 8000000 in
set_option maxRecDepth 100000 in
theorem dropperlaw09_LoopConducts.calls (k : Nat) (a0 : ByteArray) (a1 : ByteArray) (r : Bool) (w : World) (h : dropperlaw09_LoopConducts.f k a0 a1 = some r) :
  Calls Try.prog 11 #[.string a0, .string a1] w fun e w' => e = .returned (.bool r) ∧ Below w.heap.size w w' := by
 have HB := Aside0.mk (Below.refl w.heap.size w)
 have H : ((dropperlaw09_Long.f a0 a1).bind fun t246 => (if t246 = true then ((dropperlaw09_First.f k).bind fun t247 => (some t247)) else ((loop_Conducts.f a0 a1).bind fun bt248 => ((dropperref09_Conducts.f a0 a1).bind fun bt250 => ((loop_Letters.f a0).bind fun bt252 => ((dropperref09_Letters.f k a0).bind fun bt254 => ((loop_Valid.f a0).bind fun t256 => ((dropperref09_Valid.f a0).bind fun t257 => (if (t256 == t257) = true then ((loop_ValidSet.f a1).bind fun t258 => ((dropperref09_ValidSet.f k a1).bind fun t259 => (if (t258 == t259) = true then (if (bt248.1 == bt250.1) = true then (if bt248.2 = bt250.2 then (if bt252.1.toList = bt254.1.toList then (if bt252.2 = bt254.2 then ((dropperlaw09_First.f k).bind fun t260 => (some t260)) else (none)) else (none)) else (none)) else (none)) else (none)))) else (none)))))))))) = some r := h
 clear h
 replace H := Option.bind_eq_some_iff.mp H
 obtain ⟨t246, A30, H⟩ := H
 try dsimp only at H
 have A3 := Aside0.mk A30
 clear A30
 by_cases c4 : t246 = true
 ·
  subst c4
  rw [if_pos rfl] at H
  replace H := Option.bind_eq_some_iff.mp H
  obtain ⟨t247, A50, H⟩ := H
  try dsimp only at H
  have A5 := Aside0.mk A50
  clear A50
  obtain rfl := Option.some.inj H
  go_enter Try.func11, Try.ntmps11
  go_wp2_with (first | ((with_reducible refine gate_callee (f := 14) rfl ?_); refine goesL_ (some 15) rfl rfl Try.func14 (by kernel_rfl) rfl #[.string a0, .string a1] rfl mapz ?_; (with_reducible refine (dropperlaw09_Long.calls a0 a1 true _ A3.out).mono ?_); rintro e w' ⟨rfl, ⟨nd, rfl⟩⟩; refine ⟨_, rfl, ?_⟩) | ((with_reducible refine gate_callee (f := 15) rfl ?_); refine goesL_ (some 16) rfl rfl Try.func15 (by kernel_rfl) rfl #[] rfl mapz ?_; (with_reducible refine (dropperlaw09_First.calls k  t247 _ A5.out).mono ?_); rintro e w6 ⟨rfl, hb⟩; refine ⟨_, rfl, ?_⟩; replace HB := Aside0.mk (below_step bel hb); clear hb))
  go_ret
  exact ⟨ezz, bel⟩
 ·
  replace c4 := Bool.eq_false_iff.mpr c4
  subst c4
  rw [if_neg (show ¬ (false = true) by decide)] at H
  replace H := Option.bind_eq_some_iff.mp H
  obtain ⟨⟨t248, t249⟩, A70, H⟩ := H
  try dsimp only at H
  have A7 := Aside0.mk A70
  clear A70
  replace H := Option.bind_eq_some_iff.mp H
  obtain ⟨⟨t250, t251⟩, A80, H⟩ := H
  try dsimp only at H
  have A8 := Aside0.mk A80
  clear A80
  replace H := Option.bind_eq_some_iff.mp H
  obtain ⟨⟨t252, t253⟩, A90, H⟩ := H
  try dsimp only at H
  have A9 := Aside0.mk A90
  clear A90
  replace H := Option.bind_eq_some_iff.mp H
  obtain ⟨⟨t254, t255⟩, A100, H⟩ := H
  try dsimp only at H
  have A10 := Aside0.mk A100
  clear A100
  replace H := Option.bind_eq_some_iff.mp H
  obtain ⟨t256, A110, H⟩ := H
  try dsimp only at H
  have A11 := Aside0.mk A110
  clear A110
  replace H := Option.bind_eq_some_iff.mp H
  obtain ⟨t257, A120, H⟩ := H
  try dsimp only at H
  have A12 := Aside0.mk A120
  clear A120
  by_cases c13 : (t256 == t257) = true
  ·
   rw [if_pos c13] at H
   have c13b0 : (t256 == t257) = true := c13
   (try (have c13b1 : decide (t256 = t257) = true := by simpa using c13))
   (try (have c13b2 : (t256 == t257) = true := by simpa using c13))
   clear c13
   replace H := Option.bind_eq_some_iff.mp H
   obtain ⟨t258, A140, H⟩ := H
   try dsimp only at H
   have A14 := Aside0.mk A140
   clear A140
   replace H := Option.bind_eq_some_iff.mp H
   obtain ⟨t259, A150, H⟩ := H
   try dsimp only at H
   have A15 := Aside0.mk A150
   clear A150
   by_cases c16 : (t258 == t259) = true
   ·
    rw [if_pos c16] at H
    have c16b0 : (t258 == t259) = true := c16
    (try (have c16b1 : decide (t258 = t259) = true := by simpa using c16))
    (try (have c16b2 : (t258 == t259) = true := by simpa using c16))
    clear c16
    by_cases c17 : (t248 == t250) = true
    ·
     rw [if_pos c17] at H
     have c17b0 : (t248 == t250) = true := c17
     (try (have c17b1 : decide (t248 = t250) = true := by simpa using c17))
     (try (have c17b2 : (t248 == t250) = true := by simpa using c17))
     clear c17
     by_cases c18 : t249 = t251
     ·
      rw [if_pos c18] at H
      have c18b0 : (t249 == t251) = true := beq_iff_eq.mpr c18
      have c18b1 : (t249 != t251) = false := bne_eq_false_iff_eq.mpr c18
      clear c18
      by_cases c19 : t252.toList = t254.toList
      ·
       rw [if_pos c19] at H
       have c19b0 : (t252.toList == t254.toList) = true := beq_iff_eq.mpr c19
       have c19b1 : (t252.toList != t254.toList) = false := bne_eq_false_iff_eq.mpr c19
       clear c19
       by_cases c20 : t253 = t255
       ·
        rw [if_pos c20] at H
        have c20b0 : (t253 == t255) = true := beq_iff_eq.mpr c20
        have c20b1 : (t253 != t255) = false := bne_eq_false_iff_eq.mpr c20
        clear c20
        replace H := Option.bind_eq_some_iff.mp H
        obtain ⟨t260, A210, H⟩ := H
        try dsimp only at H
        have A21 := Aside0.mk A210
        clear A210
        obtain rfl := Option.some.inj H
        go_enter Try.func11, Try.ntmps11
        go_wp2_with (first | ((with_reducible refine gate_callee (f := 14) rfl ?_); refine goesL_ (some 15) rfl rfl Try.func14 (by kernel_rfl) rfl #[.string a0, .string a1] rfl mapz ?_; (with_reducible refine (dropperlaw09_Long.calls a0 a1 false _ A3.out).mono ?_); rintro e w' ⟨rfl, ⟨nd, rfl⟩⟩; refine ⟨_, rfl, ?_⟩) | ((with_reducible refine gate_callee (f := 25) rfl ?_); refine goesL_ (some 20) rfl rfl Try.func25 (by kernel_rfl) rfl #[.string a0, .string a1] rfl mapz ?_; (with_reducible refine (loop_Conducts.calls a0 a1 t248 t249 _ A7.out).mono ?_); rintro e w22 ⟨rfl, hb⟩; refine ⟨_, rfl, ?_⟩; replace HB := Aside0.mk (below_step bel hb); clear hb) | ((with_reducible refine gate_callee (f := 46) rfl ?_); refine goesL_ (some 26) rfl rfl Try.func46 (by kernel_rfl) rfl #[.string a0, .string a1] rfl mapz ?_; (with_reducible refine (dropperref09_Conducts.calls a0 a1 t250 t251 _ A8.out).mono ?_); rintro e w23 ⟨rfl, hb⟩; refine ⟨_, rfl, ?_⟩; replace HB := Aside0.mk (below_step bel hb); clear hb) | ((with_reducible refine gate_callee (f := 47) rfl ?_); refine goesL_ (some 31) rfl rfl Try.func47 (by kernel_rfl) rfl #[.string a0] rfl mapz ?_; (with_reducible refine (loop_Letters.calls a0 t252 t253 _ A9.out).mono ?_); rintro e w24 ⟨rfl, hb⟩; refine ⟨_, rfl, ?_⟩; replace HB := Aside0.mk (below_step bel hb); clear hb) | ((with_reducible refine gate_callee (f := 48) rfl ?_); refine goesL_ (some 36) rfl rfl Try.func48 (by kernel_rfl) rfl #[.string a0] rfl mapz ?_; (with_reducible refine (dropperref09_Letters.calls k a0 t254 t255 _ A10.out).mono ?_); rintro e w25 ⟨rfl, hb⟩; refine ⟨_, rfl, ?_⟩; replace HB := Aside0.mk (below_step bel hb); clear hb) | ((with_reducible refine gate_callee (f := 49) rfl ?_); refine goesL_ (some 40) rfl rfl Try.func49 (by kernel_rfl) rfl #[.string a0] rfl mapz ?_; (with_reducible refine (loop_Valid.calls a0 t256 _ A11.out).mono ?_); rintro e w26 ⟨rfl, hb⟩; refine ⟨_, rfl, ?_⟩; replace HB := Aside0.mk (below_step bel hb); clear hb) | ((with_reducible refine gate_callee (f := 21) rfl ?_); refine goesL_ (some 42) rfl rfl Try.func21 (by kernel_rfl) rfl #[.string a0] rfl mapz ?_; (with_reducible refine (dropperref09_Valid.calls a0 t257 _ A12.out).mono ?_); rintro e w27 ⟨rfl, hb⟩; refine ⟨_, rfl, ?_⟩; replace HB := Aside0.mk (below_step bel hb); clear hb) | (go_at_call 50; (with_reducible refine (loop_ValidSet.calls a1 t258 _ A14.out).mono ?_); rintro e w28 ⟨rfl, hb⟩; replace HB := Aside0.mk (below_step bel hb); clear hb) | (go_at_call 22; (with_reducible refine (dropperref09_ValidSet.calls k a1 t259 _ A15.out).mono ?_); rintro e w' ⟨rfl, ⟨nd, rfl⟩⟩) | (go_at_call 15; (with_reducible refine (dropperlaw09_First.calls k  t260 _ A21.out).mono ?_); rintro e w29 ⟨rfl, hb⟩; replace HB := Aside0.mk (below_step bel hb); clear hb))
        go_ret
        exact ⟨ezz, bel⟩
       ·
        rw [if_neg c20] at H
        exact absurd H (by simp)
      ·
       rw [if_neg c19] at H
       exact absurd H (by simp)
     ·
      rw [if_neg c18] at H
      exact absurd H (by simp)
    ·
     rw [if_neg c17] at H
     exact absurd H (by simp)
   ·
    rw [if_neg c16] at H
    exact absurd H (by simp)
  ·
   rw [if_neg c13] at H
   exact absurd H (by simp)

end Go.Proofs.Yteikgnaikeleaaa.XLoop
-- Written by wip/xprint.py of this repo, over the kit's print.py: out of the translation; the oracles in it are by hand. Not trusted: Lean checks it.
namespace Go.Proofs.Yteikgnaikeleaaa.XLoop
open Go.RowKit Go.Proofs.Yteikgnaikeleaaa.XLoop Go.Proofs.YteikgnaikeleaaaW.PrintWords Go.Proofs.YteikgnaikeleaaaW.PrintLast Go.Proofs.YteikgnaikeleaaaW.PrintMore
def dropperlaw09_LoopConducts.Pure : Prop := ∀ (a0 : ByteArray) (a1 : ByteArray), (a0.size ≤ maxLen) → (a1.size ≤ maxLen) → ∃ k, dropperlaw09_LoopConducts.f k a0 a1 = some true
end Go.Proofs.Yteikgnaikeleaaa.XLoop

/- Which bytes a circuit's text has; its letters, as the reference gathers them. -/
namespace Go.Proofs.Yteikgnaikeleaaa
open Go.RowKit Go.Proofs.YteikgnaikeleaaaW.PrintWords Go.Proofs.YteikgnaikeleaaaW.PrintLast Go.Proofs.YteikgnaikeleaaaW.PrintMore
set_option linter.unusedVariables false

def okB (b : UInt8) : Prop := isL b = true ∨ b.toNat < 97
def Eats (P : PF) : Prop := ∀ l m t, P l = some (m, t) → ∃ p, l = p ++ t ∧ ∀ b ∈ p, okB b
theorem parts_eats {P : PF} (hP : Eats P) : ∀ k acc l b t, partsL P k acc l = some (b, t) → ∃ p, l = p ++ t ∧ ∀ b ∈ p, okB b
 | 0, acc, l, b, t, h => by simp [partsL] at h
 | k + 1, acc, [], b, t, h => by
  simp only [partsL, Option.some.injEq, Prod.mk.injEq] at h
  exact ⟨[], by rw [← h.2]; rfl, by simp⟩
 | k + 1, acc, c :: l, b, t, h => by
  rw [partsL] at h
  split at h
  ·
   simp only [Option.some.injEq, Prod.mk.injEq] at h
   exact ⟨[], by rw [← h.2]; rfl, by simp⟩
  ·
   cases hp : P (c :: l) with
   | none => rw [hp] at h; cases h
   | some y =>
    obtain ⟨m, l'⟩ := y
    rw [hp] at h
    obtain ⟨p1, e1, o1⟩ := hP _ _ _ hp
    obtain ⟨p2, e2, o2⟩ := parts_eats hP k _ _ _ _ h
    refine ⟨p1 ++ p2, by rw [e1, e2, List.append_assoc], fun x hx => ?_⟩
    rcases List.mem_append.1 hx with hx | hx
    ·
     exact o1 x hx
    ·
     exact o2 x hx
theorem circ_eats {P : PF} (hP : Eats P) : ∀ k acc l c t, circL P k acc l = some (c, t) → ∃ p, l = p ++ t ∧ ∀ b ∈ p, okB b
 | 0, acc, l, c, t, h => by simp [circL] at h
 | k + 1, acc, l, c, t, h => by
  rw [circL] at h
  cases hp : P l with
  | none => rw [hp] at h; cases h
  | some y =>
   obtain ⟨m, l1⟩ := y
   rw [hp] at h
   simp only at h
   cases hb : partsL P (l1.length + 1) [m] l1 with
   | none => rw [hb] at h; cases h
   | some z =>
    obtain ⟨b, l2⟩ := z
    rw [hb] at h
    simp only at h
    obtain ⟨p1, e1, o1⟩ := hP _ _ _ hp
    obtain ⟨p2, e2, o2⟩ := parts_eats hP _ _ _ _ _ hb
    have o12 : ∀ x ∈ p1 ++ p2, okB x := fun x hx => by
     rcases List.mem_append.1 hx with hx | hx
     ·
      exact o1 x hx
     ·
      exact o2 x hx
    cases l2 with
    | nil =>
     simp only [Option.some.injEq, Prod.mk.injEq] at h
     exact ⟨p1 ++ p2, by rw [← h.2, e1, e2, List.append_assoc], o12⟩
    | cons d l3 =>
     simp only at h
     split at h
     ·
      rename_i hd
      obtain ⟨p3, e3, o3⟩ := circ_eats hP k _ _ _ _ h
      refine ⟨p1 ++ p2 ++ (d :: p3), by rw [e1, e2, e3]; simp, fun x hx => ?_⟩
      rcases List.mem_append.1 hx with hx | hx
      ·
       exact o12 x hx
      ·
       rcases List.mem_cons.1 hx with rfl | hx
       ·
        exact Or.inr (by rw [hd]; decide)
       ·
        exact o3 x hx
     ·
      simp only [Option.some.injEq, Prod.mk.injEq] at h
      exact ⟨p1 ++ p2, by rw [← h.2, e1, e2, List.append_assoc], o12⟩
theorem part_eats : ∀ n, Eats (pPart n)
 | 0 => fun l m t h => by simp [pPart] at h
 | n + 1 => fun l m t h => by
  cases l with
  | nil => simp [pPart] at h
  | cons b l =>
   rw [pPart_succ] at h
   split at h
   ·
    rename_i hb
    simp only [Option.some.injEq, Prod.mk.injEq] at h
    exact ⟨[b], by rw [← h.2]; rfl, fun x hx => Or.inl (by rw [List.mem_singleton.1 hx]; exact hb)⟩
   ·
    split at h
    ·
     rename_i hb
     have hb40 : b = 40 := by simpa using hb
     cases hc : circL (pPart n) (l.length + 1) [] l with
     | none => rw [hc] at h; cases h
     | some y =>
      obtain ⟨c, l2⟩ := y
      rw [hc] at h
      obtain ⟨p, e, o⟩ := circ_eats (part_eats n) _ _ _ _ _ hc
      cases l2 with
      | nil => simp at h
      | cons d l3 =>
       split at h
       ·
        rename_i c2 t2 heq
        obtain ⟨rfl, hd⟩ := Prod.mk.inj (Option.some.inj heq)
        obtain ⟨rfl, rfl⟩ := List.cons.inj hd
        simp only [Option.some.injEq, Prod.mk.injEq] at h
        refine ⟨b :: (p ++ [41]), by rw [e, ← h.2]; simp, fun x hx => ?_⟩
        rcases List.mem_cons.1 hx with rfl | hx
        ·
         exact Or.inr (by rw [hb40]; decide)
        ·
         rcases List.mem_append.1 hx with hx | hx
         ·
          exact o x hx
         ·
          exact Or.inr (by rw [List.mem_singleton.1 hx]; decide)
       ·
        cases h
    ·
     cases h
theorem parse_bytes {s : List UInt8} {m : Mean} (h : parseL s = some m) : ∀ b ∈ s, okB b := by
 unfold parseL at h
 obtain ⟨c, hc, rfl⟩ := Option.map_eq_some_iff.1 h
 unfold parseC at hc
 split at hc
 ·
  cases hq : circL (pPart (s.length + 1)) (s.length + 1) [] s with
  | none => rw [hq] at hc; cases hc
  | some y =>
   obtain ⟨c', l2⟩ := y
   rw [hq] at hc
   obtain ⟨p, e, o⟩ := circ_eats (part_eats _) _ _ _ _ _ hq
   cases l2 with
   | nil =>
    rw [List.append_nil] at e
    rw [e]; exact o
   | cons d l => simp at hc
 ·
  cases hc
/-! the letters -/
def gath (s : List UInt8) (o : Nat) : Nat := s.foldl (fun o b => if 97 ≤ b.toNat then o ||| 2 ^ (b.toNat - 97) else o) o
theorem letter_eq (b : UInt8) (h : isL b = true) (i : Nat) (hi : i < 8) : (UInt8.ofNat (97 + i) == b) = decide (b.toNat - 97 = i) := by
 have h1 := (isL_iff b).1 h
 rw [Bool.eq_iff_iff, beq_iff_eq, decide_eq_true_iff]
 constructor
 ·
  intro e
  have := congrArg UInt8.toNat e
  simp at this
  omega
 ·
  intro e
  apply UInt8.toNat_inj.1
  simp
  omega
theorem letter_ne (b : UInt8) (h : b.toNat < 97) (i : Nat) (hi : i < 8) : (UInt8.ofNat (97 + i) == b) = false := by
 rw [beq_eq_false_iff_ne]
 intro e
 have := congrArg UInt8.toNat e
 simp at this
 omega
theorem gath_bit : ∀ (s : List UInt8) (o i : Nat), (∀ b ∈ s, okB b) → i < 8 → (gath s o).testBit i = (o.testBit i || s.contains (UInt8.ofNat (97 + i)))
 | [], o, i, _, hi => by simp [gath]
 | b :: t, o, i, h, hi => by
  have ht : ∀ b ∈ t, okB b := fun x hx => h x (List.mem_cons_of_mem _ hx)
  have hb := h b (List.mem_cons_self ..)
  have hs : gath (b :: t) o = gath t (if 97 ≤ b.toNat then o ||| 2 ^ (b.toNat - 97) else o) := rfl
  rw [hs, gath_bit t _ i ht hi, List.contains_cons]
  rcases hb with hb | hb
  ·
   have h1 := (isL_iff b).1 hb
   rw [if_pos (by omega), letter_eq b hb i hi, Nat.testBit_or, Nat.testBit_two_pow]
   rw [Bool.or_assoc]
  ·
   rw [if_neg (by omega), letter_ne b hb i hi, Bool.false_or]
theorem gath_lt : ∀ (s : List UInt8) (o : Nat), (∀ b ∈ s, okB b) → o < 256 → gath s o < 256
 | [], o, _, ho => ho
 | b :: t, o, h, ho => by
  have ht : ∀ b ∈ t, okB b := fun x hx => h x (List.mem_cons_of_mem _ hx)
  have hs : gath (b :: t) o = gath t (if 97 ≤ b.toNat then o ||| 2 ^ (b.toNat - 97) else o) := rfl
  rw [hs]
  refine gath_lt t _ ht ?_
  split
  ·
   rcases h b (List.mem_cons_self ..) with hb | hb
   ·
    have h1 := (isL_iff b).1 hb
    exact or_lt ho (by omega)
   ·
    omega
  ·
   exact ho
theorem allTo_bit (s : List UInt8) (i : Nat) : ∀ j, (allTo s j).testBit i = (decide (i < j) && s.contains (UInt8.ofNat (97 + i)))
 | 0 => by simp [allTo]
 | j + 1 => by
  rw [allTo_succ]
  by_cases hj : s.contains (UInt8.ofNat (97 + j)) = true
  ·
   rw [if_pos hj, Nat.testBit_or, allTo_bit s i j, Nat.testBit_two_pow]
   by_cases hij : j = i
   ·
    subst hij; rw [hj]; simp
   ·
    have : decide (i < j + 1) = decide (i < j) := by rw [decide_eq_decide]; omega
    rw [this]; simp [hij]
  ·
   rw [if_neg hj, allTo_bit s i j]
   by_cases hij : j = i
   ·
    subst hij; rw [Bool.eq_false_iff.mpr hj]; simp
   ·
    have : decide (i < j + 1) = decide (i < j) := by rw [decide_eq_decide]; omega
    rw [this]
theorem gath_all (s : List UInt8) (h : ∀ b ∈ s, okB b) : gath s 0 = allTo s 8 := by
 apply Nat.eq_of_testBit_eq
 intro i
 by_cases hi : i < 8
 ·
  rw [gath_bit s 0 i h hi, allTo_bit, decide_eq_true hi]; simp
 ·
  have h1 : gath s 0 < 2 ^ i := Nat.lt_of_lt_of_le (gath_lt s 0 h (by decide)) (show 2 ^ 8 ≤ 2 ^ i from Nat.pow_le_pow_right (show 0 < 2 by decide) (show 8 ≤ i by omega))
  rw [Nat.testBit_lt_two_pow h1, allTo_bit, decide_eq_false hi, Bool.false_and]
theorem bits_shl (o j : Nat) (ho : o < 256) (hj : j < 8) : Go.bits .or .i64 (o : Int) (shl .i64 1 (j : Int)) = ((o ||| 2 ^ j : Nat) : Int) := by
 have h : ∀ (a : Fin 256) (i : Fin 8), Go.bits .or .i64 (a.val : Int) (shl .i64 1 (i.val : Int)) = ((a.val ||| 2 ^ i.val : Nat) : Int) := by decide +kernel
 exact h ⟨o, ho⟩ ⟨j, hj⟩
theorem leO_le {α : Type} (f : Nat → Option α) (h : ∀ k, LeO (f k) (f (k + 1))) (k j : Nat) : LeO (f k) (f (k + j)) := by
 induction j with
 | zero => exact LeO.refl _
 | succ j ih => exact ih.trans (h _)
theorem rtext_ev (n : Nat) (h : n < 256) (k : Nat) : XLoop.dropperref09_text.f (k + 9) n = some (tx (textN n)) := by
 have h9 : ∀ n : Fin 256, XLoop.dropperref09_text.f 9 n.val = some (tx (textN n.val)) := by decide +kernel
 rw [Nat.add_comm]
 exact leO_le (fun k => XLoop.dropperref09_text.f k (n : Int)) (XLoop.dropperref09_text.mono _) 9 k _ (h9 ⟨n, h⟩)
theorem rletters_ev : ∀ (t : List UInt8) (k x : Nat) (s : List UInt8) (o : Nat), s.drop x = t → s.length < 1000000000 → (∀ b ∈ t, okB b) → o < 256 → t.length < k →
  XLoop.dropperref09_Letters.l0 (k + 9) (tx s) o x = some (tx (textN (gath t o)), 0)
 | t, 0, x, s, o, hs, hm, hb, ho, hk => by simp at hk
 | [], k + 1, x, s, o, hs, hm, hb, ho, hk => by
  have : ¬ (x : Int) < ((tx s).size : Int) := by
   rw [tx_size]
   have := congrArg List.length hs
   simp at this
   omega
  rw [show k + 1 + 9 = (k + 9) + 1 from by omega, XLoop.dropperref09_Letters.l0, if_neg this, rtext_ev o ho]
  rfl
 | b :: t, k + 1, x, s, o, hs, hm, hb, ho, hk => by
  have hp : x < s.length := by
   have := congrArg List.length hs
   simp at this
   omega
  have hc := List.drop_eq_getElem_cons hp
  rw [hs] at hc
  obtain ⟨hbb, ht⟩ := List.cons.inj hc
  have h1 : (x : Int) < ((tx s).size : Int) := by rw [tx_size]; omega
  have hbt : bt (tx s) (x : Int) = (b.toNat : Int) := by rw [bt_tx s x hp, ← hbb]
  have hw : wrap64 ((x : Int) + 1) = ((x + 1 : Nat) : Int) := by unfold wrap64; omega
  have hb' : ∀ b ∈ t, okB b := fun x hx => hb x (List.mem_cons_of_mem _ hx)
  have hg : gath (b :: t) o = gath t (if 97 ≤ b.toNat then o ||| 2 ^ (b.toNat - 97) else o) := rfl
  rw [show k + 1 + 9 = (k + 9) + 1 from by omega, XLoop.dropperref09_Letters.l0, if_pos h1, if_pos (Int.natCast_nonneg x), hbt, hw, hg]
  rcases hb b (List.mem_cons_self ..) with hi | hi
  ·
   have h2 := (isL_iff b).1 hi
   have e : ((b.toNat : Int) - 97) % 256 = ((b.toNat - 97 : Nat) : Int) := by omega
   rw [if_pos (by omega), if_pos (by omega), e, bits_shl o _ ho (by omega)]
   exact rletters_ev t k (x + 1) s _ ht.symm hm hb' (or_lt ho (by omega)) (by simp at hk; omega)
  ·
   rw [if_neg (by omega), if_neg (by omega)]
   exact rletters_ev t k (x + 1) s o ht.symm hm hb' ho (by simp at hk; omega)
end Go.Proofs.Yteikgnaikeleaaa

/- Circuits, sets, with which sets a circuit conducts, its letters: program and reference answer the same. -/
namespace Go.Proofs.Yteikgnaikeleaaa.Pure
set_option linter.unusedVariables false
open Go.RowKit Go.Proofs.Yteikgnaikeleaaa.XLoop Go.Proofs.YteikgnaikeleaaaW.PrintWords Go.Proofs.YteikgnaikeleaaaW.PrintLast Go.Proofs.YteikgnaikeleaaaW.PrintMore

theorem LoopConducts : dropperlaw09_LoopConducts.Pure := by
 intro a b _ _
 refine ⟨300, ?_⟩
 have hF : dropperlaw09_First.f 300 = some true := first_evk 297
 unfold dropperlaw09_LoopConducts.f
 rcases long_ev a b with hl | ⟨hl, h1, h2⟩
 ·
  rw [hl, Option.bind_some, if_pos rfl, hF]; rfl
 ·
  have za : a.data.toList.length = a.size := by rw [← tx_size, tx_data]
  have zb : b.data.toList.length = b.size := by rw [← tx_size, tx_data]
  have e1 : dropperref09_Conducts.f a b = some ((condR a.data.toList b.data.toList).1, (condR a.data.toList b.data.toList).2) := if_pos (by omega)
  have e2 : dropperref09_Letters.f 300 a = some (tx (lettersR a.data.toList).1, (lettersR a.data.toList).2) := by
   unfold dropperref09_Letters.f dropperref09_Valid.f lettersR
   rw [Option.bind_some]
   cases hp : parseL a.data.toList with
   | none => rfl
   | some m =>
    have hb := parse_bytes hp
    have h := rletters_ev a.data.toList 291 0 a.data.toList 0 rfl (by omega) hb (by decide) (by omega)
    rw [tx_data, gath_all _ hb] at h
    exact (if_pos rfl).trans h
  have e3 : loop_ValidSet.f b = some (setL b.data.toList 0 (-1)).isSome := by
   unfold loop_ValidSet.f loop_number.f
   rw [number_eq, Option.bind_some]
   cases setL b.data.toList 0 (-1) with
   | none => rfl
   | some n => rfl
  have e4 : dropperref09_ValidSet.f 300 b = some (setL b.data.toList 0 (-1)).isSome := by
   have h := vs_eq b.data.toList 300 0 b.data.toList 0 (-1) rfl (by omega) (Or.inl ⟨rfl, rfl⟩) (by omega)
   rw [tx_data] at h
   exact h
  rw [hl, Option.bind_some, if_neg (by decide), e1, e2, e3, e4, hF]
  unfold loop_Conducts.f loop_Letters.f loop_Valid.f dropperref09_Valid.f
  simp only [Option.bind_some, beq_self_eq_true, if_true]
end Go.Proofs.Yteikgnaikeleaaa.Pure

-- Written by wip/xprint.py of this repo, over the kit's print.py: out of the translation; the oracles in it are by hand. Not trusted: Lean checks it.
namespace Go.Proofs.Yteikgnaikeleaaa.loopConducts
open Go.ChangeShapes Go.WideShapes Go.ChangeAt Go.RowKit Go.Proofs.Yteikgnaikeleaaa.Open Go.Proofs.Yteikgnaikeleaaa.XLoop Go.Proofs.YteikgnaikeleaaaW.PrintWords Go.Proofs.YteikgnaikeleaaaW.PrintLast Go.Proofs.YteikgnaikeleaaaW.PrintMore
open Go.ChangeMaps (open_string shut_string)
set_option linter.unusedVariables false
set_option linter.unusedSimpArgs false
theorem own : ownKnob Try.prog.godebug = none := by kernel_rfl
theorem laidOut : laidOutB Try.prog = true := by kernel_rfl
set_option maxRecDepth 100000 in
theorem lifted (os : Os) (started : os.Started) (H : Type) (enc : TypeId × Value → H) :
  ReturnsInHanded {} Try.checked os 11 .any (Rows.loopConductsSpec.pre6 enc Try.prog Try.f11 Rows.loopConductsRow.domain false) (Rows.loopConductsSpec.post enc Try.prog Try.f11 false true false false) := by
 refine returnsInHanded_of_change_sized (C := Try.checked) own started (by kernel_rfl) Try.func11
  (ChangeSpec.witness6 (enc := enc) (C := Try.checked) false ⟨#[], #[.string ByteArray.empty, .string ByteArray.empty], []⟩ 8 (by kernel_rfl) (by kernel_rfl) (by kernel_rfl) (by kernel_rfl)) ?_
 intro W base args ds gs before hval0 hW hcnd hsz0 _
 have hval : ∀ (j : Nat) t v, Try.f11.params[j]? = some t → args[j]? = some v → Value.okWide Try.prog W .any base t v := hval0
 have hW' := hW
 obtain ⟨p, q, hA0, hV, rfl, hfz, hnd⟩ := hW
 have hA : DataW.TrodAll enc Try.prog W 0 (fun _ => true) true Try.f11.params.toList args.toList ds p := hA0
 rw [Try.params11] at hA hval
 obtain ⟨v0, vs0, d0, ds0, p0, q0, hargs, rfl, rfl, h0, r0⟩ := trodAll_cons hA
 obtain ⟨v1, vs1, d1, ds1, p1, q1, rfl, rfl, rfl, h1, r1⟩ := trodAll_cons r0
 obtain ⟨rfl, rfl, rfl⟩ := trodAll_nil r1
 obtain rfl : args = #[v0, v1] := by cases args; simp_all
 obtain ⟨rfl, rfl⟩ := trodVars_none hV
 obtain ⟨a0, rfl, rfl, rfl, y0⟩ := open_string Try.underlying9 (hval 0 9 v0 rfl rfl) h0
 obtain ⟨a1, rfl, rfl, rfl, y1⟩ := open_string Try.underlying9 (hval 1 9 v1 rfl rfl) h1
 clear hA0 hval0 hsz0
 obtain ⟨k, h⟩ := Pure.LoopConducts a0 a1 y0 y1
 refine (dropperlaw09_LoopConducts.calls k a0 a1 true W  h).mono fun e W' ⟨he, bel0⟩ => ?_
 have bel : Below W.heap.size W W' := bel0
 subst he
 exact ⟨_, rfl, _, _, _, [], _, [], hW', trodAll_mk1 (shut_bool Try.underlying4 _), (trodAll_cons_mk (shut_string Try.underlying9 y0) (trodAll_cons_mk (shut_string Try.underlying9 y1) trodAll_mk0)), rfl, bel.frame _, fun h => by cases h⟩
theorem over : Rows.loopConductsRow.holds Try.pinned (OpenSpec.ofChange Rows.loopConductsSpec) :=
 OpenClaim.holds_of_wide 11 Try.f11 rfl rfl rfl rfl rfl rfl rfl ⟨rfl, rfl, rfl, rfl, rfl⟩ rfl rfl rfl rfl rfl (by kernel_rfl) Try.func11 (by kernel_rfl)
  (of_decide_eq_true (by kernel_rfl)) (by unfold Func.isWrapper; first | (rw [if_pos (by decide +kernel)]; kernel_rfl) | (rw [if_neg (by decide +kernel)]; exact ⟨rfl, rfl⟩))
  (fun os started H enc _ => lifted os started H enc)
theorem proved : Rows.LoopConductsSaid := over
#print axioms proved
end Go.Proofs.Yteikgnaikeleaaa.loopConducts
namespace Go.Proofs.Yteikgnaikeleaaa
theorem loopConducts_holds : Rows.LoopConductsSaid := loopConducts.proved
end Go.Proofs.Yteikgnaikeleaaa
