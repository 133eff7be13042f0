-- Written by wip/pack.py of this repo: texts of this claim, put together.
import Derived.Test.YteikgnaikeleaaaRows
import Derived.WalkKit
import Derived.ProofKit
import Derived.OpenShut
import Derived.ShutString
import Derived.ChangeOld
import Derived.Below
import Derived.SizedLaws
import Derived.Test.YteikgnaikeleaaaKLoopd
namespace Go.Proofs.Yteikgnaikeleaaa.XLoop
open Go.RowKit Go.Proofs.YteikgnaikeleaaaW.PrintWords Go.Proofs.YteikgnaikeleaaaW.PrintLast Go.Proofs.YteikgnaikeleaaaW.PrintMore
attribute [local go_sem] max2_int min2_int max_two min_two max_three min_three max_four min_four   -- for this text's walks alone
set_option linter.unusedVariables false
set_option linter.unusedSimpArgs false
/-! ### dropperref09_Valid: function 21 -/
def dropperref09_Valid.f (a0 : ByteArray) : Option (Bool) := some ((parseL a0.data.toList).isSome)
theorem dropperref09_Valid.calls (a0 : ByteArray) (r : Bool) (w : World) (h : dropperref09_Valid.f a0 = some r) :
  Calls Try.prog 21 #[.string a0] w fun e w' => e = .returned (.bool r) ∧ Below w.heap.size w w' := by
 obtain rfl := Option.some.inj h
 have hc := rvalid_calls a0.data.toList w
 simp only [tx_data] at hc
 exact hc

/-! ### dropperref09_text: function 78 -/
def dropperref09_text.l0 : Nat → Int → ByteArray → Int → Option (ByteArray)
 | 0, _, _, _ => none
 | k + 1, x0, x3, x4 => if x4 < 8 then (if 0 ≤ x4 then (if (Go.bits .and .i64 (shr .i64 x0 x4) 1) = 1 then (if x4 ≤ (wrap64 (x4 + 1)) then (if (wrap64 (x4 + 1)) ≤ 8 then (if x3.size + ((⟨#[97, 98, 99, 100, 101, 102, 103, 104]⟩ : ByteArray).extract (x4 : Int).toNat ((wrap64 (x4 + 1)) : Int).toNat).size ≤ 9223372036854775807 then (dropperref09_text.l0 k x0 (x3 ++ ((⟨#[97, 98, 99, 100, 101, 102, 103, 104]⟩ : ByteArray).extract (x4 : Int).toNat ((wrap64 (x4 + 1)) : Int).toNat)) (wrap64 (x4 + 1))) else (none)) else (none)) else (none)) else (dropperref09_text.l0 k x0 x3 (wrap64 (x4 + 1)))) else (none)) else (some x3)
def dropperref09_text.f (k : Nat) (a0 : Int) : Option (ByteArray) := dropperref09_text.l0 k a0 (⟨#[]⟩ : ByteArray) 0
theorem dropperref09_text.mono_l : ∀ k, (∀ y0 y1 y2, LeO (dropperref09_text.l0 k y0 y1 y2) (dropperref09_text.l0 (k + 1) y0 y1 y2))
 | 0 => fun _ _ _ r h => by simp [dropperref09_text.l0] at h
 | k + 1 => by
  have ih0 := dropperref09_text.mono_l k
  ·
   intro y0 y1 y2
   unfold dropperref09_text.l0
   repeat' first
   | (with_reducible exact ih0 _ _ _)
   | (with_reducible exact LeO.refl _)
   | (with_reducible exact LeO.none _)
   | (with_reducible refine LeO.ite ?_ ?_)
   | (with_reducible refine LeO.bind ?_ (fun _ => ?_))
   | exact ih0 _ _ _
   | exact LeO.none _
   | refine LeO.ite ?_ ?_
   | refine LeO.bind ?_ (fun _ => ?_)
theorem dropperref09_text.mono : ∀ a0 k, LeO (dropperref09_text.f k a0) (dropperref09_text.f (k + 1) a0) := by
 intro a0 k
 have ih0 := dropperref09_text.mono_l k
 unfold dropperref09_text.f
 repeat' first
   | (with_reducible exact ih0 _ _ _)
   | (with_reducible exact LeO.refl _)
   | (with_reducible exact LeO.none _)
   | (with_reducible refine LeO.ite ?_ ?_)
   | (with_reducible refine LeO.bind ?_ (fun _ => ?_))
   | exact ih0 _ _ _
   | exact LeO.none _
   | refine LeO.ite ?_ ?_
   | refine LeO.bind ?_ (fun _ => ?_)
set_option maxHeartbeats 8000000 in
set_option maxRecDepth 100000 in
theorem dropperref09_text.calls (k : Nat) (a0 : Int) (r : ByteArray) (w : World) (h : dropperref09_text.f k a0 = some r) :
  Calls Try.prog 78 #[.int .i64 a0] w fun e w' => e = .returned (.string r) ∧ Drawn0 w w' := by
 have H : (dropperref09_text.l0 k a0 (⟨#[]⟩ : ByteArray) 0) = some r := h
 clear h
 have H' := Aside0.mk H
 clear H
 go_enter Try.func78, Try.ntmps78
 go_wp2
 go_loopg [3, 4] k (fun kq v3 v4 w' => ∃ (x3_1 : ByteArray) (x4_1 : Int), v3 = .string x3_1 ∧ v4 = .int .i64 x4_1 ∧ Aside0 (dropperref09_text.l0 kq a0 x3_1 x4_1 = some r) ∧ Aside0 (kq ≤ k) ∧ Drawn0 w w')
 case atStart => exact ⟨((⟨#[]⟩ : ByteArray)), (0), rsz, rsz, H', ⟨Nat.le_refl _⟩, drz⟩
 case round =>
  clear H'
  obtain ⟨x3_1, x4_1, rfl, rfl, HA, HK1, ⟨m1, rfl⟩⟩ := hrel
  cases gk with
  | zero => exact absurd HA.out (by simp [dropperref09_text.l0])
  | succ k1 =>
   have H := HA.out
   clear HA
   simp only [dropperref09_text.l0] at H
   by_cases c2 : x4_1 < 8
   ·
    rw [if_pos c2] at H
    have c2b0 : decide (x4_1 < 8) = true := decide_eq_true c2
    clear c2
    by_cases c3 : 0 ≤ x4_1
    ·
     rw [if_pos c3] at H
     have c3b0 := eq_true c3
     have c3b1 : decide (0 ≤ x4_1) = true := decide_eq_true c3
     clear c3
     obtain ⟨ji4, hji4⟩ : ∃ j_ : Int, (shr .i64 a0 x4_1) = j_ := ⟨_, rfl⟩
     replace H : (if (Go.bits .and .i64 (ji4) 1) = 1 then (if x4_1 ≤ (wrap64 (x4_1 + 1)) then (if (wrap64 (x4_1 + 1)) ≤ 8 then (if x3_1.size + ((⟨#[97, 98, 99, 100, 101, 102, 103, 104]⟩ : ByteArray).extract (x4_1 : Int).toNat ((wrap64 (x4_1 + 1)) : Int).toNat).size ≤ 9223372036854775807 then (dropperref09_text.l0 k1 a0 (x3_1 ++ ((⟨#[97, 98, 99, 100, 101, 102, 103, 104]⟩ : ByteArray).extract (x4_1 : Int).toNat ((wrap64 (x4_1 + 1)) : Int).toNat)) (wrap64 (x4_1 + 1))) else (none)) else (none)) else (none)) else (dropperref09_text.l0 k1 a0 x3_1 (wrap64 (x4_1 + 1)))) = some r := by first | (rw [hji4] at H; exact H) | (simp only [hji4] at H ⊢; exact H)
     have hji4_ : (a0 / 2 ^ min x4_1.toNat 64) = ji4 := hji4
     have hji4z : x4_1 ≤ 64 → (a0 / 2 ^ x4_1.toNat) = ji4 := shr_small hji4
     by_cases c5 : (Go.bits .and .i64 (ji4) 1) = 1
     ·
      rw [if_pos c5] at H
      have c5b0 : ((Go.bits .and .i64 (ji4) 1) == 1) = true := beq_iff_eq.mpr c5
      have c5b1 : ((Go.bits .and .i64 (ji4) 1) != 1) = false := bne_eq_false_iff_eq.mpr c5
      clear c5
      have c6b0 := eq_true (of_decide_eq_true asz : 0 ≤ x4_1)
      by_cases c7 : x4_1 ≤ (wrap64 (x4_1 + 1))
      ·
       rw [if_pos c7] at H
       have c7b0 := eq_true c7
       have c7b1 : decide (x4_1 ≤ (wrap64 (x4_1 + 1))) = true := decide_eq_true c7
       by_cases c8 : (wrap64 (x4_1 + 1)) ≤ 8
       ·
        rw [if_pos c8] at H
        have c8b0 := eq_true c8
        have c8b1 : decide ((wrap64 (x4_1 + 1)) ≤ 8) = true := decide_eq_true c8
        by_cases c9 : x3_1.size + ((⟨#[97, 98, 99, 100, 101, 102, 103, 104]⟩ : ByteArray).extract (x4_1 : Int).toNat ((wrap64 (x4_1 + 1)) : Int).toNat).size ≤ 9223372036854775807
        ·
         rw [if_pos c9] at H
         have c9b0 := eq_true c9
         have c9b1 : decide (x3_1.size + ((⟨#[97, 98, 99, 100, 101, 102, 103, 104]⟩ : ByteArray).extract (x4_1 : Int).toNat ((wrap64 (x4_1 + 1)) : Int).toNat).size ≤ 9223372036854775807) = true := decide_eq_true c9
         try have c9b2 : (9223372036854775807 < x3_1.size + ((⟨#[97, 98, 99, 100, 101, 102, 103, 104]⟩ : ByteArray).extract (x4_1 : Int).toNat ((wrap64 (x4_1 + 1)) : Int).toNat).size) = False := eq_false (Nat.not_lt.2 c9)
         have H' := Aside0.mk H
         clear H
         go_wp2
         go_roundg k1
         case measure => have := HK1.out; omega
         case rel => exact ⟨(x3_1 ++ ((⟨#[97, 98, 99, 100, 101, 102, 103, 104]⟩ : ByteArray).extract (x4_1 : Int).toNat ((wrap64 (x4_1 + 1)) : Int).toNat)), (wrap64 (x4_1 + 1)), rsz, rsz, H', ⟨by have := HK1.out; omega⟩, drz⟩
        ·
         rw [if_neg c9] at H
         exact absurd H (by simp)
       ·
        rw [if_neg c8] at H
        exact absurd H (by simp)
      ·
       rw [if_neg c7] at H
       exact absurd H (by simp)
     ·
      rw [if_neg c5] at H
      have c5b0 : ((Go.bits .and .i64 (ji4) 1) == 1) = false := beq_eq_false_iff_ne.mpr c5
      have c5b1 : ((Go.bits .and .i64 (ji4) 1) != 1) = true := bne_iff_ne.mpr c5
      have H' := Aside0.mk H
      clear H
      go_wp2
      go_roundg k1
      case measure => have := HK1.out; omega
      case rel => exact ⟨(x3_1), (wrap64 (x4_1 + 1)), rsz, rsz, H', ⟨by have := HK1.out; omega⟩, drz⟩
    ·
     rw [if_neg c3] at H
     exact absurd H (by simp)
   ·
    rw [if_neg c2] at H
    have c2b0 : decide (x4_1 < 8) = false := decide_eq_false c2
    clear c2
    obtain rfl := Option.some.inj H
    go_wp2
    go_ret
    exact ⟨by first | rfl | (simp; done) | (simp [*]; done), drz⟩

/-! ### dropperref09_Letters: function 48 -/
def dropperref09_Letters.l0 : Nat → ByteArray → Int → Int → Option (ByteArray × Int)
 | 0, _, _, _ => none
 | k + 1, x0, x4, x5 => if x5 < (x0.size : Int) then (if 0 ≤ x5 then (if (bt x0 x5) ≥ 97 then (dropperref09_Letters.l0 k x0 (Go.bits .or .i64 x4 (shl .i64 1 (((bt x0 x5) - 97) % 256))) (wrap64 (x5 + 1))) else (dropperref09_Letters.l0 k x0 x4 (wrap64 (x5 + 1)))) else (none)) else ((dropperref09_text.f k x4).bind fun t243 => (some (t243, 0)))
def dropperref09_Letters.f (k : Nat) (a0 : ByteArray) : Option (ByteArray × Int) := (dropperref09_Valid.f a0).bind fun t242 => (if t242 = true then (dropperref09_Letters.l0 k a0 0 0) else (some ((⟨#[]⟩ : ByteArray), 90)))
set_option maxHeartbeats 8000000 in
set_option maxRecDepth 100000 in
theorem dropperref09_Letters.calls (k : Nat) (a0 : ByteArray) (r1 : ByteArray) (r2 : Int) (w : World) (h : dropperref09_Letters.f k a0 = some (r1, r2)) :
  Calls Try.prog 48 #[.string a0] w fun e w' => e = .returned (.tuple #[.string r1, .int .i64 r2]) ∧ Below w.heap.size w w' := by
 have HB := Aside0.mk (Below.refl w.heap.size w)
 have H : ((dropperref09_Valid.f a0).bind fun t242 => (if t242 = true then (dropperref09_Letters.l0 k a0 0 0) else (some ((⟨#[]⟩ : ByteArray), 90)))) = some (r1, r2) := h
 clear h
 replace H := Option.bind_eq_some_iff.mp H
 obtain ⟨t242, A20, H⟩ := H
 try dsimp only at H
 have A2 := Aside0.mk A20
 clear A20
 by_cases c3 : t242 = true
 ·
  subst c3
  rw [if_pos rfl] at H
  have H' := Aside0.mk H
  clear H
  go_enter Try.func48, Try.ntmps48
  go_wp2_with (first | ((with_reducible refine gate_callee (f := 21) rfl ?_); refine goesL_ (some 7) rfl rfl Try.func21 (by kernel_rfl) rfl #[.string a0] rfl mapz ?_; (with_reducible refine (dropperref09_Valid.calls a0 true _ A2.out).mono ?_); rintro e w4 ⟨rfl, hb⟩; refine ⟨_, rfl, ?_⟩; replace HB := Aside0.mk (below_step bel hb); clear hb))
  go_loopg [4, 5] k (fun kq v4 v5 w' => ∃ (x4_1 : Int) (x5_1 : Int), v4 = .int .i64 x4_1 ∧ v5 = .int .i64 x5_1 ∧ Aside0 (dropperref09_Letters.l0 kq a0 x4_1 x5_1 = some (r1, r2)) ∧ Aside0 (kq ≤ k) ∧ Aside0 (Below w.heap.size w w'))
  case atStart => exact ⟨(0), (0), rsz, rsz, H', ⟨Nat.le_refl _⟩, ⟨bel⟩⟩
  case round =>
   clear H'
   (try clear c2); (try clear p2); (try clear c3); (try clear c4)
   obtain ⟨x4_1, x5_1, rfl, rfl, HA, HK1, HB⟩ := hrel
   cases gk with
   | zero => exact absurd HA.out (by simp [dropperref09_Letters.l0])
   | succ k1 =>
    have H := HA.out
    clear HA
    simp only [dropperref09_Letters.l0] at H
    by_cases c5 : x5_1 < (a0.size : Int)
    ·
     rw [if_pos c5] at H
     have c5b0 : decide (x5_1 < (a0.size : Int)) = true := decide_eq_true c5
     clear c5
     by_cases c6 : 0 ≤ x5_1
     ·
      rw [if_pos c6] at H
      have c6b0 : decide (0 ≤ x5_1) = true := decide_eq_true c6
      clear c6
      by_cases c8 : (bt a0 x5_1) ≥ 97
      ·
       rw [if_pos c8] at H
       have c8b0 : decide (97 ≤ (bt a0 x5_1)) = true := decide_eq_true c8
       clear c8
       obtain ⟨ji10, hji10⟩ : ∃ j_ : Int, (shl .i64 1 (((bt a0 x5_1) - 97) % 256)) = j_ := ⟨_, rfl⟩
       replace H : (dropperref09_Letters.l0 k1 a0 (Go.bits .or .i64 x4_1 (ji10)) (wrap64 (x5_1 + 1))) = some (r1, r2) := by first | (rw [hji10] at H; exact H) | (simp only [hji10] at H ⊢; exact H)
       have hji10_ : (IntKind.i64.wrap (1 * 2 ^ min (((bt a0 x5_1) - 97) % 256).toNat 64)) = ji10 := hji10
       have hji100 : 0 ≤ (((bt a0 x5_1) - 97) % 256) := Int.emod_nonneg _ (by decide)
       have hji10z : (((bt a0 x5_1) - 97) % 256) ≤ 64 → (IntKind.i64.wrap (1 * 2 ^ (((bt a0 x5_1) - 97) % 256).toNat)) = ji10 := shl_small hji10
       have hji10u : (IntKind.i64.wrap (2 ^ min (((bt a0 x5_1) - 97) % 256).toNat 64)) = ji10 := by have h_ := hji10_; rw [Int.one_mul] at h_; exact h_
       have hji10v : (((bt a0 x5_1) - 97) % 256) ≤ 64 → (IntKind.i64.wrap (2 ^ (((bt a0 x5_1) - 97) % 256).toNat)) = ji10 := fun hle_ => by have h_ := hji10z hle_; rw [Int.one_mul] at h_; exact h_
       have hji10y : (wrap64 (1 * 2 ^ min (((bt a0 x5_1) - 97) % 256).toNat 64)) = ji10 := (i64_w _).symm.trans hji10_
       have hji10x : (((bt a0 x5_1) - 97) % 256) ≤ 64 → (wrap64 (1 * 2 ^ (((bt a0 x5_1) - 97) % 256).toNat)) = ji10 := fun h_ => (i64_w _).symm.trans (hji10z h_)
       have H' := Aside0.mk H
       clear H
       have p7 : 0 ≤ (x5_1 : Int) := of_decide_eq_true asz
       have q7 : x5_1 < (a0.size : Int) := of_decide_eq_true asz
       have hx7 := bt_at a0 x5_1
       replace p7 := eq_true p7
       replace q7 := eq_true q7
       have p9 : 0 ≤ (x5_1 : Int) := of_decide_eq_true asz
       have q9 : x5_1 < (a0.size : Int) := of_decide_eq_true asz
       have hx9 := bt_at a0 x5_1
       replace p9 := eq_true p9
       replace q9 := eq_true q9
       go_wp2
       go_roundg k1
       case measure => have := HK1.out; omega
       case rel => exact ⟨(Go.bits .or .i64 x4_1 (ji10)), (wrap64 (x5_1 + 1)), (by first | rfl | (simp; done) | (simp only [← hji10] <;> (first | rfl | simp)) | (simp [*]; done)), rsz, H', ⟨by have := HK1.out; omega⟩, ⟨bel⟩⟩
      ·
       rw [if_neg c8] at H
       have c8b0 : decide (97 ≤ (bt a0 x5_1)) = false := decide_eq_false c8
       clear c8
       have H' := Aside0.mk H
       clear H
       have p7 : 0 ≤ (x5_1 : Int) := of_decide_eq_true asz
       have q7 : x5_1 < (a0.size : Int) := of_decide_eq_true asz
       have hx7 := bt_at a0 x5_1
       replace p7 := eq_true p7
       replace q7 := eq_true q7
       go_wp2
       go_roundg k1
       case measure => have := HK1.out; omega
       case rel => exact ⟨(x4_1), (wrap64 (x5_1 + 1)), rsz, rsz, H', ⟨by have := HK1.out; omega⟩, ⟨bel⟩⟩
     ·
      rw [if_neg c6] at H
      exact absurd H (by simp)
    ·
     rw [if_neg c5] at H
     have c5b0 : decide (x5_1 < (a0.size : Int)) = false := decide_eq_false c5
     clear c5
     replace H := Option.bind_eq_some_iff.mp H
     obtain ⟨t243, A110, H⟩ := H
     try dsimp only at H
     have A11 := Aside0.mk A110
     clear A110
     simp only [Option.some.injEq, Prod.mk.injEq] at H
     obtain ⟨rfl, rfl⟩ := H
     go_wp2_with (first | ((with_reducible refine gate_callee (f := 78) rfl ?_); refine goesL_ (some 27) rfl rfl Try.func78 (by kernel_rfl) rfl #[.int .i64 x4_1] rfl mapz ?_; (with_reducible refine (dropperref09_text.calls k1 x4_1 t243 _ A11.out).mono ?_); rintro e w' ⟨rfl, ⟨nd, rfl⟩⟩; refine ⟨_, rfl, ?_⟩))
     go_ret2
     exact ⟨ezz, bel⟩
 ·
  replace c3 := Bool.eq_false_iff.mpr c3
  subst c3
  rw [if_neg (show ¬ (false = true) by decide)] at H
  simp only [Option.some.injEq, Prod.mk.injEq] at H
  obtain ⟨rfl, rfl⟩ := H
  go_enter Try.func48, Try.ntmps48
  go_wp2_with (first | ((with_reducible refine gate_callee (f := 21) rfl ?_); refine goesL_ (some 7) rfl rfl Try.func21 (by kernel_rfl) rfl #[.string a0] rfl mapz ?_; (with_reducible refine (dropperref09_Valid.calls a0 false _ A2.out).mono ?_); rintro e w12 ⟨rfl, hb⟩; refine ⟨_, rfl, ?_⟩; replace HB := Aside0.mk (below_step bel hb); clear hb))
  go_ret2
  exact ⟨ezz, bel⟩

end Go.Proofs.Yteikgnaikeleaaa.XLoop
/- Which bytes a circuit's text has; its letters, as the reference gathers them. -/
namespace Go.Proofs.Yteikgnaikeleaaa
open Go.RowKit Go.Proofs.YteikgnaikeleaaaW.PrintWords Go.Proofs.YteikgnaikeleaaaW.PrintLast Go.Proofs.YteikgnaikeleaaaW.PrintMore
set_option linter.unusedVariables false

def okB (b : UInt8) : Prop := isL b = true ∨ b.toNat < 97
def Eats (P : PF) : Prop := ∀ l m t, P l = some (m, t) → ∃ p, l = p ++ t ∧ ∀ b ∈ p, okB b
theorem parts_eats {P : PF} (hP : Eats P) : ∀ k acc l b t, partsL P k acc l = some (b, t) → ∃ p, l = p ++ t ∧ ∀ b ∈ p, okB b
 | 0, acc, l, b, t, h => by simp [partsL] at h
 | k + 1, acc, [], b, t, h => by
  simp only [partsL, Option.some.injEq, Prod.mk.injEq] at h
  exact ⟨[], by rw [← h.2]; rfl, by simp⟩
 | k + 1, acc, c :: l, b, t, h => by
  rw [partsL] at h
  split at h
  ·
   simp only [Option.some.injEq, Prod.mk.injEq] at h
   exact ⟨[], by rw [← h.2]; rfl, by simp⟩
  ·
   cases hp : P (c :: l) with
   | none => rw [hp] at h; cases h
   | some y =>
    obtain ⟨m, l'⟩ := y
    rw [hp] at h
    obtain ⟨p1, e1, o1⟩ := hP _ _ _ hp
    obtain ⟨p2, e2, o2⟩ := parts_eats hP k _ _ _ _ h
    refine ⟨p1 ++ p2, by rw [e1, e2, List.append_assoc], fun x hx => ?_⟩
    rcases List.mem_append.1 hx with hx | hx
    ·
     exact o1 x hx
    ·
     exact o2 x hx
theorem circ_eats {P : PF} (hP : Eats P) : ∀ k acc l c t, circL P k acc l = some (c, t) → ∃ p, l = p ++ t ∧ ∀ b ∈ p, okB b
 | 0, acc, l, c, t, h => by simp [circL] at h
 | k + 1, acc, l, c, t, h => by
  rw [circL] at h
  cases hp : P l with
  | none => rw [hp] at h; cases h
  | some y =>
   obtain ⟨m, l1⟩ := y
   rw [hp] at h
   simp only at h
   cases hb : partsL P (l1.length + 1) [m] l1 with
   | none => rw [hb] at h; cases h
   | some z =>
    obtain ⟨b, l2⟩ := z
    rw [hb] at h
    simp only at h
    obtain ⟨p1, e1, o1⟩ := hP _ _ _ hp
    obtain ⟨p2, e2, o2⟩ := parts_eats hP _ _ _ _ _ hb
    have o12 : ∀ x ∈ p1 ++ p2, okB x := fun x hx => by
     rcases List.mem_append.1 hx with hx | hx
     ·
      exact o1 x hx
     ·
      exact o2 x hx
    cases l2 with
    | nil =>
     simp only [Option.some.injEq, Prod.mk.injEq] at h
     exact ⟨p1 ++ p2, by rw [← h.2, e1, e2, List.append_assoc], o12⟩
    | cons d l3 =>
     simp only at h
     split at h
     ·
      rename_i hd
      obtain ⟨p3, e3, o3⟩ := circ_eats hP k _ _ _ _ h
      refine ⟨p1 ++ p2 ++ (d :: p3), by rw [e1, e2, e3]; simp, fun x hx => ?_⟩
      rcases List.mem_append.1 hx with hx | hx
      ·
       exact o12 x hx
      ·
       rcases List.mem_cons.1 hx with rfl | hx
       ·
        exact Or.inr (by rw [hd]; decide)
       ·
        exact o3 x hx
     ·
      simp only [Option.some.injEq, Prod.mk.injEq] at h
      exact ⟨p1 ++ p2, by rw [← h.2, e1, e2, List.append_assoc], o12⟩
theorem part_eats : ∀ n, Eats (pPart n)
 | 0 => fun l m t h => by simp [pPart] at h
 | n + 1 => fun l m t h => by
  cases l with
  | nil => simp [pPart] at h
  | cons b l =>
   rw [pPart_succ] at h
   split at h
   ·
    rename_i hb
    simp only [Option.some.injEq, Prod.mk.injEq] at h
    exact ⟨[b], by rw [← h.2]; rfl, fun x hx => Or.inl (by rw [List.mem_singleton.1 hx]; exact hb)⟩
   ·
    split at h
    ·
     rename_i hb
     have hb40 : b = 40 := by simpa using hb
     cases hc : circL (pPart n) (l.length + 1) [] l with
     | none => rw [hc] at h; cases h
     | some y =>
      obtain ⟨c, l2⟩ := y
      rw [hc] at h
      obtain ⟨p, e, o⟩ := circ_eats (part_eats n) _ _ _ _ _ hc
      cases l2 with
      | nil => simp at h
      | cons d l3 =>
       split at h
       ·
        rename_i c2 t2 heq
        obtain ⟨rfl, hd⟩ := Prod.mk.inj (Option.some.inj heq)
        obtain ⟨rfl, rfl⟩ := List.cons.inj hd
        simp only [Option.some.injEq, Prod.mk.injEq] at h
        refine ⟨b :: (p ++ [41]), by rw [e, ← h.2]; simp, fun x hx => ?_⟩
        rcases List.mem_cons.1 hx with rfl | hx
        ·
         exact Or.inr (by rw [hb40]; decide)
        ·
         rcases List.mem_append.1 hx with hx | hx
         ·
          exact o x hx
         ·
          exact Or.inr (by rw [List.mem_singleton.1 hx]; decide)
       ·
        cases h
    ·
     cases h
theorem parse_bytes {s : List UInt8} {m : Mean} (h : parseL s = some m) : ∀ b ∈ s, okB b := by
 unfold parseL at h
 obtain ⟨c, hc, rfl⟩ := Option.map_eq_some_iff.1 h
 unfold parseC at hc
 split at hc
 ·
  cases hq : circL (pPart (s.length + 1)) (s.length + 1) [] s with
  | none => rw [hq] at hc; cases hc
  | some y =>
   obtain ⟨c', l2⟩ := y
   rw [hq] at hc
   obtain ⟨p, e, o⟩ := circ_eats (part_eats _) _ _ _ _ _ hq
   cases l2 with
   | nil =>
    rw [List.append_nil] at e
    rw [e]; exact o
   | cons d l => simp at hc
 ·
  cases hc
/-! the letters -/
def gath (s : List UInt8) (o : Nat) : Nat := s.foldl (fun o b => if 97 ≤ b.toNat then o ||| 2 ^ (b.toNat - 97) else o) o
theorem letter_eq (b : UInt8) (h : isL b = true) (i : Nat) (hi : i < 8) : (UInt8.ofNat (97 + i) == b) = decide (b.toNat - 97 = i) := by
 have h1 := (isL_iff b).1 h
 rw [Bool.eq_iff_iff, beq_iff_eq, decide_eq_true_iff]
 constructor
 ·
  intro e
  have := congrArg UInt8.toNat e
  simp at this
  omega
 ·
  intro e
  apply UInt8.toNat_inj.1
  simp
  omega
theorem letter_ne (b : UInt8) (h : b.toNat < 97) (i : Nat) (hi : i < 8) : (UInt8.ofNat (97 + i) == b) = false := by
 rw [beq_eq_false_iff_ne]
 intro e
 have := congrArg UInt8.toNat e
 simp at this
 omega
theorem gath_bit : ∀ (s : List UInt8) (o i : Nat), (∀ b ∈ s, okB b) → i < 8 → (gath s o).testBit i = (o.testBit i || s.contains (UInt8.ofNat (97 + i)))
 | [], o, i, _, hi => by simp [gath]
 | b :: t, o, i, h, hi => by
  have ht : ∀ b ∈ t, okB b := fun x hx => h x (List.mem_cons_of_mem _ hx)
  have hb := h b (List.mem_cons_self ..)
  have hs : gath (b :: t) o = gath t (if 97 ≤ b.toNat then o ||| 2 ^ (b.toNat - 97) else o) := rfl
  rw [hs, gath_bit t _ i ht hi, List.contains_cons]
  rcases hb with hb | hb
  ·
   have h1 := (isL_iff b).1 hb
   rw [if_pos (by omega), letter_eq b hb i hi, Nat.testBit_or, Nat.testBit_two_pow]
   rw [Bool.or_assoc]
  ·
   rw [if_neg (by omega), letter_ne b hb i hi, Bool.false_or]
theorem gath_lt : ∀ (s : List UInt8) (o : Nat), (∀ b ∈ s, okB b) → o < 256 → gath s o < 256
 | [], o, _, ho => ho
 | b :: t, o, h, ho => by
  have ht : ∀ b ∈ t, okB b := fun x hx => h x (List.mem_cons_of_mem _ hx)
  have hs : gath (b :: t) o = gath t (if 97 ≤ b.toNat then o ||| 2 ^ (b.toNat - 97) else o) := rfl
  rw [hs]
  refine gath_lt t _ ht ?_
  split
  ·
   rcases h b (List.mem_cons_self ..) with hb | hb
   ·
    have h1 := (isL_iff b).1 hb
    exact or_lt ho (by omega)
   ·
    omega
  ·
   exact ho
theorem allTo_bit (s : List UInt8) (i : Nat) : ∀ j, (allTo s j).testBit i = (decide (i < j) && s.contains (UInt8.ofNat (97 + i)))
 | 0 => by simp [allTo]
 | j + 1 => by
  rw [allTo_succ]
  by_cases hj : s.contains (UInt8.ofNat (97 + j)) = true
  ·
   rw [if_pos hj, Nat.testBit_or, allTo_bit s i j, Nat.testBit_two_pow]
   by_cases hij : j = i
   ·
    subst hij; rw [hj]; simp
   ·
    have : decide (i < j + 1) = decide (i < j) := by rw [decide_eq_decide]; omega
    rw [this]; simp [hij]
  ·
   rw [if_neg hj, allTo_bit s i j]
   by_cases hij : j = i
   ·
    subst hij; rw [Bool.eq_false_iff.mpr hj]; simp
   ·
    have : decide (i < j + 1) = decide (i < j) := by rw [decide_eq_decide]; omega
    rw [this]
theorem gath_all (s : List UInt8) (h : ∀ b ∈ s, okB b) : gath s 0 = allTo s 8 := by
 apply Nat.eq_of_testBit_eq
 intro i
 by_cases hi : i < 8
 ·
  rw [gath_bit s 0 i h hi, allTo_bit, decide_eq_true hi]; simp
 ·
  have h1 : gath s 0 < 2 ^ i := Nat.lt_of_lt_of_le (gath_lt s 0 h (by decide)) (show 2 ^ 8 ≤ 2 ^ i from Nat.pow_le_pow_right (show 0 < 2 by decide) (show 8 ≤ i by omega))
  rw [Nat.testBit_lt_two_pow h1, allTo_bit, decide_eq_false hi, Bool.false_and]
theorem bits_shl (o j : Nat) (ho : o < 256) (hj : j < 8) : Go.bits .or .i64 (o : Int) (shl .i64 1 (j : Int)) = ((o ||| 2 ^ j : Nat) : Int) := by
 have h : ∀ (a : Fin 256) (i : Fin 8), Go.bits .or .i64 (a.val : Int) (shl .i64 1 (i.val : Int)) = ((a.val ||| 2 ^ i.val : Nat) : Int) := by decide +kernel
 exact h ⟨o, ho⟩ ⟨j, hj⟩
theorem leO_le {α : Type} (f : Nat → Option α) (h : ∀ k, LeO (f k) (f (k + 1))) (k j : Nat) : LeO (f k) (f (k + j)) := by
 induction j with
 | zero => exact LeO.refl _
 | succ j ih => exact ih.trans (h _)
theorem rtext_ev (n : Nat) (h : n < 256) (k : Nat) : XLoop.dropperref09_text.f (k + 9) n = some (tx (textN n)) := by
 have h9 : ∀ n : Fin 256, XLoop.dropperref09_text.f 9 n.val = some (tx (textN n.val)) := by decide +kernel
 rw [Nat.add_comm]
 exact leO_le (fun k => XLoop.dropperref09_text.f k (n : Int)) (XLoop.dropperref09_text.mono _) 9 k _ (h9 ⟨n, h⟩)
theorem rletters_ev : ∀ (t : List UInt8) (k x : Nat) (s : List UInt8) (o : Nat), s.drop x = t → s.length < 1000000000 → (∀ b ∈ t, okB b) → o < 256 → t.length < k →
  XLoop.dropperref09_Letters.l0 (k + 9) (tx s) o x = some (tx (textN (gath t o)), 0)
 | t, 0, x, s, o, hs, hm, hb, ho, hk => by simp at hk
 | [], k + 1, x, s, o, hs, hm, hb, ho, hk => by
  have : ¬ (x : Int) < ((tx s).size : Int) := by
   rw [tx_size]
   have := congrArg List.length hs
   simp at this
   omega
  rw [show k + 1 + 9 = (k + 9) + 1 from by omega, XLoop.dropperref09_Letters.l0, if_neg this, rtext_ev o ho]
  rfl
 | b :: t, k + 1, x, s, o, hs, hm, hb, ho, hk => by
  have hp : x < s.length := by
   have := congrArg List.length hs
   simp at this
   omega
  have hc := List.drop_eq_getElem_cons hp
  rw [hs] at hc
  obtain ⟨hbb, ht⟩ := List.cons.inj hc
  have h1 : (x : Int) < ((tx s).size : Int) := by rw [tx_size]; omega
  have hbt : bt (tx s) (x : Int) = (b.toNat : Int) := by rw [bt_tx s x hp, ← hbb]
  have hw : wrap64 ((x : Int) + 1) = ((x + 1 : Nat) : Int) := by unfold wrap64; omega
  have hb' : ∀ b ∈ t, okB b := fun x hx => hb x (List.mem_cons_of_mem _ hx)
  have hg : gath (b :: t) o = gath t (if 97 ≤ b.toNat then o ||| 2 ^ (b.toNat - 97) else o) := rfl
  rw [show k + 1 + 9 = (k + 9) + 1 from by omega, XLoop.dropperref09_Letters.l0, if_pos h1, if_pos (Int.natCast_nonneg x), hbt, hw, hg]
  rcases hb b (List.mem_cons_self ..) with hi | hi
  ·
   have h2 := (isL_iff b).1 hi
   have e : ((b.toNat : Int) - 97) % 256 = ((b.toNat - 97 : Nat) : Int) := by omega
   rw [if_pos (by omega), if_pos (by omega), e, bits_shl o _ ho (by omega)]
   exact rletters_ev t k (x + 1) s _ ht.symm hm hb' (or_lt ho (by omega)) (by simp at hk; omega)
  ·
   rw [if_neg (by omega), if_neg (by omega)]
   exact rletters_ev t k (x + 1) s o ht.symm hm hb' ho (by simp at hk; omega)
end Go.Proofs.Yteikgnaikeleaaa

namespace Go.Proofs.Yteikgnaikeleaaa.XLoop
open Go.RowKit Go.Proofs.YteikgnaikeleaaaW.PrintWords Go.Proofs.YteikgnaikeleaaaW.PrintLast Go.Proofs.YteikgnaikeleaaaW.PrintMore
attribute [local go_sem] max2_int min2_int max_two min_two max_three min_three max_four min_four   -- for this text's walks alone
set_option linter.unusedVariables false
set_option linter.unusedSimpArgs false
/-! ### loop_Same: function 29 -/
def loop_Same.f (a0 : ByteArray) (a1 : ByteArray) : Option (Bool × Int) := some ((sameR a0.data.toList a1.data.toList).1, (sameR a0.data.toList a1.data.toList).2)
theorem loop_Same.calls (a0 : ByteArray) (a1 : ByteArray) (r1 : Bool) (r2 : Int) (w : World) (h : loop_Same.f a0 a1 = some (r1, r2)) :
  Calls Try.prog 29 #[.string a0, .string a1] w fun e w' => e = .returned (.tuple #[.bool r1, .int .i64 r2]) ∧ Below w.heap.size w w' := by
 obtain ⟨rfl, rfl⟩ := Prod.mk.inj (Option.some.inj h)
 have hc := same_calls a0.data.toList a1.data.toList w
 simp only [tx_data] at hc
 exact hc

/-! ### loop_Differ: function 30 -/
def loop_Differ.f (a0 : ByteArray) (a1 : ByteArray) : Option (ByteArray × Int) := some (tx (differR a0.data.toList a1.data.toList).1, (differR a0.data.toList a1.data.toList).2)
theorem loop_Differ.calls (a0 : ByteArray) (a1 : ByteArray) (r1 : ByteArray) (r2 : Int) (w : World) (h : loop_Differ.f a0 a1 = some (r1, r2)) :
  Calls Try.prog 30 #[.string a0, .string a1] w fun e w' => e = .returned (.tuple #[.string r1, .int .i64 r2]) ∧ Below w.heap.size w w' := by
 obtain ⟨rfl, rfl⟩ := Prod.mk.inj (Option.some.inj h)
 have hc := differ_calls a0.data.toList a1.data.toList w
 simp only [tx_data] at hc
 exact hc

/-! ### loop_Within: function 31 -/
def loop_Within.f (a0 : ByteArray) (a1 : ByteArray) : Option (Bool × Int) := some ((withinR a0.data.toList a1.data.toList).1, (withinR a0.data.toList a1.data.toList).2)
theorem loop_Within.calls (a0 : ByteArray) (a1 : ByteArray) (r1 : Bool) (r2 : Int) (w : World) (h : loop_Within.f a0 a1 = some (r1, r2)) :
  Calls Try.prog 31 #[.string a0, .string a1] w fun e w' => e = .returned (.tuple #[.bool r1, .int .i64 r2]) ∧ Below w.heap.size w w' := by
 obtain ⟨rfl, rfl⟩ := Prod.mk.inj (Option.some.inj h)
 have hc := within_calls a0.data.toList a1.data.toList w
 simp only [tx_data] at hc
 exact hc

end Go.Proofs.Yteikgnaikeleaaa.XLoop
namespace Go.Proofs.Yteikgnaikeleaaa
open Go.RowKit Go.Proofs.YteikgnaikeleaaaW.PrintWords Go.Proofs.YteikgnaikeleaaaW.PrintLast Go.Proofs.YteikgnaikeleaaaW.PrintMore
set_option linter.unusedVariables false

def RAskE (w : World) (s : List UInt8) (e : Ending) (w' : World) : Prop :=
 ∃ v c, e = .returned (.tuple #[.agg (tbl v), .int .i64 c]) ∧ Below w.heap.size w w' ∧ match parseL s with
  | none => c = 90
  | some m => c = 0 ∧ v = m.f
theorem rask_e (s : List UInt8) (w : World) : Calls Try.prog 61 #[.string (tx s), .string ⟨#[]⟩] w (RAskE w s) := by
 refine (rasked_calls s [] (by decide) w).mono ?_
 rintro e w' ⟨v, c, he, hb, h⟩
 refine ⟨v, c, he, hb, ?_⟩
 cases hp : parseL s with
 | none => rw [hp] at h; exact h
 | some m => rw [hp] at h; exact h
set_option maxHeartbeats 8000000 in
set_option maxRecDepth 1000000 in
theorem rwithin_calls (s t : List UInt8) (w : World) : Calls Try.prog 39 #[.string (tx s), .string (tx t)] w fun e w' => e = .returned (.tuple #[.bool (withinR s t).1, .int .i64 (withinR s t).2]) ∧ Below w.heap.size w w' := by
 have HS := Aside0.mk (rask_e s)
 have HT := Aside0.mk (rask_e t)
 unfold RAskE at HS HT
 have hzz := zero50
 unfold withinR
 cases hc : parseL s with
 | none =>
  rw [hc] at HS
  go_enter Try.func39, Try.ntmps39
  go_wp2_with (first | (go_at_call 61; refine (HS.out _).mono ?_; rintro e W1 ⟨v, c, rfl, hb, rfl⟩; clear HS; have HB1 := Aside0.mk (new_below hb (Nat.le_refl _) v); clear hb) | (go_at_call 61; refine (HT.out _).mono ?_; rintro e W2 ⟨v2, c2, rfl, hb, hv2⟩; have HB2 := Aside0.mk (new_below (below_step HB1.out hb) (Nat.le_refl _) v2); clear hb hv2) | (refine wpList_store_row rfl 50 (.tmp 6) (.tmp 14) rfl W1.heap.size (tbl v) rfl rfl 50 (tbl fun _ => false) (blk_new _ _) (tbl_info v) (by rw [tbl_size, tbl_size]) (tbl_one v) ?_) | (refine wpList_store_row rfl 50 (.tmp 8) (.tmp 19) rfl W2.heap.size (tbl v2) rfl rfl 50 (tbl fun _ => false) (blk_new _ _) (tbl_info v2) (by rw [tbl_size, tbl_size]) (tbl_one v2) ?_))
  go_ret2
  exact ⟨rfl, HB2.out⟩
 | some m =>
  rw [hc] at HS
  cases hd : parseL t with
  | none =>
   rw [hd] at HT
   go_enter Try.func39, Try.ntmps39
   go_wp2_with (first | (go_at_call 61; refine (HS.out _).mono ?_; rintro e W1 ⟨v, c, rfl, hb, rfl, hv⟩; clear HS; have HB1 := Aside0.mk (new_below hb (Nat.le_refl _) v); clear hb hv) | (go_at_call 61; refine (HT.out _).mono ?_; rintro e W2 ⟨v2, c2, rfl, hb, rfl⟩; have HB2 := Aside0.mk (new_below (below_step HB1.out hb) (Nat.le_refl _) v2); clear hb) | (refine wpList_store_row rfl 50 (.tmp 6) (.tmp 14) rfl W1.heap.size (tbl v) rfl rfl 50 (tbl fun _ => false) (blk_new _ _) (tbl_info v) (by rw [tbl_size, tbl_size]) (tbl_one v) ?_) | (refine wpList_store_row rfl 50 (.tmp 8) (.tmp 19) rfl W2.heap.size (tbl v2) rfl rfl 50 (tbl fun _ => false) (blk_new _ _) (tbl_info v2) (by rw [tbl_size, tbl_size]) (tbl_one v2) ?_))
   go_ret2
   exact ⟨rfl, HB2.out⟩
  | some n =>
   rw [hd] at HT
   obtain ⟨f, hf⟩ : ∃ f, f = m.f := ⟨_, rfl⟩
   obtain ⟨f2, hf2⟩ : ∃ f, f = n.f := ⟨_, rfl⟩
   simp only [← hf, ← hf2] at HS HT ⊢
   clear hc hd hf hf2
   go_enter Try.func39, Try.ntmps39
   go_wp2_with (first | (go_at_call 61; refine (HS.out _).mono ?_; rintro e W1 ⟨v, c, rfl, hb, rfl, rfl⟩; clear HS; have HB1 := Aside0.mk (new_below hb (Nat.le_refl _) v); have HH1 := Aside0.mk (new_row W1 v); clear hb) | (go_at_call 61; refine (HT.out _).mono ?_; rintro e W2 ⟨v2, c2, rfl, hb, rfl, rfl⟩; have HB0 := Aside0.mk (new_below (below_step HB1.out hb) (Nat.le_refl _) v2); have HH20 := Aside0.mk (new_row W2 v2); have HH0 := Aside0.mk (old_row (blk_below HH1.out hb) v2); clear hb) | (refine wpList_store_row rfl 50 (.tmp 6) (.tmp 14) rfl W1.heap.size (tbl v) rfl rfl 50 (tbl fun _ => false) (blk_new _ _) (tbl_info v) (by rw [tbl_size, tbl_size]) (tbl_one v) ?_) | (refine wpList_store_row rfl 50 (.tmp 8) (.tmp 19) rfl W2.heap.size (tbl v2) rfl rfl 50 (tbl fun _ => false) (blk_new _ _) (tbl_info v2) (by rw [tbl_size, tbl_size]) (tbl_one v2) ?_))
   go_loopg [10] 257 (fun kq v10 W => ∃ x : Nat, v10 = .int .i64 x ∧ Aside0 (x + kq = 257) ∧ Aside0 (x ≤ 256) ∧ Aside0 (∀ i, i < x → v i = true → v2 i = true) ∧ Aside0 (W.heap[W1.heap.size]? = some (.cells (tbl v) 50 (0, 0))) ∧ Aside0 (W.heap[W2.heap.size]? = some (.cells (tbl v2) 50 (0, 0))) ∧ Aside0 (Below w.heap.size w W))
   case atStart => exact ⟨0, rfl, ⟨rfl⟩, ⟨by decide⟩, ⟨fun i hi => absurd hi (Nat.not_lt_zero _)⟩, HH0, HH20, HB0⟩
   case round =>
    clear HH0 HH20 HB0 HB1 HH1 HT hzz
    obtain ⟨x, rfl, HK, HX, HI, HH, HH2, HB⟩ := hrel
    by_cases hx : x < 256
    ·
     have h1 : decide ((x : Int) < 256) = true := decide_eq_true (by omega)
     have h0 : (0 : Int) ≤ (x : Int) ∧ (x : Int) < 256 := by omega
     have c1 := tbl_cell HH.out x hx
     have c2 := tbl_cell HH2.out x hx
     have HX1 : Aside0 (x < 256) := ⟨hx⟩
     have hnx := next_nat x hx
     clear hx
     by_cases hb : v x = true
     ·
      rw [hb] at c1
      by_cases hb2 : v2 x = true
      ·
       rw [hb2] at c2
       go_wp2
       go_roundg (256 - x)
       case measure => have := HK.out; have := HX1.out; omega
       case rel => exact ⟨x + 1, by first | rfl | rw [hnx], ⟨by have := HX1.out; have := HK.out; omega⟩, ⟨HX1.out⟩, ⟨fun i hi he => by
        rcases Nat.lt_succ_iff_lt_or_eq.1 hi with h | rfl
        ·
         exact HI.out i h he
        ·
         exact hb2⟩, HH, HH2, HB⟩
      ·
       rw [Bool.eq_false_iff.mpr hb2] at c2
       go_wp2
       go_ret2
       rw [withinF_false HX1.out hb (Bool.eq_false_iff.mpr hb2)]
       exact ⟨rfl, HB.out⟩
     ·
      rw [Bool.eq_false_iff.mpr hb] at c1
      go_wp2
      go_roundg (256 - x)
      case measure => have := HK.out; have := HX1.out; omega
      case rel => exact ⟨x + 1, by first | rfl | rw [hnx], ⟨by have := HX1.out; have := HK.out; omega⟩, ⟨HX1.out⟩, ⟨fun i hi he => by
       rcases Nat.lt_succ_iff_lt_or_eq.1 hi with h | rfl
       ·
        exact HI.out i h he
       ·
        exact absurd he hb⟩, HH, HH2, HB⟩
    ·
     have h1 : decide ((x : Int) < 256) = false := decide_eq_false (by omega)
     go_wp2
     go_ret2
     rw [withinF_true (fun i hi => HI.out i (by omega))]
     exact ⟨rfl, HB.out⟩
end Go.Proofs.Yteikgnaikeleaaa

/- append to a full slice that is only read; a slice's cuts. -/
namespace Go.Proofs.Yteikgnaikeleaaa
open Go.RowKit Go.Proofs.YteikgnaikeleaaaW.PrintWords Go.Proofs.YteikgnaikeleaaaW.PrintLast Go.Proofs.YteikgnaikeleaaaW.PrintMore
set_option linter.unusedVariables false

theorem cells_of {W : World} {ad : Addr} {n : Nat} {xs : List (Fin 256)} (h : fKd.C W (some ad) n xs) : ∀ j u, (encs encF xs)[j]? = some u → W.cell? (ad.add j) = some u := by
 intro j u hu
 have hj : j < (encs encF xs).length := (List.getElem?_eq_some_iff.1 hu).1
 rw [encs_length] at hj
 have hn : 0 < n := by rw [← h.1]; omega
 obtain ⟨ad', he, hcell⟩ := h.2.2 hn
 obtain rfl := Option.some.inj he
 obtain ⟨c, hcl, hp, hcc⟩ := hcell j _ (List.getElem?_eq_getElem hj)
 have hc : c = [encF xs[j]] := hp
 have h0 := hcc 0 (encF xs[j]) (by rw [hc]; rfl)
 have hue : u = encF xs[j] := by
  have : (encs encF xs)[j]? = some (encF xs[j]) := by simp [encs, List.getElem?_eq_getElem hj]
  rw [this] at hu
  exact (Option.some.inj hu).symm
 rw [hue]
 simpa [fKd, Kd.scalar] using h0
theorem encs_one (xs : List (Fin 256)) : ∀ u ∈ encs encF xs, u.oneCell' = true := by
 intro u hu
 simp only [encs, List.mem_map] at hu
 obtain ⟨x, _, rfl⟩ := hu
 rfl
section
variable {ops : Array Oper} {o : Oper} {a : Act} {Q : Exit → Act → World → Prop} {Kc : Act → World → Prop} {W : World}
theorem ap_full (hw : Region.wanted o (yielded ops a.tmps) = true) (s x : Operand) (ho : o.op = .call { callee := .builtin .append, args := #[s, x], argTypes := #[46, 46] })
  (A : Option Addr) (p : Nat) (xs : List (Fin 256)) (hs : a.eval s = .slice A p p) (hA : A = none → p = 0) (HR : fKd.C W A p xs)
  (ad : Addr) (m c : Nat) (ys : List (Fin 256)) (hx : a.eval x = .slice (some ad) m c) (HY : fKd.C W (some ad) m ys) (hm : 0 < m) (hl : p + m ≤ 100000)
  (h : ∀ v1 w1, fKd.R 3 w1 W.heap.size (fun _ => True) v1 (xs ++ ys) → W.grownBy w1 none → Kc (a.put o.dst v1) w1) :
  if Region.wanted o (yielded ops a.tmps) = true then Oper.wp Try.prog o a W Kc Q else Kc (a.put o.dst undef) W := by
 obtain ⟨i, hi, hzz⟩ := Option.map_eq_some_iff.1 info3
 simp only [Prod.mk.injEq] at hzz
 obtain ⟨hz0, hz1, hz2⟩ := hzz
 have l1 : (encs encF xs).length = p * 1 := by rw [encs_length, HR.1, Nat.mul_one]
 have l2 : (encs encF ys).length = m * 1 := by rw [encs_length, HY.1, Nat.mul_one]
 have le : encs encF (xs ++ ys) = encs encF xs ++ encs encF ys := by simp [encs]
 have hrun : ∃ v1 w1, (Builtin.append_ #[46, 46] o.type #[.slice A p p, .slice (some ad) m c]).run Try.prog W = .ok v1 w1 ∧ fKd.R 3 w1 W.heap.size (fun _ => True) v1 (xs ++ ys) ∧ W.grownBy w1 none := by
  cases A with
  | some b =>
   obtain ⟨v', w', hr, r1, r2⟩ := run_append_arg_grows (P := Try.prog) W 46 o.type 3 i (.int .i64 0) 1 8 Try.underlying46 hi hz0 hz1 hz2 rfl Nat.one_pos b p p _ l1 (cells_of HR) ad m c _ l2 (cells_of HY) (by omega) (by simp only [maxLen]; omega) (by omega)
   refine ⟨v', w', hr, Kd.R_of_own ?_ (fun _ _ => trivial), r2⟩
   rw [le, List.length_append, HR.1, HY.1]
   exact r1
  | none =>
   obtain rfl := hA rfl
   obtain rfl : xs = [] := List.eq_nil_of_length_eq_zero HR.1
   obtain ⟨v', w', hr, r1, r2, _⟩ := run_append_own (P := Try.prog) W W.heap.size 46 o.type 3 i (.int .i64 0) 1 8 Try.underlying46 hi hz0 hz1 hz2 rfl Nat.one_pos (.slice none 0 0) 0 [] (World.ownsRow_nil W _ 3 1) ad m c _ l2 (cells_of HY) (encs_one ys) (by simp only [maxLen]; omega) (by omega) (Nat.le_refl _)
   refine ⟨v', w', hr, Kd.R_of_own ?_ (fun _ _ => trivial), r2⟩
   rw [le, List.length_append, HY.1]
   exact r1
 obtain ⟨v1, w1, hr, ho1, hg1⟩ := hrun
 rw [if_pos hw]
 unfold Oper.wp
 simp [execOp, ho, resolve, invoke, builtin, hs, hx, hr, Result.andThen]
 exact h v1 w1 ho1 hg1
end
theorem elem46 : Try.prog.underlying 46 = some (.slice (Try.prog.elem 46)) := by kernel_rfl
theorem size46 (w : World) : (sizeOf (Try.prog.elem 46)).run Try.prog w = .ok 1 w := by kernel_rfl
theorem exec_cut3 {w : World} {o : Oper} {a : Act} {x hi mx : Operand} {A : Option Addr} {n c p : Nat} (ho : o.op = .slice 46 x none (some hi) (some mx)) (hx : a.eval x = .slice A n c) (hh : a.eval hi = .int .i64 (p : Nat)) (hm : a.eval mx = .int .i64 (p : Nat)) (hp : p ≤ c) :
  (execOp a.eval o).run Try.prog w = .ok (.value (.slice A p p)) w := by
 have hp' : (p : Int) ≤ (c : Int) := by omega
 have h0 : (0 : Int) ≤ (p : Int) := by omega
 unfold execOp
 simp [ho, hx, hh, hm]
 rw [run_sliceAt_slice (h := elem46), run_slice_any (ht := elem46)]
 have hA : A.map (fun x => x.add 0) = A := by
  cases A with
  | none => rfl
  | some b => rfl
 simp [Instr.sliceBounds, run_sliceBound, sliced, size46, hp', h0, Result.andThen, hA]
theorem exec_from {w : World} {o : Oper} {a : Act} {x lo : Operand} {A : Option Addr} {n c p : Nat} (ho : o.op = .slice 46 x (some lo) none none) (hx : a.eval x = .slice A n c) (hh : a.eval lo = .int .i64 (p : Nat)) (hp : p ≤ n) (hc : n ≤ c) :
  (execOp a.eval o).run Try.prog w = .ok (.value (.slice (if c = p then A else A.map (·.add (p * 1))) (n - p) (c - p))) w := by
 have hp' : (p : Int) ≤ (n : Int) := by omega
 have h0 : (0 : Int) ≤ (p : Int) := by omega
 unfold execOp
 simp [ho, hx, hh]
 rw [run_sliceAt_slice (h := elem46), run_slice_any (ht := elem46)]
 simp [Instr.sliceBounds, run_sliceBound, sliced, size46, hp', h0, Result.andThen]
end Go.Proofs.Yteikgnaikeleaaa

namespace Go.Proofs.Yteikgnaikeleaaa
open Go.RowKit Go.Proofs.YteikgnaikeleaaaW.PrintWords Go.Proofs.YteikgnaikeleaaaW.PrintLast Go.Proofs.YteikgnaikeleaaaW.PrintMore
set_option linter.unusedVariables false

theorem rtext_calls (n : Nat) (h : n < 256) (W : World) : Calls Try.prog 78 #[.int .i64 n] W fun e w' => e = .returned (.string (tx (textN n))) ∧ Drawn0 W w' :=
 XLoop.dropperref09_text.calls 9 (n : Int) _ W (rtext_ev n h 0)
theorem textN_size (n : Nat) (h : n < 256) : (textN n).length = sizeN n := by
 have h9 : ∀ n : Fin 256, (textN n.val).length = sizeN n.val := by decide +kernel
 exact h9 ⟨n, h⟩
set_option maxHeartbeats 8000000 in
set_option maxRecDepth 1000000 in
theorem rsize_calls (n : Nat) (h : n < 256) (W : World) : Calls Try.prog 84 #[.int .i64 n] W fun e w' => e = .returned (.int .i64 (sizeN n)) ∧ Drawn0 W w' := by
 have HT := Aside0.mk (rtext_calls n h)
 have HS : Aside0 ((tx (textN n)).size = sizeN n) := ⟨by rw [tx_size, textN_size n h]⟩
 clear h
 generalize tx (textN n) = b at HT HS
 go_enter Try.func84, Try.ntmps84
 go_wp2_with (go_at_call 78; refine (HT.out _).mono ?_; rintro e W' ⟨rfl, m, rfl⟩)
 go_ret
 rw [HS.out]
 exact ⟨rfl, _, rfl⟩
def gtT (a b : Fin 256) : Bool := !(Op.bytesLess (textN a.val) (textN b.val) || textN a.val == textN b.val)
theorem gtr_text (a b : List UInt8) : binOp .gtr 9 (.string (tx a)) (.string (tx b)) = pure (.bool !(Op.bytesLess a b || a == b)) := by
 have e : ∀ l, (tx l).toList = l := tx_toList
 simp [binOp, Op.stringOp, e]
def posT (l : List (Fin 256)) (n : Fin 256) : Nat → Nat
 | 0 => 0
 | k + 1 => match l[k]? with
  | some a => if gtT a n then posT l n k else k + 1
  | none => k + 1
def insT (l : List (Fin 256)) (n : Fin 256) : List (Fin 256) := l.take (posT l n l.length) ++ ([n] ++ l.drop (posT l n l.length))
def fins : List (Fin 256) := List.finRange 256
def stepT (k : Nat) (l : List (Fin 256)) (n : Fin 256) : List (Fin 256) := if sizeN n.val = k then insT l n else l
def groupT (k x : Nat) : List (Fin 256) := (fins.take x).foldl (stepT k) []
def allT : Nat → List (Fin 256)
 | 0 => []
 | k + 1 => allT k ++ groupT k 256
theorem allT_order : allT 9 = orderF := by decide +kernel
theorem below_grown {W w1 : World} (h : W.grownBy w1 none) : Below W.heap.size W w1 := by
 obtain ⟨h1, h2, h3, h4, h5⟩ := h
 exact ⟨h1, h2, h3, h4, fun k hk => h5 k hk (by simp)⟩
theorem C_none (W : World) : fKd.C W none 0 [] := Kd.C_nil fKd W
theorem posT_le (l : List (Fin 256)) (n : Fin 256) : ∀ k, posT l n k ≤ k
 | 0 => Nat.le_refl _
 | k + 1 => by
  rw [posT]
  split
  ·
   split
   ·
    exact Nat.le_succ_of_le (posT_le l n k)
   ·
    exact Nat.le_refl _
  ·
   exact Nat.le_refl _
theorem insT_len (l : List (Fin 256)) (n : Fin 256) : (insT l n).length = l.length + 1 := by
 have := posT_le l n l.length
 simp [insT]
 omega
theorem fins_len : fins.length = 256 := List.length_finRange
theorem fins_at (x : Nat) (h : x < 256) : fins[x]'(by rw [fins_len]; exact h) = ⟨x, h⟩ := List.getElem_finRange _
theorem groupT_succ (k x : Nat) (h : x < 256) : groupT k (x + 1) = stepT k (groupT k x) ⟨x, h⟩ := by
 unfold groupT
 rw [List.take_succ_eq_append_getElem (by rw [fins_len]; exact h), List.foldl_append, fins_at x h]
 rfl
theorem groupT_len (k : Nat) : ∀ x, x ≤ 256 → (groupT k x).length ≤ x
 | 0, _ => by simp [groupT]
 | x + 1, h => by
  have := groupT_len k x (by omega)
  rw [groupT_succ k x (by omega), stepT]
  split
  ·
   rw [insT_len]; omega
  ·
   omega
theorem allT_len : ∀ k, (allT k).length ≤ 256 * k
 | 0 => Nat.le_refl _
 | k + 1 => by
  have h1 := allT_len k
  have h2 := groupT_len k 256 (Nat.le_refl _)
  rw [allT, List.length_append]
  omega
set_option maxHeartbeats 8000000 in
set_option maxRecDepth 1000000 in
theorem all_calls (w : World) : Calls Try.prog 77 #[] w fun e w' => ∃ v, e = .returned v ∧ fKd.R 3 w' w.heap.size (fun _ => True) v orderF ∧ Below w.heap.size w w' := by
 go_enter Try.func77, Try.ntmps77
 go_wp2
 go_loopg [1, 2] 10 (fun kq v1 v2 W => ∃ k : Nat, v2 = .int .i64 k ∧ Aside0 (k + kq = 10) ∧ Aside0 (k ≤ 9) ∧ Aside0 (fKd.R 3 W w.heap.size (fun _ => True) v1 (allT k)) ∧ Aside0 (Below w.heap.size w W))
 case atStart => exact ⟨0, rfl, ⟨rfl⟩, ⟨by decide⟩, ⟨Kd.R_nil _ _ _ _ _⟩, ⟨Below.refl _ _⟩⟩
 case round =>
  obtain ⟨k, rfl, HK, HK9, HO, HB⟩ := hrel
  by_cases hk : k ≤ 8
  ·
   have h1 : decide ((k : Int) ≤ 8) = true := decide_eq_true (by omega)
   have HK8 := Aside0.mk hk
   have hnk : wrap64 ((k : Int) + 1) = ((k + 1 : Nat) : Int) := by unfold wrap64; omega
   clear hk
   go_wp2
   go_loopg [3, 4] 257 (fun kq v3 v4 W => ∃ (x : Nat) (A : Option Addr) (c : Nat), v4 = .int .i64 x ∧ v3 = .slice A (groupT k x).length c ∧ Aside0 (x + kq = 257) ∧ Aside0 (x ≤ 256) ∧ Aside0 ((groupT k x).length ≤ c) ∧ Aside0 (fKd.C W A (groupT k x).length (groupT k x)) ∧ Aside0 (Below wr.heap.size wr W))
   case atStart => exact ⟨0, none, 0, rfl, rfl, ⟨rfl⟩, ⟨by decide⟩, ⟨Nat.le_refl _⟩, ⟨C_none _⟩, ⟨Below.refl _ _⟩⟩
   case round =>
    obtain ⟨x, A, c, rfl, rfl, HQ, HX, HC, HR, HBI⟩ := hrel
    have HGL := Aside0.mk (groupT_len k x HX.out)
    by_cases hx : x < 256
    ·
     have h2 : decide ((x : Int) < 256) = true := decide_eq_true (by omega)
     have hnx := next_nat x hx
     have HX1 := Aside0.mk hx
     have HSZ := Aside0.mk (rsize_calls x hx)
     by_cases hs : sizeN x = k
     ·
      have h3 : ((sizeN x : Int) != (k : Int)) = false := by simp [hs]
      obtain ⟨n, hn⟩ : ∃ n : Fin 256, n = ⟨x, hx⟩ := ⟨_, rfl⟩
      have HN : Aside0 (n.val = x) := ⟨by rw [hn]⟩
      have HG2 : Aside0 (groupT k (x + 1) = insT (groupT k x) n) := ⟨by rw [groupT_succ k x hx, stepT, if_pos hs, hn]⟩
      clear hs hn hx
      generalize groupT k x = l at HG2 HGL HC HR
      go_wp2_with (go_at_call 84; refine (HSZ.out _).mono ?_; rintro e W' ⟨rfl, m, rfl⟩)
      go_loopg [5] (l.length + 1) (fun kq v5 W => ∃ (y m : Nat), v5 = .int .i64 y ∧ W = wr.drewN m ∧ Aside0 (y + 1 = kq) ∧ Aside0 (y ≤ l.length) ∧ Aside0 (posT l n y = posT l n l.length))
      case atStart => exact ⟨l.length, m, rfl, rfl, ⟨rfl⟩, ⟨Nat.le_refl _⟩, ⟨rfl⟩⟩
      case round =>
       obtain ⟨y, m, rfl, rfl, HY, HYL, HP⟩ := hrel
       obtain _ | y := y
       ·
        have HP0 : Aside0 (posT l n l.length = 0) := ⟨HP.out.symm⟩
        go_wp2
        have HPL : Aside0 (0 ≤ l.length) := ⟨by rw [← HP0.out]; exact posT_le l n _⟩
        have HPC : Aside0 (0 ≤ c) := ⟨Nat.le_trans HPL.out HC.out⟩
        have HTK : Aside0 (fKd.C wr A 0 (l.take 0)) := ⟨by have h := Kd.C_take HR.out HPL.out; rw [List.length_take, Nat.min_eq_left HPL.out] at h; exact h⟩
        obtain ⟨A3, hA3⟩ : ∃ A3, A3 = (if c = 0 then A else A.map (·.add (0 * 1))) := ⟨_, rfl⟩
        have HDR : Aside0 (fKd.C wr A3 (l.length - 0) (l.drop 0)) := ⟨by rw [hA3]; have h := Kd.C_drop HR.out HPL.out HC.out; rw [List.length_drop] at h; exact h⟩
        have HA3 := Aside0.mk hA3
        clear hA3
        have HAN : Aside0 (A = none → 0 = 0) := ⟨fun _ => rfl⟩
        have HIN : Aside0 (insT l n = l.take 0 ++ ([n] ++ l.drop 0)) := ⟨by unfold insT; rw [HP0.out]⟩
        refine start_ (n := 12) (S := fun _ => True) (ds := []) #[false, false, false, false, false, false, false, false, false, false, false, false] (by kernel_rfl) rfl rfl trivial (fun hHeld => ?_)
        refine pst (i := 0) (N := some 35) (bz 12 1) (by kernel_rfl) ?_
        refine pst (i := 1) (N := some 36) (bz 12 3) (by kernel_rfl) ?_
        refine pst (i := 2) (N := some 37) (bz 12 7) (by kernel_rfl) ?_
        refine pst (i := 3) (N := some 38) (v := .slice A (0) (0)) (bz 12 15) (by kernel_rfl) ?_ (hy := Or.inl ⟨by rfl, fun w' => exec_cut3 rfl rfl rfl rfl HPC.out⟩)
        refine pst (i := 4) (N := some 39) (bz 12 31) (by kernel_rfl) ?_
        refine pst (i := 6) (N := some 41) (bz 12 95) (by kernel_rfl) ?_
        refine pst (i := 7) (N := some 42) (bz 12 223) (by kernel_rfl) ?_
        refine pst (i := 8) (N := some 43) (v := .slice A3 (l.length - 0) (c - 0)) (bz 12 479) (by kernel_rfl) ?_ (hy := Or.inl ⟨by rfl, fun w' => by rw [HA3.out]; exact exec_from rfl rfl rfl HPL.out HC.out⟩)
        have HE : Aside0 (encF n = .int .i64 (x : Nat)) := ⟨by show Value.int .i64 ((n.val : Nat) : Int) = _; rw [HN.out]⟩
        refine one_ (i := 5) (N := some 40) (bz 12 511) rfl rfl (by kernel_rfl) (by decide) (fun K hK => ?_)
        refine Kd.R_lit_step fKd (w0 := wr) wr.heap.size 3 ?hg (N := 40) ?hd (xs := [n]) (inner := [.int .i64 (x : Nat)]) (ok := fun _ => True) (okp := fun _ => False) ?hr ?hp (fun _ hk => hk.elim) trivial (below_drew1 (below_dn (Below.refl _ wr) _)) (Nat.le_refl _) (by simp) ?_
        case hd => rfl
        case hg => rfl
        case hr => first | (go_simp; done) | (go_simp; rfl)
        case hp => exact Reps.snoc (Reps.none _ _) (show [Value.int .i64 (x : Nat)] = [encF n] by rw [HE.out]) rfl
        intro v40 w40 hO hB hG hat
        have HO40 := Aside0.mk hO
        have HB40 := Aside0.mk hB
        clear hO hB hG hat
        refine hK.out _ _ trivial (fun hHeld => ?_)
        clear hK K
        refine norm_ (a' := ?_) ?_ ?_
        rotate_left
        ·
         simp only [Act.put]
         rfl
        refine one_ (i := 9) (N := some 44) (bz 12 1023) rfl rfl (by kernel_rfl) (by decide) (fun K hK => ?_)
        refine Kd.R_append_rows_step fKd (Rr := fKd.K w40) (w0 := wr) wr.heap.size (by rfl) (.tmp 40) (.tmp 43) 46 3 (.int .i64 0) 8 rfl Try.underlying46 info3 rfl Nat.one_pos (by omega) v40 [n] (l.drop 0) _ _ _ (fun _ => True) (fun _ => False) rfl rfl HO40.out (Kd.C_below HDR.out HB40.out) (fun _ _ h => h) (fun _ h => h.elim) (fun _ _ => trivial) HB40.out HB40.out.size (by have := HGL.out; have := HX1.out; simp; omega) ?_
        intro v44 w44 hO hB hG hat
        obtain ⟨ad4, c4, rfl⟩ := Kd.R_slice1 hO (by simp)
        obtain ⟨_, _, hC4⟩ := Kd.R_reads' hO
        have HC4 := Aside0.mk hC4
        have HB44 := Aside0.mk hB
        clear hO hB hG hat hC4
        refine hK.out _ _ trivial (fun hHeld => ?_)
        clear hK K
        refine norm_ (a' := ?_) ?_ ?_
        rotate_left
        ·
         simp only [Act.put]
         rfl
        refine one_ (i := 10) (N := some 45) (bz 12 2047) rfl rfl (by kernel_rfl) (by decide) (fun K hK => ?_)
        refine ap_full rfl (.tmp 38) (.tmp 44) rfl A 0 (l.take 0) rfl HAN.out (Kd.C_below HTK.out HB44.out) ad4 _ c4 ([n] ++ l.drop 0) rfl HC4.out (by simp) (by have := HGL.out; have := HX1.out; have := HPL.out; simp; omega) ?_
        intro v45 w45 hO hG
        rw [← HIN.out, ← HG2.out] at hO
        obtain ⟨A5, c5, rfl, hc5, hr5⟩ := Kd.R_reads hO
        have HC5 := Aside0.mk hc5
        have HR5 := Aside0.mk hr5
        have HB5 := Aside0.mk (below_step HB44.out (below_grown hG))
        clear hO hG hc5 hr5
        refine hK.out _ _ trivial (fun hHeld => ?_)
        clear hK K
        refine norm_ (a' := ?_) ?_ ?_
        rotate_left
        ·
         simp only [Act.put]
         rfl
        refine pst (i := 11) (N := some 3) (bz 12 4095) (by kernel_rfl) ?_
        refine done_ (by kernel_rfl) ?_
        go_wp2
        go_roundg (256 - x)
        case measure => have := HQ.out; have := HX1.out; omega
        case rel => exact ⟨x + 1, A5, c5, by first | rfl | rw [hnx], rfl, ⟨by have := HX1.out; have := HQ.out; omega⟩, ⟨HX1.out⟩, HC5, HR5, ⟨below_step HBI.out HB5.out⟩⟩
       ·
        have hyl : y < l.length := HYL.out
        obtain ⟨ad, rfl, hcell⟩ := row_at HR.out y hyl
        have h4 : decide ((0 : Int) < ((y + 1 : Nat) : Int)) = true := decide_eq_true (by omega)
        have h5 : wrap64 (y : Int) = (y : Int) := by unfold wrap64; have := HGL.out; have := HX1.out; omega
        have h6 : (0 : Int) ≤ (y : Int) ∧ (y : Int) < (l.length : Int) := by omega
        have hp := HP.out
        rw [posT, List.getElem?_eq_getElem hyl] at hp
        simp only at hp
        generalize l[y] = q at hp hcell
        have HT1 := Aside0.mk (rtext_calls q.val q.isLt)
        have HT2 := Aside0.mk (rtext_calls n.val n.isLt)
        rw [HN.out] at HT2
        have hgt := gtr_text (textN q.val) (textN n.val)
        rw [show (!(Op.bytesLess (textN q.val) (textN n.val) || textN q.val == textN n.val)) = gtT q n from rfl, HN.out] at hgt
        by_cases hg : gtT q n = true
        ·
         rw [hg] at hgt
         rw [if_pos hg] at hp
         have HP2 := Aside0.mk hp
         clear hp hg
         go_wp2_with (first | (go_at_call 78; refine (HT1.out _).mono ?_; rintro e W' ⟨rfl, m1, rfl⟩; clear HT1) | (go_at_call 78; refine (HT2.out _).mono ?_; rintro e W' ⟨rfl, m2, rfl⟩))
         go_roundg (y + 1)
         case measure => have := HY.out; omega
         case rel => exact ⟨y, _, by first | rfl | rw [h5], rfl, ⟨by have := HY.out; omega⟩, ⟨by have := HYL.out; omega⟩, HP2⟩
        ·
         rw [Bool.eq_false_iff.mpr hg] at hgt
         rw [if_neg hg] at hp
         have HP2 := Aside0.mk hp
         clear hp hg
         go_wp2_with (first | (go_at_call 78; refine (HT1.out _).mono ?_; rintro e W' ⟨rfl, m1, rfl⟩; clear HT1) | (go_at_call 78; refine (HT2.out _).mono ?_; rintro e W' ⟨rfl, m2, rfl⟩))
         have HP0 : Aside0 (posT l n l.length = y + 1) := ⟨HP2.out.symm⟩
         have HPL : Aside0 ((y + 1) ≤ l.length) := ⟨by rw [← HP0.out]; exact posT_le l n _⟩
         have HPC : Aside0 ((y + 1) ≤ c) := ⟨Nat.le_trans HPL.out HC.out⟩
         have HTK : Aside0 (fKd.C wr (some ad) (y + 1) (l.take (y + 1))) := ⟨by have h := Kd.C_take HR.out HPL.out; rw [List.length_take, Nat.min_eq_left HPL.out] at h; exact h⟩
         obtain ⟨A3, hA3⟩ : ∃ A3, A3 = (if c = (y + 1) then (some ad) else (some ad).map (·.add ((y + 1) * 1))) := ⟨_, rfl⟩
         have HDR : Aside0 (fKd.C wr A3 (l.length - (y + 1)) (l.drop (y + 1))) := ⟨by rw [hA3]; have h := Kd.C_drop HR.out HPL.out HC.out; rw [List.length_drop] at h; exact h⟩
         have HA3 := Aside0.mk hA3
         clear hA3
         have HAN : Aside0 ((some ad) = none → (y + 1) = 0) := ⟨fun hA => by cases hA⟩
         have HIN : Aside0 (insT l n = l.take (y + 1) ++ ([n] ++ l.drop (y + 1))) := ⟨by unfold insT; rw [HP0.out]⟩
         refine start_ (n := 12) (S := fun _ => True) (ds := []) #[false, false, false, false, false, false, false, false, false, false, false, false] (by kernel_rfl) rfl rfl trivial (fun hHeld => ?_)
         refine pst (i := 0) (N := some 35) (bz 12 1) (by kernel_rfl) ?_
         refine pst (i := 1) (N := some 36) (bz 12 3) (by kernel_rfl) ?_
         refine pst (i := 2) (N := some 37) (bz 12 7) (by kernel_rfl) ?_
         refine pst (i := 3) (N := some 38) (v := .slice (some ad) (y + 1) (y + 1)) (bz 12 15) (by kernel_rfl) ?_ (hy := Or.inl ⟨by rfl, fun w' => exec_cut3 rfl rfl rfl rfl HPC.out⟩)
         refine pst (i := 4) (N := some 39) (bz 12 31) (by kernel_rfl) ?_
         refine pst (i := 6) (N := some 41) (bz 12 95) (by kernel_rfl) ?_
         refine pst (i := 7) (N := some 42) (bz 12 223) (by kernel_rfl) ?_
         refine pst (i := 8) (N := some 43) (v := .slice A3 (l.length - (y + 1)) (c - (y + 1))) (bz 12 479) (by kernel_rfl) ?_ (hy := Or.inl ⟨by rfl, fun w' => by rw [HA3.out]; exact exec_from rfl rfl rfl HPL.out HC.out⟩)
         have HE : Aside0 (encF n = .int .i64 (x : Nat)) := ⟨by show Value.int .i64 ((n.val : Nat) : Int) = _; rw [HN.out]⟩
         refine one_ (i := 5) (N := some 40) (bz 12 511) rfl rfl (by kernel_rfl) (by decide) (fun K hK => ?_)
         refine Kd.R_lit_step fKd (w0 := wr) wr.heap.size 3 ?hg (N := 40) ?hd (xs := [n]) (inner := [.int .i64 (x : Nat)]) (ok := fun _ => True) (okp := fun _ => False) ?hr ?hp (fun _ hk => hk.elim) trivial (below_drew1 (below_dn (Below.refl _ wr) _)) (Nat.le_refl _) (by simp) ?_
         case hd => rfl
         case hg => rfl
         case hr => first | (go_simp; done) | (go_simp; rfl)
         case hp => exact Reps.snoc (Reps.none _ _) (show [Value.int .i64 (x : Nat)] = [encF n] by rw [HE.out]) rfl
         intro v40 w40 hO hB hG hat
         have HO40 := Aside0.mk hO
         have HB40 := Aside0.mk hB
         clear hO hB hG hat
         refine hK.out _ _ trivial (fun hHeld => ?_)
         clear hK K
         refine norm_ (a' := ?_) ?_ ?_
         rotate_left
         ·
          simp only [Act.put]
          rfl
         refine one_ (i := 9) (N := some 44) (bz 12 1023) rfl rfl (by kernel_rfl) (by decide) (fun K hK => ?_)
         refine Kd.R_append_rows_step fKd (Rr := fKd.K w40) (w0 := wr) wr.heap.size (by rfl) (.tmp 40) (.tmp 43) 46 3 (.int .i64 0) 8 rfl Try.underlying46 info3 rfl Nat.one_pos (by omega) v40 [n] (l.drop (y + 1)) _ _ _ (fun _ => True) (fun _ => False) rfl rfl HO40.out (Kd.C_below HDR.out HB40.out) (fun _ _ h => h) (fun _ h => h.elim) (fun _ _ => trivial) HB40.out HB40.out.size (by have := HGL.out; have := HX1.out; simp; omega) ?_
         intro v44 w44 hO hB hG hat
         obtain ⟨ad4, c4, rfl⟩ := Kd.R_slice1 hO (by simp)
         obtain ⟨_, _, hC4⟩ := Kd.R_reads' hO
         have HC4 := Aside0.mk hC4
         have HB44 := Aside0.mk hB
         clear hO hB hG hat hC4
         refine hK.out _ _ trivial (fun hHeld => ?_)
         clear hK K
         refine norm_ (a' := ?_) ?_ ?_
         rotate_left
         ·
          simp only [Act.put]
          rfl
         refine one_ (i := 10) (N := some 45) (bz 12 2047) rfl rfl (by kernel_rfl) (by decide) (fun K hK => ?_)
         refine ap_full rfl (.tmp 38) (.tmp 44) rfl (some ad) (y + 1) (l.take (y + 1)) rfl HAN.out (Kd.C_below HTK.out HB44.out) ad4 _ c4 ([n] ++ l.drop (y + 1)) rfl HC4.out (by simp) (by have := HGL.out; have := HX1.out; have := HPL.out; simp; omega) ?_
         intro v45 w45 hO hG
         rw [← HIN.out, ← HG2.out] at hO
         obtain ⟨A5, c5, rfl, hc5, hr5⟩ := Kd.R_reads hO
         have HC5 := Aside0.mk hc5
         have HR5 := Aside0.mk hr5
         have HB5 := Aside0.mk (below_step HB44.out (below_grown hG))
         clear hO hG hc5 hr5
         refine hK.out _ _ trivial (fun hHeld => ?_)
         clear hK K
         refine norm_ (a' := ?_) ?_ ?_
         rotate_left
         ·
          simp only [Act.put]
          rfl
         refine pst (i := 11) (N := some 3) (bz 12 4095) (by kernel_rfl) ?_
         refine done_ (by kernel_rfl) ?_
         go_wp2
         go_roundg (256 - x)
         case measure => have := HQ.out; have := HX1.out; omega
         case rel => exact ⟨x + 1, A5, c5, by first | rfl | rw [hnx], rfl, ⟨by have := HX1.out; have := HQ.out; omega⟩, ⟨HX1.out⟩, HC5, HR5, ⟨below_step HBI.out HB5.out⟩⟩
     ·
      have h3 : ((sizeN x : Int) != (k : Int)) = true := by simp; omega
      have HG2 : Aside0 (groupT k (x + 1) = groupT k x) := ⟨by rw [groupT_succ k x hx, stepT, if_neg hs]⟩
      clear hs hx
      go_wp2_with (go_at_call 84; refine (HSZ.out _).mono ?_; rintro e W' ⟨rfl, m, rfl⟩)
      go_roundg (256 - x)
      case measure => have := HQ.out; have := HX1.out; omega
      case rel => exact ⟨x + 1, A, c, by first | rfl | rw [hnx], by rw [HG2.out], ⟨by have := HX1.out; have := HQ.out; omega⟩, ⟨HX1.out⟩, by rw [HG2.out]; exact HC, by rw [HG2.out]; exact HR, ⟨below_dn HBI.out _⟩⟩
    ·
     have h2 : decide ((x : Int) < 256) = false := decide_eq_false (by omega)
     have hx8 : x = 256 := by have := HX.out; omega
     subst hx8
     have HO1 := Aside0.mk (Kd.R_below HO.out HBI.out)
     have HB1 := Aside0.mk (below_step HB.out HBI.out)
     have HAL := Aside0.mk (allT_len k)
     go_wp2_with ((with_reducible refine gate_builtin (b := .append) (xs := #[.tmp 46, .tmp 47]) rfl ?_); at_builtin; refine Kd.R_append_rows fKd (Rr := fKd.K wr) (w0 := w) w.heap.size rfl (.tmp 46) (.tmp 47) 46 3 (.int .i64 0) 8 rfl Try.underlying46 info3 rfl Nat.one_pos (by omega) u1 (allT k) (groupT k 256) _ _ _ (fun _ => True) (fun _ => False) rfl rfl HO1.out HR.out (fun _ _ h => h) (fun _ h => h.elim) (fun _ _ => trivial) HB1.out HB1.out.size (by have := HAL.out; have := HGL.out; have := HK8.out; omega) ?_; intro v9 w9 ho hb hg hat; have HO9 := Aside0.mk ho; have HB9 := Aside0.mk hb; clear ho hb hg hat)
     go_roundg (9 - k)
     case measure => have := HK.out; have := HK8.out; omega
     case rel => exact ⟨k + 1, by first | rfl | rw [hnk], ⟨by have := HK8.out; omega⟩, ⟨by have := HK8.out; omega⟩, HO9, HB9⟩
  ·
   have h1 : decide ((k : Int) ≤ 8) = false := decide_eq_false (by omega)
   have hk9 : k = 9 := by have := HK9.out; omega
   subst hk9
   rw [allT_order] at HO
   go_wp2
   go_ret
   exact ⟨_, rfl, HO.out, HB.out⟩
end Go.Proofs.Yteikgnaikeleaaa

namespace Go.Proofs.Yteikgnaikeleaaa
open Go.RowKit Go.Proofs.YteikgnaikeleaaaW.PrintWords Go.Proofs.YteikgnaikeleaaaW.PrintLast Go.Proofs.YteikgnaikeleaaaW.PrintMore
set_option linter.unusedVariables false

def diffX (o : Option (Fin 256)) : List UInt8 × Int := match o with | some k => (textN k.val, 0) | none => ([], 5)
set_option maxHeartbeats 8000000 in
set_option maxRecDepth 1000000 in
theorem rdiffer_calls (s t : List UInt8) (w : World) : Calls Try.prog 38 #[.string (tx s), .string (tx t)] w fun e w' => e = .returned (.tuple #[.string (tx (differR s t).1), .int .i64 (differR s t).2]) ∧ Below w.heap.size w w' := by
 have HS := Aside0.mk (rask_e s)
 have HT := Aside0.mk (rask_e t)
 unfold RAskE at HS HT
 have hzz := zero50
 unfold differR
 cases hc : parseL s with
 | none =>
  rw [hc] at HS
  go_enter Try.func38, Try.ntmps38
  go_wp2_with (first | (go_at_call 61; refine (HS.out _).mono ?_; rintro e W1 ⟨v, c, rfl, hb, rfl⟩; clear HS; have HB1 := Aside0.mk (new_below hb (Nat.le_refl _) v); clear hb) | (go_at_call 61; refine (HT.out _).mono ?_; rintro e W2 ⟨v2, c2, rfl, hb, hv2⟩; have HB2 := Aside0.mk (new_below (below_step HB1.out hb) (Nat.le_refl _) v2); clear hb hv2) | (refine wpList_store_row rfl 50 (.tmp 6) (.tmp 15) rfl W1.heap.size (tbl v) rfl rfl 50 (tbl fun _ => false) (blk_new _ _) (tbl_info v) (by rw [tbl_size, tbl_size]) (tbl_one v) ?_) | (refine wpList_store_row rfl 50 (.tmp 8) (.tmp 20) rfl W2.heap.size (tbl v2) rfl rfl 50 (tbl fun _ => false) (blk_new _ _) (tbl_info v2) (by rw [tbl_size, tbl_size]) (tbl_one v2) ?_))
  go_ret2
  exact ⟨rfl, HB2.out⟩
 | some m =>
  rw [hc] at HS
  cases hd : parseL t with
  | none =>
   rw [hd] at HT
   go_enter Try.func38, Try.ntmps38
   go_wp2_with (first | (go_at_call 61; refine (HS.out _).mono ?_; rintro e W1 ⟨v, c, rfl, hb, rfl, hv⟩; clear HS; have HB1 := Aside0.mk (new_below hb (Nat.le_refl _) v); clear hb hv) | (go_at_call 61; refine (HT.out _).mono ?_; rintro e W2 ⟨v2, c2, rfl, hb, rfl⟩; have HB2 := Aside0.mk (new_below (below_step HB1.out hb) (Nat.le_refl _) v2); clear hb) | (refine wpList_store_row rfl 50 (.tmp 6) (.tmp 15) rfl W1.heap.size (tbl v) rfl rfl 50 (tbl fun _ => false) (blk_new _ _) (tbl_info v) (by rw [tbl_size, tbl_size]) (tbl_one v) ?_) | (refine wpList_store_row rfl 50 (.tmp 8) (.tmp 20) rfl W2.heap.size (tbl v2) rfl rfl 50 (tbl fun _ => false) (blk_new _ _) (tbl_info v2) (by rw [tbl_size, tbl_size]) (tbl_one v2) ?_))
   go_ret2
   exact ⟨rfl, HB2.out⟩
  | some n =>
   rw [hd] at HT
   obtain ⟨f, hf⟩ : ∃ f, f = m.f := ⟨_, rfl⟩
   obtain ⟨f2, hf2⟩ : ∃ f, f = n.f := ⟨_, rfl⟩
   simp only [← hf, ← hf2] at HS HT ⊢
   clear hc hd hf hf2
   show Calls Try.prog 38 #[.string (tx s), .string (tx t)] w fun e w' => e = .returned (.tuple #[.string (tx (diffX (differF f f2)).1), .int .i64 (diffX (differF f f2)).2]) ∧ Below w.heap.size w w'
   obtain ⟨X, hX⟩ : ∃ X, X = diffX (differF f f2) := ⟨_, rfl⟩
   rw [← hX]
   have HX0 := Aside0.mk hX
   clear hX
   go_enter Try.func38, Try.ntmps38
   go_wp2_with (first | (go_at_call 61; refine (HS.out _).mono ?_; rintro e W1 ⟨v, c, rfl, hb, rfl, rfl⟩; clear HS; have HB1 := Aside0.mk (new_below hb (Nat.le_refl _) v); have HH1 := Aside0.mk (new_row W1 v); clear hb) | (go_at_call 61; refine (HT.out _).mono ?_; rintro e W2 ⟨v2, c2, rfl, hb, rfl, rfl⟩; have HB0 := Aside0.mk (new_below (below_step HB1.out hb) (Nat.le_refl _) v2); have HH20 := Aside0.mk (new_row W2 v2); have HH0 := Aside0.mk (old_row (blk_below HH1.out hb) v2); clear hb) | (go_at_call 77; refine (all_calls _).mono ?_; rintro e W3 ⟨v9, rfl, ho, hb⟩; obtain ⟨A, c, rfl, _, hr⟩ := Kd.R_reads ho; rw [ord_len] at hr ⊢; have HR := Aside0.mk hr; have HB3 := Aside0.mk (below_step HB0.out hb); have HHa := Aside0.mk (blk_below HH0.out hb); have HHb := Aside0.mk (blk_below HH20.out hb); clear hb ho hr) | (refine wpList_store_row rfl 50 (.tmp 6) (.tmp 15) rfl W1.heap.size (tbl v) rfl rfl 50 (tbl fun _ => false) (blk_new _ _) (tbl_info v) (by rw [tbl_size, tbl_size]) (tbl_one v) ?_) | (refine wpList_store_row rfl 50 (.tmp 8) (.tmp 20) rfl W2.heap.size (tbl v2) rfl rfl 50 (tbl fun _ => false) (blk_new _ _) (tbl_info v2) (by rw [tbl_size, tbl_size]) (tbl_one v2) ?_))
   go_loopg [11] 257 (fun kq v11 W => ∃ x : Nat, v11 = .int .i64 x ∧ Aside0 (x + kq = 257) ∧ Aside0 (x ≤ 256) ∧ Aside0 ((orderF.drop x).find? (fun n => v n.val != v2 n.val) = differF v v2) ∧ Aside0 (Below W3.heap.size W3 W))
   case atStart => exact ⟨0, rfl, ⟨rfl⟩, ⟨by decide⟩, ⟨rfl⟩, ⟨Below.refl _ _⟩⟩
   case round =>
    clear HH0 HH20 HB0 HB1 HH1 HT hzz
    obtain ⟨x, rfl, HK, HX, HD, HB⟩ := hrel
    by_cases hx : x < 256
    ·
     have h1 : decide ((x : Int) < 256) = true := decide_eq_true (by omega)
     have hnx := next_nat x hx
     have HX1 := Aside0.mk hx
     have hxl : x < orderF.length := by rw [ord_len]; exact hx
     obtain ⟨ad, rfl, hcell⟩ := ord_at (Kd.C_below HR.out HB.out) x hx
     have hd := HD.out
     rw [List.drop_eq_getElem_cons hxl, List.find?_cons] at hd
     generalize orderF[x] = k at hd hcell
     have hk := k.isLt
     have h0 : (0 : Int) ≤ (k.val : Int) ∧ (k.val : Int) < 256 := by omega
     have h00 : (0 : Int) ≤ (x : Int) ∧ (x : Int) < 256 := by omega
     have HHc := Aside0.mk (blk_below HHa.out HB.out)
     have HHd := Aside0.mk (blk_below HHb.out HB.out)
     have c1 := tbl_cell HHc.out k.val hk
     have c2 := tbl_cell HHd.out k.val hk
     clear hx hxl
     by_cases hb : (v k.val != v2 k.val) = true
     ·
      rw [hb] at hd
      have HD2 : Aside0 (differF v v2 = some k) := ⟨hd.symm⟩
      have e1 : (v k.val == v2 k.val) = false := by simpa using hb
      have e2 : (v k.val ^^ v2 k.val) = true := by simpa using hb
      have e3 : (!(v k.val == v2 k.val)) = true := by rw [e1]; rfl
      clear hd
      have HTX := Aside0.mk (rtext_calls k.val hk)
      go_wp2
      go_quiet (fail)
      go_wp2_with (go_at_call 78; refine (HTX.out _).mono ?_; rintro e w' ⟨rfl, m2, rfl⟩)
      go_ret2
      rw [HX0.out, HD2.out]
      exact ⟨rfl, below_step HB3.out (by first | exact pw_below_drewN HB.out _ | exact pw_below_drewN (pw_below_drewN HB.out _) _)⟩
     ·
      have hb' := Bool.eq_false_iff.mpr hb
      rw [hb'] at hd
      have HD2 := Aside0.mk hd
      have e1 : (v k.val == v2 k.val) = true := by simpa using hb
      have e2 : (v k.val ^^ v2 k.val) = false := by simpa using hb
      have e3 : (!(v k.val == v2 k.val)) = false := by rw [e1]; rfl
      clear hd hb
      go_wp2
      go_quiet (fail)
      go_wp2
      go_roundg (256 - x)
      case measure => have := HK.out; have := HX1.out; omega
      case rel => exact ⟨x + 1, by first | rfl | rw [hnx], ⟨by have := HX1.out; omega⟩, ⟨HX1.out⟩, HD2, ⟨pw_below_drewN HB.out _⟩⟩
    ·
     have h1 : decide ((x : Int) < 256) = false := decide_eq_false (by omega)
     have hd := HD.out
     rw [List.drop_eq_nil_of_le (by rw [ord_len]; omega)] at hd
     have HD2 : Aside0 (differF v v2 = none) := ⟨hd.symm⟩
     clear hd
     go_wp2
     go_ret2
     rw [HX0.out, HD2.out]
     exact ⟨rfl, below_step HB3.out HB.out⟩
theorem all_orderF : ∀ n : Fin 256, n ∈ orderF := by decide +kernel
theorem same_of_differ (f g : Nat → Bool) : sameF f g = (differF f g).isNone := by
 rw [Bool.eq_iff_iff]
 simp only [sameF, differF, List.all_eq_true, List.mem_range, beq_iff_eq, Option.isNone_iff_eq_none, List.find?_eq_none, bne_iff_ne, ne_eq, Decidable.not_not]
 constructor
 ·
  exact fun h n _ => h n.val n.isLt
 ·
  exact fun h i hi => h ⟨i, hi⟩ (all_orderF ⟨i, hi⟩)
set_option maxHeartbeats 8000000 in
set_option maxRecDepth 1000000 in
theorem rsame_calls (s t : List UInt8) (w : World) : Calls Try.prog 37 #[.string (tx s), .string (tx t)] w fun e w' => e = .returned (.tuple #[.bool (sameR s t).1, .int .i64 (sameR s t).2]) ∧ Below w.heap.size w w' := by
 have HD := Aside0.mk (rdiffer_calls s t w)
 unfold sameR
 unfold differR at HD
 cases hc : parseL s with
 | none =>
  rw [hc] at HD
  go_enter Try.func37, Try.ntmps37
  go_wp2_with (go_at_call 38; refine HD.out.mono ?_; rintro e W1 ⟨rfl, hb⟩; have HB := Aside0.mk hb; clear hb)
  go_ret2
  exact ⟨rfl, HB.out⟩
 | some m =>
  cases hd : parseL t with
  | none =>
   rw [hc, hd] at HD
   go_enter Try.func37, Try.ntmps37
   go_wp2_with (go_at_call 38; refine HD.out.mono ?_; rintro e W1 ⟨rfl, hb⟩; have HB := Aside0.mk hb; clear hb)
   go_ret2
   exact ⟨rfl, HB.out⟩
  | some n =>
   rw [hc, hd] at HD
   have HD : Aside0 (Calls Try.prog 38 #[.string (tx s), .string (tx t)] w fun e w' => e = .returned (.tuple #[.string (tx (diffX (differF m.f n.f)).1), .int .i64 (diffX (differF m.f n.f)).2]) ∧ Below w.heap.size w w') := HD
   have hs := same_of_differ m.f n.f
   cases hq : differF m.f n.f with
   | none =>
    rw [hq] at HD hs
    simp only [hs]
    clear hs hq hc hd
    go_enter Try.func37, Try.ntmps37
    go_wp2_with (go_at_call 38; refine HD.out.mono ?_; rintro e W1 ⟨rfl, hb⟩; have HB := Aside0.mk hb; clear hb)
    go_ret2
    exact ⟨rfl, HB.out⟩
   | some k =>
    rw [hq] at HD hs
    simp only [hs]
    clear hs hq hc hd
    go_enter Try.func37, Try.ntmps37
    go_wp2_with (go_at_call 38; refine HD.out.mono ?_; rintro e W1 ⟨rfl, hb⟩; have HB := Aside0.mk hb; clear hb)
    go_ret2
    exact ⟨rfl, HB.out⟩
end Go.Proofs.Yteikgnaikeleaaa

namespace Go.Proofs.Yteikgnaikeleaaa.XLoop
open Go.RowKit Go.Proofs.YteikgnaikeleaaaW.PrintWords Go.Proofs.YteikgnaikeleaaaW.PrintLast Go.Proofs.YteikgnaikeleaaaW.PrintMore
attribute [local go_sem] max2_int min2_int max_two min_two max_three min_three max_four min_four   -- for this text's walks alone
set_option linter.unusedVariables false
set_option linter.unusedSimpArgs false
/-! ### dropperref09_Same: function 37 -/
def dropperref09_Same.f (a0 : ByteArray) (a1 : ByteArray) : Option (Bool × Int) := some ((sameR a0.data.toList a1.data.toList).1, (sameR a0.data.toList a1.data.toList).2)
theorem dropperref09_Same.calls (a0 : ByteArray) (a1 : ByteArray) (r1 : Bool) (r2 : Int) (w : World) (h : dropperref09_Same.f a0 a1 = some (r1, r2)) :
  Calls Try.prog 37 #[.string a0, .string a1] w fun e w' => e = .returned (.tuple #[.bool r1, .int .i64 r2]) ∧ Below w.heap.size w w' := by
 obtain ⟨rfl, rfl⟩ := Prod.mk.inj (Option.some.inj h)
 have hc := rsame_calls a0.data.toList a1.data.toList w
 simp only [tx_data] at hc
 exact hc

/-! ### dropperref09_Differ: function 38 -/
def dropperref09_Differ.f (a0 : ByteArray) (a1 : ByteArray) : Option (ByteArray × Int) := some (tx (differR a0.data.toList a1.data.toList).1, (differR a0.data.toList a1.data.toList).2)
theorem dropperref09_Differ.calls (a0 : ByteArray) (a1 : ByteArray) (r1 : ByteArray) (r2 : Int) (w : World) (h : dropperref09_Differ.f a0 a1 = some (r1, r2)) :
  Calls Try.prog 38 #[.string a0, .string a1] w fun e w' => e = .returned (.tuple #[.string r1, .int .i64 r2]) ∧ Below w.heap.size w w' := by
 obtain ⟨rfl, rfl⟩ := Prod.mk.inj (Option.some.inj h)
 have hc := rdiffer_calls a0.data.toList a1.data.toList w
 simp only [tx_data] at hc
 exact hc

/-! ### dropperref09_Within: function 39 -/
def dropperref09_Within.f (a0 : ByteArray) (a1 : ByteArray) : Option (Bool × Int) := some ((withinR a0.data.toList a1.data.toList).1, (withinR a0.data.toList a1.data.toList).2)
theorem dropperref09_Within.calls (a0 : ByteArray) (a1 : ByteArray) (r1 : Bool) (r2 : Int) (w : World) (h : dropperref09_Within.f a0 a1 = some (r1, r2)) :
  Calls Try.prog 39 #[.string a0, .string a1] w fun e w' => e = .returned (.tuple #[.bool r1, .int .i64 r2]) ∧ Below w.heap.size w w' := by
 obtain ⟨rfl, rfl⟩ := Prod.mk.inj (Option.some.inj h)
 have hc := rwithin_calls a0.data.toList a1.data.toList w
 simp only [tx_data] at hc
 exact hc

/-! ### dropperlaw09_LoopDiffers: function 8 -/
def dropperlaw09_LoopDiffers.f (k : Nat) (a0 : ByteArray) (a1 : ByteArray) : Option (Bool) := (dropperlaw09_Long.f a0 a1).bind fun t205 => (if t205 = true then ((dropperlaw09_First.f k).bind fun t206 => (some t206)) else ((loop_Same.f a0 a1).bind fun bt207 => ((dropperref09_Same.f a0 a1).bind fun bt209 => ((loop_Differ.f a0 a1).bind fun bt211 => ((dropperref09_Differ.f a0 a1).bind fun bt213 => ((loop_Within.f a0 a1).bind fun bt215 => ((dropperref09_Within.f a0 a1).bind fun bt217 => (if (bt207.1 == bt209.1) = true then (if bt207.2 = bt209.2 then (if bt211.1.toList = bt213.1.toList then (if bt211.2 = bt213.2 then (if (bt215.1 == bt217.1) = true then (if bt215.2 = bt217.2 then ((dropperlaw09_First.f k).bind fun t219 => (some t219)) else (none)) else (none)) else (none)) else (none)) else (none)) else (none)))))))))
set_option maxHeartbeats 8000000 in
set_option maxRecDepth 100000 in
theorem dropperlaw09_LoopDiffers.calls (k : Nat) (a0 : ByteArray) (a1 : ByteArray) (r : Bool) (w : World) (h : dropperlaw09_LoopDiffers.f k a0 a1 = some r) :
  Calls Try.prog 8 #[.string a0, .string a1] w fun e w' => e = .returned (.bool r) ∧ Below w.heap.size w w' := by
 have HB := Aside0.mk (Below.refl w.heap.size w)
 have H : ((dropperlaw09_Long.f a0 a1).bind fun t205 => (if t205 = true then ((dropperlaw09_First.f k).bind fun t206 => (some t206)) else ((loop_Same.f a0 a1).bind fun bt207 => ((dropperref09_Same.f a0 a1).bind fun bt209 => ((loop_Differ.f a0 a1).bind fun bt211 => ((dropperref09_Differ.f a0 a1).bind fun bt213 => ((loop_Within.f a0 a1).bind fun bt215 => ((dropperref09_Within.f a0 a1).bind fun bt217 => (if (bt207.1 == bt209.1) = true then (if bt207.2 = bt209.2 then (if bt211.1.toList = bt213.1.toList then (if bt211.2 = bt213.2 then (if (bt215.1 == bt217.1) = true then (if bt215.2 = bt217.2 then ((dropperlaw09_First.f k).bind fun t219 => (some t219)) else (none)) else (none)) else (none)) else (none)) else (none)) else (none)))))))))) = some r := h
 clear h
 replace H := Option.bind_eq_some_iff.mp H
 obtain ⟨t205, A30, H⟩ := H
 try dsimp only at H
 have A3 := Aside0.mk A30
 clear A30
 by_cases c4 : t205 = true
 ·
  subst c4
  rw [if_pos rfl] at H
  replace H := Option.bind_eq_some_iff.mp H
  obtain ⟨t206, A50, H⟩ := H
  try dsimp only at H
  have A5 := Aside0.mk A50
  clear A50
  obtain rfl := Option.some.inj H
  go_enter Try.func8, Try.ntmps8
  go_wp2_with (first | ((with_reducible refine gate_callee (f := 14) rfl ?_); refine goesL_ (some 19) rfl rfl Try.func14 (by kernel_rfl) rfl #[.string a0, .string a1] rfl mapz ?_; (with_reducible refine (dropperlaw09_Long.calls a0 a1 true _ A3.out).mono ?_); rintro e w' ⟨rfl, ⟨nd, rfl⟩⟩; refine ⟨_, rfl, ?_⟩) | ((with_reducible refine gate_callee (f := 15) rfl ?_); refine goesL_ (some 20) rfl rfl Try.func15 (by kernel_rfl) rfl #[] rfl mapz ?_; (with_reducible refine (dropperlaw09_First.calls k  t206 _ A5.out).mono ?_); rintro e w6 ⟨rfl, hb⟩; refine ⟨_, rfl, ?_⟩; replace HB := Aside0.mk (below_step bel hb); clear hb))
  go_ret
  exact ⟨ezz, bel⟩
 ·
  replace c4 := Bool.eq_false_iff.mpr c4
  subst c4
  rw [if_neg (show ¬ (false = true) by decide)] at H
  replace H := Option.bind_eq_some_iff.mp H
  obtain ⟨⟨t207, t208⟩, A70, H⟩ := H
  try dsimp only at H
  have A7 := Aside0.mk A70
  clear A70
  replace H := Option.bind_eq_some_iff.mp H
  obtain ⟨⟨t209, t210⟩, A80, H⟩ := H
  try dsimp only at H
  have A8 := Aside0.mk A80
  clear A80
  replace H := Option.bind_eq_some_iff.mp H
  obtain ⟨⟨t211, t212⟩, A90, H⟩ := H
  try dsimp only at H
  have A9 := Aside0.mk A90
  clear A90
  replace H := Option.bind_eq_some_iff.mp H
  obtain ⟨⟨t213, t214⟩, A100, H⟩ := H
  try dsimp only at H
  have A10 := Aside0.mk A100
  clear A100
  replace H := Option.bind_eq_some_iff.mp H
  obtain ⟨⟨t215, t216⟩, A110, H⟩ := H
  try dsimp only at H
  have A11 := Aside0.mk A110
  clear A110
  replace H := Option.bind_eq_some_iff.mp H
  obtain ⟨⟨t217, t218⟩, A120, H⟩ := H
  try dsimp only at H
  have A12 := Aside0.mk A120
  clear A120
  by_cases c13 : (t207 == t209) = true
  ·
   rw [if_pos c13] at H
   have c13b0 : (t207 == t209) = true := c13
   (try (have c13b1 : decide (t207 = t209) = true := by simpa using c13))
   (try (have c13b2 : (t207 == t209) = true := by simpa using c13))
   clear c13
   by_cases c14 : t208 = t210
   ·
    rw [if_pos c14] at H
    have c14b0 : (t208 == t210) = true := beq_iff_eq.mpr c14
    have c14b1 : (t208 != t210) = false := bne_eq_false_iff_eq.mpr c14
    clear c14
    by_cases c15 : t211.toList = t213.toList
    ·
     rw [if_pos c15] at H
     have c15b0 : (t211.toList == t213.toList) = true := beq_iff_eq.mpr c15
     have c15b1 : (t211.toList != t213.toList) = false := bne_eq_false_iff_eq.mpr c15
     clear c15
     by_cases c16 : t212 = t214
     ·
      rw [if_pos c16] at H
      have c16b0 : (t212 == t214) = true := beq_iff_eq.mpr c16
      have c16b1 : (t212 != t214) = false := bne_eq_false_iff_eq.mpr c16
      clear c16
      by_cases c17 : (t215 == t217) = true
      ·
       rw [if_pos c17] at H
       have c17b0 : (t215 == t217) = true := c17
       (try (have c17b1 : decide (t215 = t217) = true := by simpa using c17))
       (try (have c17b2 : (t215 == t217) = true := by simpa using c17))
       clear c17
       by_cases c18 : t216 = t218
       ·
        rw [if_pos c18] at H
        have c18b0 : (t216 == t218) = true := beq_iff_eq.mpr c18
        have c18b1 : (t216 != t218) = false := bne_eq_false_iff_eq.mpr c18
        clear c18
        replace H := Option.bind_eq_some_iff.mp H
        obtain ⟨t219, A190, H⟩ := H
        try dsimp only at H
        have A19 := Aside0.mk A190
        clear A190
        obtain rfl := Option.some.inj H
        go_enter Try.func8, Try.ntmps8
        go_wp2_with (first | ((with_reducible refine gate_callee (f := 14) rfl ?_); refine goesL_ (some 19) rfl rfl Try.func14 (by kernel_rfl) rfl #[.string a0, .string a1] rfl mapz ?_; (with_reducible refine (dropperlaw09_Long.calls a0 a1 false _ A3.out).mono ?_); rintro e w' ⟨rfl, ⟨nd, rfl⟩⟩; refine ⟨_, rfl, ?_⟩) | ((with_reducible refine gate_callee (f := 29) rfl ?_); refine goesL_ (some 24) rfl rfl Try.func29 (by kernel_rfl) rfl #[.string a0, .string a1] rfl mapz ?_; (with_reducible refine (loop_Same.calls a0 a1 t207 t208 _ A7.out).mono ?_); rintro e w20 ⟨rfl, hb⟩; refine ⟨_, rfl, ?_⟩; replace HB := Aside0.mk (below_step bel hb); clear hb) | ((with_reducible refine gate_callee (f := 37) rfl ?_); refine goesL_ (some 30) rfl rfl Try.func37 (by kernel_rfl) rfl #[.string a0, .string a1] rfl mapz ?_; (with_reducible refine (dropperref09_Same.calls a0 a1 t209 t210 _ A8.out).mono ?_); rintro e w21 ⟨rfl, hb⟩; refine ⟨_, rfl, ?_⟩; replace HB := Aside0.mk (below_step bel hb); clear hb) | ((with_reducible refine gate_callee (f := 30) rfl ?_); refine goesL_ (some 36) rfl rfl Try.func30 (by kernel_rfl) rfl #[.string a0, .string a1] rfl mapz ?_; (with_reducible refine (loop_Differ.calls a0 a1 t211 t212 _ A9.out).mono ?_); rintro e w22 ⟨rfl, hb⟩; refine ⟨_, rfl, ?_⟩; replace HB := Aside0.mk (below_step bel hb); clear hb) | ((with_reducible refine gate_callee (f := 38) rfl ?_); refine goesL_ (some 42) rfl rfl Try.func38 (by kernel_rfl) rfl #[.string a0, .string a1] rfl mapz ?_; (with_reducible refine (dropperref09_Differ.calls a0 a1 t213 t214 _ A10.out).mono ?_); rintro e w23 ⟨rfl, hb⟩; refine ⟨_, rfl, ?_⟩; replace HB := Aside0.mk (below_step bel hb); clear hb) | ((with_reducible refine gate_callee (f := 31) rfl ?_); refine goesL_ (some 48) rfl rfl Try.func31 (by kernel_rfl) rfl #[.string a0, .string a1] rfl mapz ?_; (with_reducible refine (loop_Within.calls a0 a1 t215 t216 _ A11.out).mono ?_); rintro e w24 ⟨rfl, hb⟩; refine ⟨_, rfl, ?_⟩; replace HB := Aside0.mk (below_step bel hb); clear hb) | ((with_reducible refine gate_callee (f := 39) rfl ?_); refine goesL_ (some 54) rfl rfl Try.func39 (by kernel_rfl) rfl #[.string a0, .string a1] rfl mapz ?_; (with_reducible refine (dropperref09_Within.calls a0 a1 t217 t218 _ A12.out).mono ?_); rintro e w25 ⟨rfl, hb⟩; refine ⟨_, rfl, ?_⟩; replace HB := Aside0.mk (below_step bel hb); clear hb) | (go_at_call 15; (with_reducible refine (dropperlaw09_First.calls k  t219 _ A19.out).mono ?_); rintro e w26 ⟨rfl, hb⟩; replace HB := Aside0.mk (below_step bel hb); clear hb))
        go_ret
        exact ⟨ezz, bel⟩
       ·
        rw [if_neg c18] at H
        exact absurd H (by simp)
      ·
       rw [if_neg c17] at H
       exact absurd H (by simp)
     ·
      rw [if_neg c16] at H
      exact absurd H (by simp)
    ·
     rw [if_neg c15] at H
     exact absurd H (by simp)
   ·
    rw [if_neg c14] at H
    exact absurd H (by simp)
  ·
   rw [if_neg c13] at H
   exact absurd H (by simp)

end Go.Proofs.Yteikgnaikeleaaa.XLoop
-- Written by wip/xprint.py of this repo, over the kit's print.py: out of the translation; the oracles in it are by hand. Not trusted: Lean checks it.
namespace Go.Proofs.Yteikgnaikeleaaa.XLoop
open Go.RowKit Go.Proofs.Yteikgnaikeleaaa.XLoop Go.Proofs.YteikgnaikeleaaaW.PrintWords Go.Proofs.YteikgnaikeleaaaW.PrintLast Go.Proofs.YteikgnaikeleaaaW.PrintMore
def dropperlaw09_LoopDiffers.Pure : Prop := ∀ (a0 : ByteArray) (a1 : ByteArray), (a0.size ≤ maxLen) → (a1.size ≤ maxLen) → ∃ k, dropperlaw09_LoopDiffers.f k a0 a1 = some true
end Go.Proofs.Yteikgnaikeleaaa.XLoop

/- Same, within, the least difference: program and reference answer the same. -/
namespace Go.Proofs.Yteikgnaikeleaaa.Pure
set_option linter.unusedVariables false
open Go.RowKit Go.Proofs.Yteikgnaikeleaaa.XLoop Go.Proofs.YteikgnaikeleaaaW.PrintWords Go.Proofs.YteikgnaikeleaaaW.PrintLast Go.Proofs.YteikgnaikeleaaaW.PrintMore

theorem LoopDiffers : dropperlaw09_LoopDiffers.Pure := by
 intro a b _ _
 refine ⟨3, ?_⟩
 unfold dropperlaw09_LoopDiffers.f
 rcases long_ev a b with hl | ⟨hl, h1, h2⟩
 ·
  rw [hl, Option.bind_some, if_pos rfl, first_ev]; rfl
 ·
  rw [hl, Option.bind_some, if_neg (by decide), first_ev]
  unfold loop_Same.f loop_Within.f loop_Differ.f dropperref09_Same.f dropperref09_Within.f dropperref09_Differ.f
  simp only [Option.bind_some, beq_self_eq_true, if_true]
end Go.Proofs.Yteikgnaikeleaaa.Pure

-- Written by wip/xprint.py of this repo, over the kit's print.py: out of the translation; the oracles in it are by hand. Not trusted: Lean checks it.
namespace Go.Proofs.Yteikgnaikeleaaa.loopDiffers
open Go.ChangeShapes Go.WideShapes Go.ChangeAt Go.RowKit Go.Proofs.Yteikgnaikeleaaa.Open Go.Proofs.Yteikgnaikeleaaa.XLoop Go.Proofs.YteikgnaikeleaaaW.PrintWords Go.Proofs.YteikgnaikeleaaaW.PrintLast Go.Proofs.YteikgnaikeleaaaW.PrintMore
open Go.ChangeMaps (open_string shut_string)
set_option linter.unusedVariables false
set_option linter.unusedSimpArgs false
theorem own : ownKnob Try.prog.godebug = none := by kernel_rfl
theorem laidOut : laidOutB Try.prog = true := by kernel_rfl
set_option maxRecDepth 100000 in
theorem lifted (os : Os) (started : os.Started) (H : Type) (enc : TypeId × Value → H) :
  ReturnsInHanded {} Try.checked os 8 .any (Rows.loopDiffersSpec.pre6 enc Try.prog Try.f8 Rows.loopDiffersRow.domain false) (Rows.loopDiffersSpec.post enc Try.prog Try.f8 false true false false) := by
 refine returnsInHanded_of_change_sized (C := Try.checked) own started (by kernel_rfl) Try.func8
  (ChangeSpec.witness6 (enc := enc) (C := Try.checked) false ⟨#[], #[.string ByteArray.empty, .string ByteArray.empty], []⟩ 8 (by kernel_rfl) (by kernel_rfl) (by kernel_rfl) (by kernel_rfl)) ?_
 intro W base args ds gs before hval0 hW hcnd hsz0 _
 have hval : ∀ (j : Nat) t v, Try.f8.params[j]? = some t → args[j]? = some v → Value.okWide Try.prog W .any base t v := hval0
 have hW' := hW
 obtain ⟨p, q, hA0, hV, rfl, hfz, hnd⟩ := hW
 have hA : DataW.TrodAll enc Try.prog W 0 (fun _ => true) true Try.f8.params.toList args.toList ds p := hA0
 rw [Try.params8] at hA hval
 obtain ⟨v0, vs0, d0, ds0, p0, q0, hargs, rfl, rfl, h0, r0⟩ := trodAll_cons hA
 obtain ⟨v1, vs1, d1, ds1, p1, q1, rfl, rfl, rfl, h1, r1⟩ := trodAll_cons r0
 obtain ⟨rfl, rfl, rfl⟩ := trodAll_nil r1
 obtain rfl : args = #[v0, v1] := by cases args; simp_all
 obtain ⟨rfl, rfl⟩ := trodVars_none hV
 obtain ⟨a0, rfl, rfl, rfl, y0⟩ := open_string Try.underlying9 (hval 0 9 v0 rfl rfl) h0
 obtain ⟨a1, rfl, rfl, rfl, y1⟩ := open_string Try.underlying9 (hval 1 9 v1 rfl rfl) h1
 clear hA0 hval0 hsz0
 obtain ⟨k, h⟩ := Pure.LoopDiffers a0 a1 y0 y1
 refine (dropperlaw09_LoopDiffers.calls k a0 a1 true W  h).mono fun e W' ⟨he, bel0⟩ => ?_
 have bel : Below W.heap.size W W' := bel0
 subst he
 exact ⟨_, rfl, _, _, _, [], _, [], hW', trodAll_mk1 (shut_bool Try.underlying4 _), (trodAll_cons_mk (shut_string Try.underlying9 y0) (trodAll_cons_mk (shut_string Try.underlying9 y1) trodAll_mk0)), rfl, bel.frame _, fun h => by cases h⟩
theorem over : Rows.loopDiffersRow.holds Try.pinned (OpenSpec.ofChange Rows.loopDiffersSpec) :=
 OpenClaim.holds_of_wide 8 Try.f8 rfl rfl rfl rfl rfl rfl rfl ⟨rfl, rfl, rfl, rfl, rfl⟩ rfl rfl rfl rfl rfl (by kernel_rfl) Try.func8 (by kernel_rfl)
  (of_decide_eq_true (by kernel_rfl)) (by unfold Func.isWrapper; first | (rw [if_pos (by decide +kernel)]; kernel_rfl) | (rw [if_neg (by decide +kernel)]; exact ⟨rfl, rfl⟩))
  (fun os started H enc _ => lifted os started H enc)
theorem proved : Rows.LoopDiffersSaid := over
#print axioms proved
end Go.Proofs.Yteikgnaikeleaaa.loopDiffers
namespace Go.Proofs.Yteikgnaikeleaaa
theorem loopDiffers_holds : Rows.LoopDiffersSaid := loopDiffers.proved
end Go.Proofs.Yteikgnaikeleaaa
