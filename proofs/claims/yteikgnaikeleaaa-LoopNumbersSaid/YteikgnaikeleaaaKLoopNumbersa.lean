-- Written by wip/pack.py of this repo: texts of this claim, put together.
import Derived.Test.YteikgnaikeleaaaRows
import Derived.WalkKit
import Derived.ProofKit
import Derived.OpenShut
import Derived.ShutString
import Derived.ChangeOld
import Derived.Below
import Derived.SizedLaws
import Derived.Test.YteikgnaikeleaaaKLoope
namespace Go.Proofs.Yteikgnaikeleaaa
open Go.RowKit Go.Proofs.YteikgnaikeleaaaW.PrintWords Go.Proofs.YteikgnaikeleaaaW.PrintLast Go.Proofs.YteikgnaikeleaaaW.PrintMore
set_option linter.unusedVariables false

set_option maxHeartbeats 8000000 in
set_option maxRecDepth 1000000 in
theorem rnumber_calls (s : List UInt8) (k : Int) (w : World) : Calls Try.prog 54 #[.string (tx s), .int .i64 k] w fun e w' => e = .returned (.tuple #[.int .i64 (numberR s k).1, .int .i64 (numberR s k).2]) ∧ Below w.heap.size w w' := by
 have HS := Aside0.mk (rask_e s)
 unfold RAskE at HS
 have hzz := zero50
 unfold numberR
 cases hc : parseL s with
 | none =>
  rw [hc] at HS
  go_enter Try.func54, Try.ntmps54
  go_wp2_with (first | (go_at_call 61; refine (HS.out _).mono ?_; rintro e W1 ⟨v, c, rfl, hb, rfl⟩; have HB1 := Aside0.mk (new_below hb (Nat.le_refl _) v); clear hb) | (refine wpList_store_row rfl 50 (.tmp 6) (.tmp 13) rfl W1.heap.size (tbl v) rfl rfl 50 (tbl fun _ => false) (blk_new _ _) (tbl_info v) (by rw [tbl_size, tbl_size]) (tbl_one v) ?_))
  go_ret2
  exact ⟨rfl, HB1.out⟩
 | some m =>
  rw [hc] at HS
  obtain ⟨f, hf⟩ : ∃ f, f = m.f := ⟨_, rfl⟩
  simp only [← hf] at HS ⊢
  clear hc hf
  by_cases hk : k < 0 ∨ 8 < k
  ·
   simp only [if_pos hk]
   by_cases h0 : k < 0
   ·
    have d0 : decide (k < 0) = true := decide_eq_true h0
    clear hk h0
    go_enter Try.func54, Try.ntmps54
    go_wp2_with (first | (go_at_call 61; refine (HS.out _).mono ?_; rintro e W1 ⟨v, c, rfl, hb, rfl, rfl⟩; have HB1 := Aside0.mk (new_below hb (Nat.le_refl _) v); clear hb) | (refine wpList_store_row rfl 50 (.tmp 6) (.tmp 13) rfl W1.heap.size (tbl v) rfl rfl 50 (tbl fun _ => false) (blk_new _ _) (tbl_info v) (by rw [tbl_size, tbl_size]) (tbl_one v) ?_))
    go_ret2
    exact ⟨rfl, HB1.out⟩
   ·
    have d0 : decide (k < 0) = false := decide_eq_false h0
    have d1 : decide (8 < k) = true := decide_eq_true (by omega)
    clear hk h0
    go_enter Try.func54, Try.ntmps54
    go_wp2_with (first | (go_at_call 61; refine (HS.out _).mono ?_; rintro e W1 ⟨v, c, rfl, hb, rfl, rfl⟩; have HB1 := Aside0.mk (new_below hb (Nat.le_refl _) v); clear hb) | (refine wpList_store_row rfl 50 (.tmp 6) (.tmp 13) rfl W1.heap.size (tbl v) rfl rfl 50 (tbl fun _ => false) (blk_new _ _) (tbl_info v) (by rw [tbl_size, tbl_size]) (tbl_one v) ?_))
    go_ret2
    exact ⟨rfl, HB1.out⟩
  ·
   simp only [if_neg hk]
   have d0 : decide (k < 0) = false := decide_eq_false (by omega)
   have d1 : decide (8 < k) = false := decide_eq_false (by omega)
   clear hk
   go_enter Try.func54, Try.ntmps54
   go_wp2_with (first | (go_at_call 61; refine (HS.out _).mono ?_; rintro e W1 ⟨v, c, rfl, hb, rfl, rfl⟩; have HB0 := Aside0.mk (new_below hb (Nat.le_refl _) v); have HH0 := Aside0.mk (new_row W1 v); clear hb) | (refine wpList_store_row rfl 50 (.tmp 6) (.tmp 13) rfl W1.heap.size (tbl v) rfl rfl 50 (tbl fun _ => false) (blk_new _ _) (tbl_info v) (by rw [tbl_size, tbl_size]) (tbl_one v) ?_))
   go_loopg [9, 8] 257 (fun kq v9 v8 W => ∃ x : Nat, v9 = .int .i64 x ∧ v8 = .int .i64 (countTo v k x) ∧ Aside0 (x + kq = 257) ∧ Aside0 (x ≤ 256) ∧ Aside0 (W.heap[W1.heap.size]? = some (.cells (tbl v) 50 (0, 0))) ∧ Aside0 (Below w.heap.size w W))
   case atStart => exact ⟨0, rfl, rfl, ⟨rfl⟩, ⟨by decide⟩, HH0, HB0⟩
   case round =>
    clear HH0 HB0 HS hzz
    obtain ⟨x, rfl, rfl, HK, HX, HH, HB⟩ := hrel
    by_cases hx : x < 256
    ·
     have h1 : decide ((x : Int) < 256) = true := decide_eq_true (by omega)
     have h0 : (0 : Int) ≤ (x : Int) ∧ (x : Int) < 256 := by omega
     have c1 := tbl_cell HH.out x hx
     have HX1 : Aside0 (x < 256) := ⟨hx⟩
     have hnx := next_nat x hx
     have hle := countTo_le v k x
     have hnc : wrap64 ((countTo v k x : Int) + 1) = ((countTo v k x + 1 : Nat) : Int) := next_nat _ (by omega)
     have HO := Aside0.mk (rsize_calls x hx)
     have HS := Aside0.mk (countTo_succ v k x)
     clear hx hle
     by_cases hb : v x = true
     ·
      rw [hb] at c1
      by_cases hb2 : (sizeN x : Int) = k
      ·
       have e2 : ((sizeN x : Int) == k) = true := by simpa using hb2
       have HS2 : Aside0 (countTo v k (x + 1) = countTo v k x + 1) := ⟨by rw [HS.out, hb, hb2]; simp⟩
       clear hb2
       go_wp2_with (go_at_call 84; refine (HO.out _).mono ?_; rintro e W2 ⟨rfl, m2, rfl⟩)
       go_roundg (256 - x)
       case measure => have := HK.out; have := HX1.out; omega
       case rel => exact ⟨x + 1, by first | rfl | rw [hnx], by rw [HS2.out]; first | rfl | rw [hnc], ⟨by have := HX1.out; have := HK.out; omega⟩, ⟨HX1.out⟩, ⟨tbl_drewN HH.out _⟩, ⟨below_dn HB.out _⟩⟩
      ·
       have e2 : ((sizeN x : Int) == k) = false := by simpa using hb2
       have HS2 : Aside0 (countTo v k (x + 1) = countTo v k x) := ⟨by rw [HS.out, hb, decide_eq_false hb2]; simp⟩
       clear hb2
       go_wp2_with (go_at_call 84; refine (HO.out _).mono ?_; rintro e W2 ⟨rfl, m2, rfl⟩)
       go_roundg (256 - x)
       case measure => have := HK.out; have := HX1.out; omega
       case rel => exact ⟨x + 1, by first | rfl | rw [hnx], by rw [HS2.out], ⟨by have := HX1.out; have := HK.out; omega⟩, ⟨HX1.out⟩, ⟨tbl_drewN HH.out _⟩, ⟨below_dn HB.out _⟩⟩
     ·
      rw [Bool.eq_false_iff.mpr hb] at c1
      have HS2 : Aside0 (countTo v k (x + 1) = countTo v k x) := ⟨by rw [HS.out, Bool.eq_false_iff.mpr hb]; simp⟩
      go_wp2
      go_roundg (256 - x)
      case measure => have := HK.out; have := HX1.out; omega
      case rel => exact ⟨x + 1, by first | rfl | rw [hnx], by rw [HS2.out], ⟨by have := HX1.out; have := HK.out; omega⟩, ⟨HX1.out⟩, HH, HB⟩
    ·
     have h1 : decide ((x : Int) < 256) = false := decide_eq_false (by omega)
     have hx6 : x = 256 := by have := HX.out; omega
     subst hx6
     go_wp2
     go_ret2
     exact ⟨rfl, HB.out⟩
end Go.Proofs.Yteikgnaikeleaaa

namespace Go.Proofs.Yteikgnaikeleaaa.XLoop
open Go.RowKit Go.Proofs.YteikgnaikeleaaaW.PrintWords Go.Proofs.YteikgnaikeleaaaW.PrintLast Go.Proofs.YteikgnaikeleaaaW.PrintMore
attribute [local go_sem] max2_int min2_int max_two min_two max_three min_three max_four min_four   -- for this text's walks alone
set_option linter.unusedVariables false
set_option linter.unusedSimpArgs false
/-! ### dropperref09_Number: function 54 -/
def dropperref09_Number.f (a0 : ByteArray) (a1 : Int) : Option (Int × Int) := some ((numberR a0.data.toList a1).1, (numberR a0.data.toList a1).2)
theorem dropperref09_Number.calls (a0 : ByteArray) (a1 : Int) (r1 : Int) (r2 : Int) (w : World) (h : dropperref09_Number.f a0 a1 = some (r1, r2)) :
  Calls Try.prog 54 #[.string a0, .int .i64 a1] w fun e w' => e = .returned (.tuple #[.int .i64 r1, .int .i64 r2]) ∧ Below w.heap.size w w' := by
 obtain ⟨rfl, rfl⟩ := Prod.mk.inj (Option.some.inj h)
 have hc := rnumber_calls a0.data.toList a1 w
 simp only [tx_data] at hc
 exact hc

end Go.Proofs.Yteikgnaikeleaaa.XLoop
namespace Go.Proofs.Yteikgnaikeleaaa
open Go.RowKit Go.Proofs.YteikgnaikeleaaaW.PrintWords Go.Proofs.YteikgnaikeleaaaW.PrintLast Go.Proofs.YteikgnaikeleaaaW.PrintMore
set_option linter.unusedVariables false

set_option maxHeartbeats 8000000 in
set_option maxRecDepth 1000000 in
theorem rneeds_calls (s : List UInt8) (w : World) : Calls Try.prog 55 #[.string (tx s)] w fun e w' => e = .returned (.tuple #[.string (tx (needsR s).1), .int .i64 (needsR s).2]) ∧ Below w.heap.size w w' := by
 have HS := Aside0.mk (rask_e s)
 unfold RAskE at HS
 have hzz := zero50
 unfold needsR
 cases hc : parseL s with
 | none =>
  rw [hc] at HS
  go_enter Try.func55, Try.ntmps55
  go_wp2_with (first | (go_at_call 61; refine (HS.out _).mono ?_; rintro e W1 ⟨v, c, rfl, hb, rfl⟩; have HB1 := Aside0.mk (new_below hb (Nat.le_refl _) v); clear hb) | (refine wpList_store_row rfl 50 (.tmp 4) (.tmp 11) rfl W1.heap.size (tbl v) rfl rfl 50 (tbl fun _ => false) (blk_new _ _) (tbl_info v) (by rw [tbl_size, tbl_size]) (tbl_one v) ?_))
  go_ret2
  exact ⟨rfl, HB1.out⟩
 | some m =>
  rw [hc] at HS
  have hna := needTo_all (parseL_good hc)
  obtain ⟨f, hf⟩ : ∃ f, f = m.f := ⟨_, rfl⟩
  simp only [← hf] at HS hna ⊢
  rw [← hna]
  have HT := Aside0.mk (rtext_calls (needTo f 8) (needTo_lt f 8 (by decide)))
  clear hc hf hna
  go_enter Try.func55, Try.ntmps55
  go_wp2_with (first | (go_at_call 61; refine (HS.out _).mono ?_; rintro e W1 ⟨v, c, rfl, hb, rfl, rfl⟩; have HB1 := Aside0.mk (new_below hb (Nat.le_refl _) v); have HH := Aside0.mk (new_row W1 v); clear hb) | (refine wpList_store_row rfl 50 (.tmp 4) (.tmp 11) rfl W1.heap.size (tbl v) rfl rfl 50 (tbl fun _ => false) (blk_new _ _) (tbl_info v) (by rw [tbl_size, tbl_size]) (tbl_one v) ?_))
  obtain ⟨W0, hW0⟩ : ∃ W0, W0 = (W1.alloc (.cells (tbl fun _ => false) 50)).setRow W1.heap.size (tbl v) := ⟨_, rfl⟩
  rw [← hW0] at HB1 HH ⊢
  clear hW0
  go_loopg [7, 6] 9 (fun kq v7 v6 W => ∃ (x : Nat), v7 = .int .i64 x ∧ v6 = .int .i64 (needTo v x : Nat) ∧ Aside0 (x + kq = 9) ∧ Aside0 (x ≤ 8) ∧ W = W0)
  case atStart => exact ⟨0, rfl, rfl, ⟨rfl⟩, ⟨by decide⟩, rfl⟩
  case round =>
   obtain ⟨i, rfl, rfl, HQ, HI, rfl⟩ := hrel
   by_cases hi : i < 8
   ·
    have g1 : decide ((i : Int) < 8) = true := decide_eq_true (by omega)
    have hni : wrap64 ((i : Int) + 1) = ((i + 1 : Nat) : Int) := by unfold wrap64; omega
    have g0 : (0 : Int) ≤ (i : Int) := by omega
    have gm : min i 64 = i := by omega
    have HI1 := Aside0.mk hi
    have gl := less_int 255 i (by decide) hi (bit_255 i hi)
    rw [show ((255 : Nat) : Int) = 255 from rfl] at gl
    have c2 := tbl_cell HH.out (255 - 2 ^ i) (Nat.lt_of_le_of_lt (Nat.sub_le _ _) (by decide))
    have g2 : (0 : Int) ≤ ((255 - 2 ^ i : Nat) : Int) ∧ ((255 - 2 ^ i : Nat) : Int) < 256 := ⟨Int.natCast_nonneg _, Int.ofNat_lt.2 (Nat.lt_of_le_of_lt (Nat.sub_le _ _) (by decide))⟩
    have hor := or_bits (needTo_lt v i (by omega)) hi
    have HS2 : Aside0 (needTo v (i + 1) = if v (255 - 2 ^ i) then needTo v i else needTo v i ||| 2 ^ i) := ⟨rfl⟩
    cases hf : v (255 - 2 ^ i) with
    | false =>
     rw [hf] at c2 HS2
     clear hi hf
     go_wp2
     go_roundg (8 - i)
     case measure => have := HQ.out; have := HI1.out; omega
     case rel => exact ⟨i + 1, by first | rfl | rw [hni], by rw [HS2.out]; first | rfl | rw [hor]; rfl, ⟨by have := HI1.out; have := HQ.out; omega⟩, ⟨HI1.out⟩, rfl⟩
    | true =>
     rw [hf] at c2 HS2
     clear hi hf
     go_wp2
     go_roundg (8 - i)
     case measure => have := HQ.out; have := HI1.out; omega
     case rel => exact ⟨i + 1, by first | rfl | rw [hni], by rw [HS2.out]; rfl, ⟨by have := HI1.out; have := HQ.out; omega⟩, ⟨HI1.out⟩, rfl⟩
   ·
    have g1 : decide ((i : Int) < 8) = false := decide_eq_false (by omega)
    have hi8 : i = 8 := by have := HI.out; omega
    subst hi8
    go_wp2_with (go_at_call 78; refine (HT.out _).mono ?_; rintro e W4 ⟨rfl, m4, rfl⟩)
    go_ret2
    exact ⟨rfl, below_dn HB1.out _⟩
end Go.Proofs.Yteikgnaikeleaaa

namespace Go.Proofs.Yteikgnaikeleaaa.XLoop
open Go.RowKit Go.Proofs.YteikgnaikeleaaaW.PrintWords Go.Proofs.YteikgnaikeleaaaW.PrintLast Go.Proofs.YteikgnaikeleaaaW.PrintMore
attribute [local go_sem] max2_int min2_int max_two min_two max_three min_three max_four min_four   -- for this text's walks alone
set_option linter.unusedVariables false
set_option linter.unusedSimpArgs false
/-! ### dropperref09_Needs: function 55 -/
def dropperref09_Needs.f (a0 : ByteArray) : Option (ByteArray × Int) := some (tx (needsR a0.data.toList).1, (needsR a0.data.toList).2)
theorem dropperref09_Needs.calls (a0 : ByteArray) (r1 : ByteArray) (r2 : Int) (w : World) (h : dropperref09_Needs.f a0 = some (r1, r2)) :
  Calls Try.prog 55 #[.string a0] w fun e w' => e = .returned (.tuple #[.string r1, .int .i64 r2]) ∧ Below w.heap.size w w' := by
 obtain ⟨rfl, rfl⟩ := Prod.mk.inj (Option.some.inj h)
 have hc := rneeds_calls a0.data.toList w
 simp only [tx_data] at hc
 exact hc

/-! ### dropperref09_Idle: function 56 -/
def dropperref09_Idle.f (a0 : ByteArray) : Option (ByteArray × Int) := some (tx (idleR a0.data.toList).1, (idleR a0.data.toList).2)
theorem dropperref09_Idle.calls (a0 : ByteArray) (r1 : ByteArray) (r2 : Int) (w : World) (h : dropperref09_Idle.f a0 = some (r1, r2)) :
  Calls Try.prog 56 #[.string a0] w fun e w' => e = .returned (.tuple #[.string r1, .int .i64 r2]) ∧ Below w.heap.size w w' := by
 obtain ⟨rfl, rfl⟩ := Prod.mk.inj (Option.some.inj h)
 have hc := ridle_calls a0.data.toList w
 simp only [tx_data] at hc
 exact hc

/-! ### dropperlaw09_LoopNumbers: function 13 -/
def dropperlaw09_LoopNumbers.f (k : Nat) (a0 : ByteArray) (a1 : Int) : Option (Bool) := (dropperlaw09_Long.f a0 (⟨#[]⟩ : ByteArray)).bind fun t280 => (if t280 = true then ((dropperlaw09_First.f k).bind fun t281 => (some t281)) else ((loop_Number.f a0 a1).bind fun bt282 => ((dropperref09_Number.f a0 a1).bind fun bt284 => ((loop_Needs.f a0).bind fun bt286 => ((dropperref09_Needs.f a0).bind fun bt288 => ((loop_Idle.f a0).bind fun bt290 => ((dropperref09_Idle.f a0).bind fun bt292 => (if bt282.1 = bt284.1 then (if bt282.2 = bt284.2 then (if bt286.1.toList = bt288.1.toList then (if bt286.2 = bt288.2 then (if bt290.1.toList = bt292.1.toList then (if bt290.2 = bt292.2 then ((dropperlaw09_First.f k).bind fun t294 => (some t294)) else (none)) else (none)) else (none)) else (none)) else (none)) else (none)))))))))
set_option maxHeartbeats 8000000 in
set_option maxRecDepth 100000 in
theorem dropperlaw09_LoopNumbers.calls (k : Nat) (a0 : ByteArray) (a1 : Int) (r : Bool) (w : World) (h : dropperlaw09_LoopNumbers.f k a0 a1 = some r) :
  Calls Try.prog 13 #[.string a0, .int .i64 a1] w fun e w' => e = .returned (.bool r) ∧ Below w.heap.size w w' := by
 have HB := Aside0.mk (Below.refl w.heap.size w)
 have H : ((dropperlaw09_Long.f a0 (⟨#[]⟩ : ByteArray)).bind fun t280 => (if t280 = true then ((dropperlaw09_First.f k).bind fun t281 => (some t281)) else ((loop_Number.f a0 a1).bind fun bt282 => ((dropperref09_Number.f a0 a1).bind fun bt284 => ((loop_Needs.f a0).bind fun bt286 => ((dropperref09_Needs.f a0).bind fun bt288 => ((loop_Idle.f a0).bind fun bt290 => ((dropperref09_Idle.f a0).bind fun bt292 => (if bt282.1 = bt284.1 then (if bt282.2 = bt284.2 then (if bt286.1.toList = bt288.1.toList then (if bt286.2 = bt288.2 then (if bt290.1.toList = bt292.1.toList then (if bt290.2 = bt292.2 then ((dropperlaw09_First.f k).bind fun t294 => (some t294)) else (none)) else (none)) else (none)) else (none)) else (none)) else (none)))))))))) = some r := h
 clear h
 replace H := Option.bind_eq_some_iff.mp H
 obtain ⟨t280, A30, H⟩ := H
 try dsimp only at H
 have A3 := Aside0.mk A30
 clear A30
 by_cases c4 : t280 = true
 ·
  subst c4
  rw [if_pos rfl] at H
  replace H := Option.bind_eq_some_iff.mp H
  obtain ⟨t281, A50, H⟩ := H
  try dsimp only at H
  have A5 := Aside0.mk A50
  clear A50
  obtain rfl := Option.some.inj H
  go_enter Try.func13, Try.ntmps13
  go_wp2_with (first | ((with_reducible refine gate_callee (f := 14) rfl ?_); refine goesL_ (some 18) rfl rfl Try.func14 (by kernel_rfl) rfl #[.string a0, .string (⟨#[]⟩ : ByteArray)] rfl mapz ?_; (with_reducible refine (dropperlaw09_Long.calls a0 (⟨#[]⟩ : ByteArray) true _ A3.out).mono ?_); rintro e w' ⟨rfl, ⟨nd, rfl⟩⟩; refine ⟨_, rfl, ?_⟩) | ((with_reducible refine gate_callee (f := 15) rfl ?_); refine goesL_ (some 19) rfl rfl Try.func15 (by kernel_rfl) rfl #[] rfl mapz ?_; (with_reducible refine (dropperlaw09_First.calls k  t281 _ A5.out).mono ?_); rintro e w6 ⟨rfl, hb⟩; refine ⟨_, rfl, ?_⟩; replace HB := Aside0.mk (below_step bel hb); clear hb))
  go_ret
  exact ⟨ezz, bel⟩
 ·
  replace c4 := Bool.eq_false_iff.mpr c4
  subst c4
  rw [if_neg (show ¬ (false = true) by decide)] at H
  replace H := Option.bind_eq_some_iff.mp H
  obtain ⟨⟨t282, t283⟩, A70, H⟩ := H
  try dsimp only at H
  have A7 := Aside0.mk A70
  clear A70
  replace H := Option.bind_eq_some_iff.mp H
  obtain ⟨⟨t284, t285⟩, A80, H⟩ := H
  try dsimp only at H
  have A8 := Aside0.mk A80
  clear A80
  replace H := Option.bind_eq_some_iff.mp H
  obtain ⟨⟨t286, t287⟩, A90, H⟩ := H
  try dsimp only at H
  have A9 := Aside0.mk A90
  clear A90
  replace H := Option.bind_eq_some_iff.mp H
  obtain ⟨⟨t288, t289⟩, A100, H⟩ := H
  try dsimp only at H
  have A10 := Aside0.mk A100
  clear A100
  replace H := Option.bind_eq_some_iff.mp H
  obtain ⟨⟨t290, t291⟩, A110, H⟩ := H
  try dsimp only at H
  have A11 := Aside0.mk A110
  clear A110
  replace H := Option.bind_eq_some_iff.mp H
  obtain ⟨⟨t292, t293⟩, A120, H⟩ := H
  try dsimp only at H
  have A12 := Aside0.mk A120
  clear A120
  by_cases c13 : t282 = t284
  ·
   rw [if_pos c13] at H
   have c13b0 : (t282 == t284) = true := beq_iff_eq.mpr c13
   have c13b1 : (t282 != t284) = false := bne_eq_false_iff_eq.mpr c13
   clear c13
   by_cases c14 : t283 = t285
   ·
    rw [if_pos c14] at H
    have c14b0 : (t283 == t285) = true := beq_iff_eq.mpr c14
    have c14b1 : (t283 != t285) = false := bne_eq_false_iff_eq.mpr c14
    clear c14
    by_cases c15 : t286.toList = t288.toList
    ·
     rw [if_pos c15] at H
     have c15b0 : (t286.toList == t288.toList) = true := beq_iff_eq.mpr c15
     have c15b1 : (t286.toList != t288.toList) = false := bne_eq_false_iff_eq.mpr c15
     clear c15
     by_cases c16 : t287 = t289
     ·
      rw [if_pos c16] at H
      have c16b0 : (t287 == t289) = true := beq_iff_eq.mpr c16
      have c16b1 : (t287 != t289) = false := bne_eq_false_iff_eq.mpr c16
      clear c16
      by_cases c17 : t290.toList = t292.toList
      ·
       rw [if_pos c17] at H
       have c17b0 : (t290.toList == t292.toList) = true := beq_iff_eq.mpr c17
       have c17b1 : (t290.toList != t292.toList) = false := bne_eq_false_iff_eq.mpr c17
       clear c17
       by_cases c18 : t291 = t293
       ·
        rw [if_pos c18] at H
        have c18b0 : (t291 == t293) = true := beq_iff_eq.mpr c18
        have c18b1 : (t291 != t293) = false := bne_eq_false_iff_eq.mpr c18
        clear c18
        replace H := Option.bind_eq_some_iff.mp H
        obtain ⟨t294, A190, H⟩ := H
        try dsimp only at H
        have A19 := Aside0.mk A190
        clear A190
        obtain rfl := Option.some.inj H
        go_enter Try.func13, Try.ntmps13
        go_wp2_with (first | ((with_reducible refine gate_callee (f := 14) rfl ?_); refine goesL_ (some 18) rfl rfl Try.func14 (by kernel_rfl) rfl #[.string a0, .string (⟨#[]⟩ : ByteArray)] rfl mapz ?_; (with_reducible refine (dropperlaw09_Long.calls a0 (⟨#[]⟩ : ByteArray) false _ A3.out).mono ?_); rintro e w' ⟨rfl, ⟨nd, rfl⟩⟩; refine ⟨_, rfl, ?_⟩) | ((with_reducible refine gate_callee (f := 32) rfl ?_); refine goesL_ (some 23) rfl rfl Try.func32 (by kernel_rfl) rfl #[.string a0, .int .i64 a1] rfl mapz ?_; (with_reducible refine (loop_Number.calls a0 a1 t282 t283 _ A7.out).mono ?_); rintro e w20 ⟨rfl, hb⟩; refine ⟨_, rfl, ?_⟩; replace HB := Aside0.mk (below_step bel hb); clear hb) | ((with_reducible refine gate_callee (f := 54) rfl ?_); refine goesL_ (some 29) rfl rfl Try.func54 (by kernel_rfl) rfl #[.string a0, .int .i64 a1] rfl mapz ?_; (with_reducible refine (dropperref09_Number.calls a0 a1 t284 t285 _ A8.out).mono ?_); rintro e w21 ⟨rfl, hb⟩; refine ⟨_, rfl, ?_⟩; replace HB := Aside0.mk (below_step bel hb); clear hb) | ((with_reducible refine gate_callee (f := 52) rfl ?_); refine goesL_ (some 34) rfl rfl Try.func52 (by kernel_rfl) rfl #[.string a0] rfl mapz ?_; (with_reducible refine (loop_Needs.calls a0 t286 t287 _ A9.out).mono ?_); rintro e w22 ⟨rfl, hb⟩; refine ⟨_, rfl, ?_⟩; replace HB := Aside0.mk (below_step bel hb); clear hb) | ((with_reducible refine gate_callee (f := 55) rfl ?_); refine goesL_ (some 39) rfl rfl Try.func55 (by kernel_rfl) rfl #[.string a0] rfl mapz ?_; (with_reducible refine (dropperref09_Needs.calls a0 t288 t289 _ A10.out).mono ?_); rintro e w23 ⟨rfl, hb⟩; refine ⟨_, rfl, ?_⟩; replace HB := Aside0.mk (below_step bel hb); clear hb) | ((with_reducible refine gate_callee (f := 51) rfl ?_); refine goesL_ (some 44) rfl rfl Try.func51 (by kernel_rfl) rfl #[.string a0] rfl mapz ?_; (with_reducible refine (loop_Idle.calls a0 t290 t291 _ A11.out).mono ?_); rintro e w24 ⟨rfl, hb⟩; refine ⟨_, rfl, ?_⟩; replace HB := Aside0.mk (below_step bel hb); clear hb) | ((with_reducible refine gate_callee (f := 56) rfl ?_); refine goesL_ (some 49) rfl rfl Try.func56 (by kernel_rfl) rfl #[.string a0] rfl mapz ?_; (with_reducible refine (dropperref09_Idle.calls a0 t292 t293 _ A12.out).mono ?_); rintro e w25 ⟨rfl, hb⟩; refine ⟨_, rfl, ?_⟩; replace HB := Aside0.mk (below_step bel hb); clear hb) | (go_at_call 15; (with_reducible refine (dropperlaw09_First.calls k  t294 _ A19.out).mono ?_); rintro e w26 ⟨rfl, hb⟩; replace HB := Aside0.mk (below_step bel hb); clear hb))
        go_ret
        exact ⟨ezz, bel⟩
       ·
        rw [if_neg c18] at H
        exact absurd H (by simp)
      ·
       rw [if_neg c17] at H
       exact absurd H (by simp)
     ·
      rw [if_neg c16] at H
      exact absurd H (by simp)
    ·
     rw [if_neg c15] at H
     exact absurd H (by simp)
   ·
    rw [if_neg c14] at H
    exact absurd H (by simp)
  ·
   rw [if_neg c13] at H
   exact absurd H (by simp)

end Go.Proofs.Yteikgnaikeleaaa.XLoop
-- Written by wip/xprint.py of this repo, over the kit's print.py: out of the translation; the oracles in it are by hand. Not trusted: Lean checks it.
namespace Go.Proofs.Yteikgnaikeleaaa.XLoop
open Go.RowKit Go.Proofs.Yteikgnaikeleaaa.XLoop Go.Proofs.YteikgnaikeleaaaW.PrintWords Go.Proofs.YteikgnaikeleaaaW.PrintLast Go.Proofs.YteikgnaikeleaaaW.PrintMore
def dropperlaw09_LoopNumbers.Pure : Prop := ∀ (a0 : ByteArray) (a1 : Int), (a0.size ≤ maxLen) → ((Lit.int .i64 a1).wf = true) → ∃ k, dropperlaw09_LoopNumbers.f k a0 a1 = some true
end Go.Proofs.Yteikgnaikeleaaa.XLoop

/- With how many sets a circuit conducts, needed and idle letters: program and reference answer the same. -/
namespace Go.Proofs.Yteikgnaikeleaaa.Pure
set_option linter.unusedVariables false
open Go.RowKit Go.Proofs.Yteikgnaikeleaaa.XLoop Go.Proofs.YteikgnaikeleaaaW.PrintWords Go.Proofs.YteikgnaikeleaaaW.PrintLast Go.Proofs.YteikgnaikeleaaaW.PrintMore

theorem LoopNumbers : dropperlaw09_LoopNumbers.Pure := by
 intro a b _ _
 refine ⟨300, ?_⟩
 have hF : dropperlaw09_First.f 300 = some true := first_evk 297
 unfold dropperlaw09_LoopNumbers.f
 rcases long_ev a ⟨#[]⟩ with hl | ⟨hl, h1, h2⟩
 ·
  rw [hl, Option.bind_some, if_pos rfl, hF]; rfl
 ·
  rw [hl, Option.bind_some, if_neg (by decide), hF]
  unfold loop_Number.f loop_Needs.f loop_Idle.f dropperref09_Number.f dropperref09_Needs.f dropperref09_Idle.f
  simp only [Option.bind_some, beq_self_eq_true, if_true]
end Go.Proofs.Yteikgnaikeleaaa.Pure

-- Written by wip/xprint.py of this repo, over the kit's print.py: out of the translation; the oracles in it are by hand. Not trusted: Lean checks it.
namespace Go.Proofs.Yteikgnaikeleaaa.loopNumbers
open Go.ChangeShapes Go.WideShapes Go.ChangeAt Go.RowKit Go.Proofs.Yteikgnaikeleaaa.Open Go.Proofs.Yteikgnaikeleaaa.XLoop Go.Proofs.YteikgnaikeleaaaW.PrintWords Go.Proofs.YteikgnaikeleaaaW.PrintLast Go.Proofs.YteikgnaikeleaaaW.PrintMore
open Go.ChangeMaps (open_string shut_string)
set_option linter.unusedVariables false
set_option linter.unusedSimpArgs false
theorem own : ownKnob Try.prog.godebug = none := by kernel_rfl
theorem laidOut : laidOutB Try.prog = true := by kernel_rfl
set_option maxRecDepth 100000 in
theorem lifted (os : Os) (started : os.Started) (H : Type) (enc : TypeId × Value → H) :
  ReturnsInHanded {} Try.checked os 13 .any (Rows.loopNumbersSpec.pre6 enc Try.prog Try.f13 Rows.loopNumbersRow.domain false) (Rows.loopNumbersSpec.post enc Try.prog Try.f13 false true false false) := by
 refine returnsInHanded_of_change_sized (C := Try.checked) own started (by kernel_rfl) Try.func13
  (ChangeSpec.witness6 (enc := enc) (C := Try.checked) false ⟨#[], #[.string ByteArray.empty, .int .i64 0], []⟩ 8 (by kernel_rfl) (by kernel_rfl) (by kernel_rfl) (by kernel_rfl)) ?_
 intro W base args ds gs before hval0 hW hcnd hsz0 _
 have hval : ∀ (j : Nat) t v, Try.f13.params[j]? = some t → args[j]? = some v → Value.okWide Try.prog W .any base t v := hval0
 have hW' := hW
 obtain ⟨p, q, hA0, hV, rfl, hfz, hnd⟩ := hW
 have hA : DataW.TrodAll enc Try.prog W 0 (fun _ => true) true Try.f13.params.toList args.toList ds p := hA0
 rw [Try.params13] at hA hval
 obtain ⟨v0, vs0, d0, ds0, p0, q0, hargs, rfl, rfl, h0, r0⟩ := trodAll_cons hA
 obtain ⟨v1, vs1, d1, ds1, p1, q1, rfl, rfl, rfl, h1, r1⟩ := trodAll_cons r0
 obtain ⟨rfl, rfl, rfl⟩ := trodAll_nil r1
 obtain rfl : args = #[v0, v1] := by cases args; simp_all
 obtain ⟨rfl, rfl⟩ := trodVars_none hV
 obtain ⟨a0, rfl, rfl, rfl, y0⟩ := open_string Try.underlying9 (hval 0 9 v0 rfl rfl) h0
 obtain ⟨a1, rfl, rfl, rfl, w1⟩ := open_int Try.underlying3 (hval 1 3 v1 rfl rfl) h1
 clear hA0 hval0 hsz0
 obtain ⟨k, h⟩ := Pure.LoopNumbers a0 a1 y0 w1
 refine (dropperlaw09_LoopNumbers.calls k a0 a1 true W  h).mono fun e W' ⟨he, bel0⟩ => ?_
 have bel : Below W.heap.size W W' := bel0
 subst he
 exact ⟨_, rfl, _, _, _, [], _, [], hW', trodAll_mk1 (shut_bool Try.underlying4 _), (trodAll_cons_mk (shut_string Try.underlying9 y0) (trodAll_cons_mk (shut_int Try.underlying3 w1) trodAll_mk0)), rfl, bel.frame _, fun h => by cases h⟩
theorem over : Rows.loopNumbersRow.holds Try.pinned (OpenSpec.ofChange Rows.loopNumbersSpec) :=
 OpenClaim.holds_of_wide 13 Try.f13 rfl rfl rfl rfl rfl rfl rfl ⟨rfl, rfl, rfl, rfl, rfl⟩ rfl rfl rfl rfl rfl (by kernel_rfl) Try.func13 (by kernel_rfl)
  (of_decide_eq_true (by kernel_rfl)) (by unfold Func.isWrapper; first | (rw [if_pos (by decide +kernel)]; kernel_rfl) | (rw [if_neg (by decide +kernel)]; exact ⟨rfl, rfl⟩))
  (fun os started H enc _ => lifted os started H enc)
theorem proved : Rows.LoopNumbersSaid := over
#print axioms proved
end Go.Proofs.Yteikgnaikeleaaa.loopNumbers
namespace Go.Proofs.Yteikgnaikeleaaa
theorem loopNumbers_holds : Rows.LoopNumbersSaid := loopNumbers.proved
end Go.Proofs.Yteikgnaikeleaaa
