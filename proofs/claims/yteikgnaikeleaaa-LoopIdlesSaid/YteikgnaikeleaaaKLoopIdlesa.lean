-- Written by wip/pack.py of this repo: texts of this claim, put together.
import Derived.Test.YteikgnaikeleaaaRows
import Derived.WalkKit
import Derived.ProofKit
import Derived.OpenShut
import Derived.ShutString
import Derived.ChangeOld
import Derived.Below
import Derived.SizedLaws
import Derived.Test.YteikgnaikeleaaaKLoope
namespace Go.Proofs.Yteikgnaikeleaaa.XLoop
open Go.RowKit Go.Proofs.YteikgnaikeleaaaW.PrintWords Go.Proofs.YteikgnaikeleaaaW.PrintLast Go.Proofs.YteikgnaikeleaaaW.PrintMore
attribute [local go_sem] max2_int min2_int max_two min_two max_three min_three max_four min_four   -- for this text's walks alone
set_option linter.unusedVariables false
set_option linter.unusedSimpArgs false
/-! ### dropperlaw09_without: function 53 -/
def dropperlaw09_without.l0 : Nat → ByteArray → Int → ByteArray → Int → Option (ByteArray)
 | 0, _, _, _, _ => none
 | k + 1, x0, x1, x5, x6 => if x6 < (x0.size : Int) then (if 0 ≤ x6 then (if (bt x0 x6) = x1 then (dropperlaw09_without.l0 k x0 x1 x5 (wrap64 (x6 + 1))) else (if x6 ≤ (wrap64 (x6 + 1)) then (if (wrap64 (x6 + 1)) ≤ (x0.size : Int) then (if x5.size + (x0.extract (x6 : Int).toNat ((wrap64 (x6 + 1)) : Int).toNat).size ≤ 9223372036854775807 then (dropperlaw09_without.l0 k x0 x1 (x5 ++ (x0.extract (x6 : Int).toNat ((wrap64 (x6 + 1)) : Int).toNat)) (wrap64 (x6 + 1))) else (none)) else (none)) else (none))) else (none)) else (some x5)
def dropperlaw09_without.f (k : Nat) (a0 : ByteArray) (a1 : Int) : Option (ByteArray) := dropperlaw09_without.l0 k a0 a1 (⟨#[]⟩ : ByteArray) 0
set_option maxHeartbeats 8000000 in
set_option maxRecDepth 100000 in
theorem dropperlaw09_without.calls (k : Nat) (a0 : ByteArray) (a1 : Int) (r : ByteArray) (w : World) (h : dropperlaw09_without.f k a0 a1 = some r) :
  Calls Try.prog 53 #[.string a0, .int .u8 a1] w fun e w' => e = .returned (.string r) ∧ Drawn0 w w' := by
 have H : (dropperlaw09_without.l0 k a0 a1 (⟨#[]⟩ : ByteArray) 0) = some r := h
 clear h
 have H' := Aside0.mk H
 clear H
 go_enter Try.func53, Try.ntmps53
 go_wp2
 go_loopg [5, 6] k (fun kq v5 v6 w' => ∃ (x5_1 : ByteArray) (x6_1 : Int), v5 = .string x5_1 ∧ v6 = .int .i64 x6_1 ∧ Aside0 (dropperlaw09_without.l0 kq a0 a1 x5_1 x6_1 = some r) ∧ Aside0 (kq ≤ k) ∧ Drawn0 w w')
 case atStart => exact ⟨((⟨#[]⟩ : ByteArray)), (0), rsz, rsz, H', ⟨Nat.le_refl _⟩, drz⟩
 case round =>
  clear H'
  try clear p2
  obtain ⟨x5_1, x6_1, rfl, rfl, HA, HK1, ⟨m1, rfl⟩⟩ := hrel
  cases gk with
  | zero => exact absurd HA.out (by simp [dropperlaw09_without.l0])
  | succ k1 =>
   have H := HA.out
   clear HA
   simp only [dropperlaw09_without.l0] at H
   by_cases c3 : x6_1 < (a0.size : Int)
   ·
    rw [if_pos c3] at H
    have c3b0 : decide (x6_1 < (a0.size : Int)) = true := decide_eq_true c3
    clear c3
    by_cases c4 : 0 ≤ x6_1
    ·
     rw [if_pos c4] at H
     have c4b0 : decide (0 ≤ x6_1) = true := decide_eq_true c4
     clear c4
     by_cases c6 : (bt a0 x6_1) = a1
     ·
      rw [if_pos c6] at H
      have c6b0 : ((bt a0 x6_1) == a1) = true := beq_iff_eq.mpr c6
      have c6b1 : ((bt a0 x6_1) != a1) = false := bne_eq_false_iff_eq.mpr c6
      clear c6
      have H' := Aside0.mk H
      clear H
      have p5 : 0 ≤ (x6_1 : Int) := of_decide_eq_true asz
      have q5 : x6_1 < (a0.size : Int) := of_decide_eq_true asz
      have hx5 := bt_at a0 x6_1
      replace p5 := eq_true p5
      replace q5 := eq_true q5
      go_wp2
      go_roundg k1
      case measure => have := HK1.out; omega
      case rel => exact ⟨(x5_1), (wrap64 (x6_1 + 1)), rsz, rsz, H', ⟨by have := HK1.out; omega⟩, drz⟩
     ·
      rw [if_neg c6] at H
      have c6b0 : ((bt a0 x6_1) == a1) = false := beq_eq_false_iff_ne.mpr c6
      have c6b1 : ((bt a0 x6_1) != a1) = true := bne_iff_ne.mpr c6
      have c7b0 := eq_true (of_decide_eq_true asz : 0 ≤ x6_1)
      by_cases c8 : x6_1 ≤ (wrap64 (x6_1 + 1))
      ·
       rw [if_pos c8] at H
       have c8b0 := eq_true c8
       have c8b1 : decide (x6_1 ≤ (wrap64 (x6_1 + 1))) = true := decide_eq_true c8
       by_cases c9 : (wrap64 (x6_1 + 1)) ≤ (a0.size : Int)
       ·
        rw [if_pos c9] at H
        have c9b0 := eq_true c9
        have c9b1 : decide ((wrap64 (x6_1 + 1)) ≤ (a0.size : Int)) = true := decide_eq_true c9
        by_cases c10 : x5_1.size + (a0.extract (x6_1 : Int).toNat ((wrap64 (x6_1 + 1)) : Int).toNat).size ≤ 9223372036854775807
        ·
         rw [if_pos c10] at H
         have c10b0 := eq_true c10
         have c10b1 : decide (x5_1.size + (a0.extract (x6_1 : Int).toNat ((wrap64 (x6_1 + 1)) : Int).toNat).size ≤ 9223372036854775807) = true := decide_eq_true c10
         try have c10b2 : (9223372036854775807 < x5_1.size + (a0.extract (x6_1 : Int).toNat ((wrap64 (x6_1 + 1)) : Int).toNat).size) = False := eq_false (Nat.not_lt.2 c10)
         have H' := Aside0.mk H
         clear H
         have p5 : 0 ≤ (x6_1 : Int) := of_decide_eq_true asz
         have q5 : x6_1 < (a0.size : Int) := of_decide_eq_true asz
         have hx5 := bt_at a0 x6_1
         replace p5 := eq_true p5
         replace q5 := eq_true q5
         go_wp2
         go_roundg k1
         case measure => have := HK1.out; omega
         case rel => exact ⟨(x5_1 ++ (a0.extract (x6_1 : Int).toNat ((wrap64 (x6_1 + 1)) : Int).toNat)), (wrap64 (x6_1 + 1)), rsz, rsz, H', ⟨by have := HK1.out; omega⟩, drz⟩
        ·
         rw [if_neg c10] at H
         exact absurd H (by simp)
       ·
        rw [if_neg c9] at H
        exact absurd H (by simp)
      ·
       rw [if_neg c8] at H
       exact absurd H (by simp)
    ·
     rw [if_neg c4] at H
     exact absurd H (by simp)
   ·
    rw [if_neg c3] at H
    have c3b0 : decide (x6_1 < (a0.size : Int)) = false := decide_eq_false c3
    clear c3
    obtain rfl := Option.some.inj H
    go_wp2
    go_ret
    exact ⟨by first | rfl | (simp; done) | (simp [*]; done), drz⟩

/-! ### dropperlaw09_LoopIdles: function 12 -/
mutual
def dropperlaw09_LoopIdles.j0 : Nat → ByteArray → ByteArray → Bool → Option (Bool)
 | 0, _, _, _ => none
 | k + 1, x0, x1, x29 => if x29 = true then ((dropperlaw09_First.f k).bind fun t264 => (some t264)) else ((loop_Conducts.f x0 x1).bind fun bt265 => ((loop_Idle.f x0).bind fun bt267 => ((loop_Needs.f x0).bind fun bt269 => (if bt265.2 = 0 then (if bt267.2 = 0 then (if bt269.2 = 0 then ((dropperref09_ValidSet.f k bt267.1).bind fun t271 => (if t271 = true then ((dropperref09_ValidSet.f k bt269.1).bind fun t272 => (dropperlaw09_LoopIdles.j1 k x0 x1 bt265.1 bt267.1 bt269.1 (!t272))) else (dropperlaw09_LoopIdles.j1 k x0 x1 bt265.1 bt267.1 bt269.1 true))) else (dropperlaw09_LoopIdles.j1 k x0 x1 bt265.1 bt267.1 bt269.1 true)) else (dropperlaw09_LoopIdles.j1 k x0 x1 bt265.1 bt267.1 bt269.1 true)) else (dropperlaw09_LoopIdles.j1 k x0 x1 bt265.1 bt267.1 bt269.1 true)))))
def dropperlaw09_LoopIdles.j1 : Nat → ByteArray → ByteArray → Bool → ByteArray → ByteArray → Bool → Option (Bool)
 | 0, _, _, _, _, _, _ => none
 | k + 1, x0, x1, x5, x7, x9, x66 => if x66 = true then (none) else (dropperlaw09_LoopIdles.l0 k x0 x1 x5 x7 x9 0)
def dropperlaw09_LoopIdles.l0 : Nat → ByteArray → ByteArray → Bool → ByteArray → ByteArray → Int → Option (Bool)
 | 0, _, _, _, _, _, _ => none
 | k + 1, x0, x1, x5, x7, x9, x11 => if x11 < (x7.size : Int) then (if 0 ≤ x11 then ((dropperlaw09_without.f k x1 (bt x7 x11)).bind fun t273 => ((loop_Conducts.f x0 t273).bind fun bt274 => (if bt274.2 = 0 then (if (bt274.1 != x5) = true then (none) else (dropperlaw09_LoopIdles.l0 k x0 x1 x5 x7 x9 (wrap64 (x11 + 1)))) else (none)))) else (none)) else (dropperlaw09_LoopIdles.l1 k x0 x1 x9 0)
def dropperlaw09_LoopIdles.l1 : Nat → ByteArray → ByteArray → ByteArray → Int → Option (Bool)
 | 0, _, _, _, _ => none
 | k + 1, x0, x1, x9, x14 => if x14 < (x9.size : Int) then (if 0 ≤ x14 then ((dropperlaw09_without.f k x1 (bt x9 x14)).bind fun t277 => ((loop_Conducts.f x0 t277).bind fun bt278 => (if bt278.2 = 0 then (if bt278.1 = true then (none) else (dropperlaw09_LoopIdles.l1 k x0 x1 x9 (wrap64 (x14 + 1)))) else (none)))) else (none)) else ((dropperlaw09_First.f k).bind fun t276 => (some t276))
end
def dropperlaw09_LoopIdles.f (k : Nat) (a0 : ByteArray) (a1 : ByteArray) : Option (Bool) := (dropperlaw09_Long.f a0 a1).bind fun t261 => (if t261 = true then (dropperlaw09_LoopIdles.j0 k a0 a1 true) else ((dropperref09_Valid.f a0).bind fun t262 => (if t262 = true then ((dropperref09_ValidSet.f k a1).bind fun t263 => (dropperlaw09_LoopIdles.j0 k a0 a1 (!t263))) else (dropperlaw09_LoopIdles.j0 k a0 a1 true))))
set_option maxHeartbeats 8000000 in
set_option maxRecDepth 100000 in
theorem dropperlaw09_LoopIdles.calls (k : Nat) (a0 : ByteArray) (a1 : ByteArray) (r : Bool) (w : World) (h : dropperlaw09_LoopIdles.f k a0 a1 = some r) :
  Calls Try.prog 12 #[.string a0, .string a1] w fun e w' => e = .returned (.bool r) ∧ Below w.heap.size w w' := by
 have HB := Aside0.mk (Below.refl w.heap.size w)
 have H : ((dropperlaw09_Long.f a0 a1).bind fun t261 => (if t261 = true then (dropperlaw09_LoopIdles.j0 k a0 a1 true) else ((dropperref09_Valid.f a0).bind fun t262 => (if t262 = true then ((dropperref09_ValidSet.f k a1).bind fun t263 => (dropperlaw09_LoopIdles.j0 k a0 a1 (!t263))) else (dropperlaw09_LoopIdles.j0 k a0 a1 true))))) = some r := h
 clear h
 have HC3 := Aside0.mk H
 clear H
 go_enter Try.func12, Try.ntmps12
 go_upto_region 1 with (fail)
 go_cut [29] (fun v29 wc => ∃ (kq : Nat) (x29_2 : Bool), v29 = .bool x29_2 ∧ Aside0 (dropperlaw09_LoopIdles.j0 kq a0 a1 x29_2 = some r) ∧ Aside0 (kq ≤ k) ∧ Aside0 (Below w.heap.size w wc))
 case first =>
  have H := HC3.out
  clear HC3
  replace H := Option.bind_eq_some_iff.mp H
  obtain ⟨t261, A40, H⟩ := H
  try dsimp only at H
  have A4 := Aside0.mk A40
  clear A40
  by_cases c5 : t261 = true
  ·
   subst c5
   rw [if_pos rfl] at H
   have H' := Aside0.mk H
   clear H
   go_wp2_with (first | ((with_reducible refine gate_callee (f := 14) rfl ?_); refine goesL_ (some 19) rfl rfl Try.func14 (by kernel_rfl) rfl #[.string a0, .string a1] rfl mapz ?_; (with_reducible refine (dropperlaw09_Long.calls a0 a1 true _ A4.out).mono ?_); rintro e w' ⟨rfl, ⟨nd, rfl⟩⟩; refine ⟨_, rfl, ?_⟩))
   go_meet
   case rel => exact ⟨_, (true), rsz, H', ⟨by first | omega | exact Nat.le_refl _⟩, ⟨bel⟩⟩
  ·
   replace c5 := Bool.eq_false_iff.mpr c5
   subst c5
   rw [if_neg (show ¬ (false = true) by decide)] at H
   replace H := Option.bind_eq_some_iff.mp H
   obtain ⟨t262, A60, H⟩ := H
   try dsimp only at H
   have A6 := Aside0.mk A60
   clear A60
   by_cases c7 : t262 = true
   ·
    subst c7
    rw [if_pos rfl] at H
    replace H := Option.bind_eq_some_iff.mp H
    obtain ⟨t263, A80, H⟩ := H
    try dsimp only at H
    have A8 := Aside0.mk A80
    clear A80
    have H' := Aside0.mk H
    clear H
    go_wp2_with (first | ((with_reducible refine gate_callee (f := 14) rfl ?_); refine goesL_ (some 19) rfl rfl Try.func14 (by kernel_rfl) rfl #[.string a0, .string a1] rfl mapz ?_; (with_reducible refine (dropperlaw09_Long.calls a0 a1 false _ A4.out).mono ?_); rintro e w' ⟨rfl, ⟨nd, rfl⟩⟩; refine ⟨_, rfl, ?_⟩) | (go_at_call 21; (with_reducible refine (dropperref09_Valid.calls a0 true _ A6.out).mono ?_); rintro e w9 ⟨rfl, hb⟩; replace HB := Aside0.mk (below_step bel hb); clear hb) | (go_at_call 22; (with_reducible refine (dropperref09_ValidSet.calls k a1 t263 _ A8.out).mono ?_); rintro e w' ⟨rfl, ⟨nd, rfl⟩⟩))
    go_meet
    case rel => exact ⟨_, (!t263), rsz, H', ⟨by first | omega | exact Nat.le_refl _⟩, ⟨bel⟩⟩
   ·
    replace c7 := Bool.eq_false_iff.mpr c7
    subst c7
    rw [if_neg (show ¬ (false = true) by decide)] at H
    have H' := Aside0.mk H
    clear H
    go_wp2_with (first | ((with_reducible refine gate_callee (f := 14) rfl ?_); refine goesL_ (some 19) rfl rfl Try.func14 (by kernel_rfl) rfl #[.string a0, .string a1] rfl mapz ?_; (with_reducible refine (dropperlaw09_Long.calls a0 a1 false _ A4.out).mono ?_); rintro e w' ⟨rfl, ⟨nd, rfl⟩⟩; refine ⟨_, rfl, ?_⟩) | (go_at_call 21; (with_reducible refine (dropperref09_Valid.calls a0 false _ A6.out).mono ?_); rintro e w10 ⟨rfl, hb⟩; replace HB := Aside0.mk (below_step bel hb); clear hb))
    go_meet
    case rel => exact ⟨_, (true), rsz, H', ⟨by first | omega | exact Nat.le_refl _⟩, ⟨bel⟩⟩
 case rest =>
  clear HC3
  (try clear c1); (try clear p2); (try clear c5); (try clear c7)
  obtain ⟨kq, x29_2, rfl, HA, HJ2, HB⟩ := hcut
  cases kq with
  | zero => exact absurd HA.out (by simp [dropperlaw09_LoopIdles.j0])
  | succ kj2 =>
   have H := HA.out
   clear HA
   simp only [dropperlaw09_LoopIdles.j0] at H
   by_cases c11 : x29_2 = true
   ·
    subst c11
    rw [if_pos rfl] at H
    replace H := Option.bind_eq_some_iff.mp H
    obtain ⟨t264, A120, H⟩ := H
    try dsimp only at H
    have A12 := Aside0.mk A120
    clear A120
    obtain rfl := Option.some.inj H
    go_wp2_with (first | ((with_reducible refine gate_callee (f := 15) rfl ?_); refine goesL_ (some 30) rfl rfl Try.func15 (by kernel_rfl) rfl #[] rfl mapz ?_; (with_reducible refine (dropperlaw09_First.calls kj2  t264 _ A12.out).mono ?_); rintro e w13 ⟨rfl, hb⟩; refine ⟨_, rfl, ?_⟩; replace HB := Aside0.mk (below_step bel hb); clear hb))
    go_ret
    exact ⟨ezz, bel⟩
   ·
    replace c11 := Bool.eq_false_iff.mpr c11
    subst c11
    rw [if_neg (show ¬ (false = true) by decide)] at H
    replace H := Option.bind_eq_some_iff.mp H
    obtain ⟨⟨t265, t266⟩, A140, H⟩ := H
    try dsimp only at H
    have A14 := Aside0.mk A140
    clear A140
    replace H := Option.bind_eq_some_iff.mp H
    obtain ⟨⟨t267, t268⟩, A150, H⟩ := H
    try dsimp only at H
    have A15 := Aside0.mk A150
    clear A150
    replace H := Option.bind_eq_some_iff.mp H
    obtain ⟨⟨t269, t270⟩, A160, H⟩ := H
    try dsimp only at H
    have A16 := Aside0.mk A160
    clear A160
    have HC17 := Aside0.mk H
    clear H
    go_upto_region 6 with (first | ((with_reducible refine gate_callee (f := 25) rfl ?_); refine goesL_ (some 34) rfl rfl Try.func25 (by kernel_rfl) rfl #[.string a0, .string a1] rfl mapz ?_; (with_reducible refine (loop_Conducts.calls a0 a1 t265 t266 _ A14.out).mono ?_); rintro e w18 ⟨rfl, hb⟩; refine ⟨_, rfl, ?_⟩; replace HB := Aside0.mk (below_step bel hb); clear hb) | ((with_reducible refine gate_callee (f := 51) rfl ?_); refine goesL_ (some 39) rfl rfl Try.func51 (by kernel_rfl) rfl #[.string a0] rfl mapz ?_; (with_reducible refine (loop_Idle.calls a0 t267 t268 _ A15.out).mono ?_); rintro e w19 ⟨rfl, hb⟩; refine ⟨_, rfl, ?_⟩; replace HB := Aside0.mk (below_step bel hb); clear hb) | ((with_reducible refine gate_callee (f := 52) rfl ?_); refine goesL_ (some 44) rfl rfl Try.func52 (by kernel_rfl) rfl #[.string a0] rfl mapz ?_; (with_reducible refine (loop_Needs.calls a0 t269 t270 _ A16.out).mono ?_); rintro e w20 ⟨rfl, hb⟩; refine ⟨_, rfl, ?_⟩; replace HB := Aside0.mk (below_step bel hb); clear hb))
    (try simp only [Act.put, List.setIfInBounds_toArray, List.set_cons_zero, List.set_cons_succ])
    go_cut [66] (fun v66 wc => ∃ (kq : Nat) (x66_16 : Bool), v66 = .bool x66_16 ∧ Aside0 (dropperlaw09_LoopIdles.j1 kq a0 a1 t265 t267 t269 x66_16 = some r) ∧ Aside0 (kq ≤ kj2) ∧ Aside0 (Below w.heap.size w wc))
    case first =>
     have H := HC17.out
     clear HC17
     by_cases c21 : t266 = 0
     ·
      rw [if_pos c21] at H
      have c21b0 : (t266 == 0) = true := beq_iff_eq.mpr c21
      have c21b1 : (t266 != 0) = false := bne_eq_false_iff_eq.mpr c21
      clear c21
      (first | rw [c21b0] | (simp only [i64_w, i32_w]; rw [c21b0]) | skip)
      by_cases c22 : t268 = 0
      ·
       rw [if_pos c22] at H
       have c22b0 : (t268 == 0) = true := beq_iff_eq.mpr c22
       have c22b1 : (t268 != 0) = false := bne_eq_false_iff_eq.mpr c22
       clear c22
       by_cases c23 : t270 = 0
       ·
        rw [if_pos c23] at H
        have c23b0 : (t270 == 0) = true := beq_iff_eq.mpr c23
        have c23b1 : (t270 != 0) = false := bne_eq_false_iff_eq.mpr c23
        clear c23
        replace H := Option.bind_eq_some_iff.mp H
        obtain ⟨t271, A240, H⟩ := H
        try dsimp only at H
        have A24 := Aside0.mk A240
        clear A240
        by_cases c25 : t271 = true
        ·
         subst c25
         rw [if_pos rfl] at H
         replace H := Option.bind_eq_some_iff.mp H
         obtain ⟨t272, A260, H⟩ := H
         try dsimp only at H
         have A26 := Aside0.mk A260
         clear A260
         have H' := Aside0.mk H
         clear H
         go_wp2_with (first | (go_at_call 22; (with_reducible refine (dropperref09_ValidSet.calls kj2 t267 true _ A24.out).mono ?_); rintro e w' ⟨rfl, ⟨nd, rfl⟩⟩) | (go_at_call 22; (with_reducible refine (dropperref09_ValidSet.calls kj2 t269 t272 _ A26.out).mono ?_); rintro e w' ⟨rfl, ⟨nd, rfl⟩⟩))
         go_meet
         case rel => exact ⟨_, (!t272), rsz, H', ⟨by have := HJ2.out; first | omega | exact Nat.le_refl _⟩, ⟨bel⟩⟩
        ·
         replace c25 := Bool.eq_false_iff.mpr c25
         subst c25
         rw [if_neg (show ¬ (false = true) by decide)] at H
         have H' := Aside0.mk H
         clear H
         go_wp2_with (first | (go_at_call 22; (with_reducible refine (dropperref09_ValidSet.calls kj2 t267 false _ A24.out).mono ?_); rintro e w' ⟨rfl, ⟨nd, rfl⟩⟩))
         go_meet
         case rel => exact ⟨_, (true), rsz, H', ⟨by have := HJ2.out; first | omega | exact Nat.le_refl _⟩, ⟨bel⟩⟩
       ·
        rw [if_neg c23] at H
        have c23b0 : (t270 == 0) = false := beq_eq_false_iff_ne.mpr c23
        have c23b1 : (t270 != 0) = true := bne_iff_ne.mpr c23
        have H' := Aside0.mk H
        clear H
        go_wp2
        go_meet
        case rel => exact ⟨_, (true), rsz, H', ⟨by have := HJ2.out; first | omega | exact Nat.le_refl _⟩, ⟨bel⟩⟩
      ·
       rw [if_neg c22] at H
       have c22b0 : (t268 == 0) = false := beq_eq_false_iff_ne.mpr c22
       have c22b1 : (t268 != 0) = true := bne_iff_ne.mpr c22
       have H' := Aside0.mk H
       clear H
       go_wp2
       go_meet
       case rel => exact ⟨_, (true), rsz, H', ⟨by have := HJ2.out; first | omega | exact Nat.le_refl _⟩, ⟨bel⟩⟩
     ·
      rw [if_neg c21] at H
      have c21b0 : (t266 == 0) = false := beq_eq_false_iff_ne.mpr c21
      have c21b1 : (t266 != 0) = true := bne_iff_ne.mpr c21
      (first | rw [c21b0] | (simp only [i64_w, i32_w]; rw [c21b0]) | skip)
      have H' := Aside0.mk H
      clear H
      go_wp2
      go_meet
      case rel => exact ⟨_, (true), rsz, H', ⟨by have := HJ2.out; first | omega | exact Nat.le_refl _⟩, ⟨bel⟩⟩
    case rest =>
     clear HC17
     (try clear c1); (try clear c2); (try clear p2); (try clear c5); (try clear c7); (try clear c11); (try clear c12); (try clear c14); (try clear c15); (try clear c21); (try clear c21b0); (try clear c21b1); (try clear c22); (try clear c22b0); (try clear c22b1); (try clear c23); (try clear c23b0); (try clear c23b1); (try clear c25); (try clear p2)
     obtain ⟨kq, x66_16, rfl, HA, HJ16, HB⟩ := hcut
     cases kq with
     | zero => exact absurd HA.out (by simp [dropperlaw09_LoopIdles.j1])
     | succ kj16 =>
      have H := HA.out
      clear HA
      simp only [dropperlaw09_LoopIdles.j1] at H
      by_cases c27 : x66_16 = true
      ·
       subst c27
       rw [if_pos rfl] at H
       exact absurd H (by simp)
      ·
       replace c27 := Bool.eq_false_iff.mpr c27
       subst c27
       rw [if_neg (show ¬ (false = true) by decide)] at H
       have H' := Aside0.mk H
       clear H
       go_wp2
       go_loopg [11] kj16 (fun kq v11 w' => ∃ (x11_3 : Int), v11 = .int .i64 x11_3 ∧ Aside0 (dropperlaw09_LoopIdles.l0 kq a0 a1 t265 t267 t269 x11_3 = some r) ∧ Aside0 (kq ≤ kj16) ∧ Aside0 (Below w.heap.size w w'))
       case atStart => exact ⟨(0), rsz, H', ⟨Nat.le_refl _⟩, ⟨bel⟩⟩
       case round =>
        clear H'
        (try clear c1); (try clear c2); (try clear p2); (try clear c5); (try clear c7); (try clear c11); (try clear c12); (try clear c14); (try clear c15); (try clear c21); (try clear c21b0); (try clear c21b1); (try clear c22); (try clear c22b0); (try clear c22b1); (try clear c23); (try clear c23b0); (try clear c23b1); (try clear c25); (try clear c27); (try clear p2)
        obtain ⟨x11_3, rfl, HA, HK3, HB⟩ := hrel
        cases gk with
        | zero => exact absurd HA.out (by simp [dropperlaw09_LoopIdles.l0])
        | succ k3 =>
         have H := HA.out
         clear HA
         simp only [dropperlaw09_LoopIdles.l0] at H
         by_cases c28 : x11_3 < (t267.size : Int)
         ·
          rw [if_pos c28] at H
          have c28b0 : decide (x11_3 < (t267.size : Int)) = true := decide_eq_true c28
          clear c28
          by_cases c29 : 0 ≤ x11_3
          ·
           rw [if_pos c29] at H
           have c29b0 : decide (0 ≤ x11_3) = true := decide_eq_true c29
           clear c29
           replace H := Option.bind_eq_some_iff.mp H
           obtain ⟨t273, A310, H⟩ := H
           try dsimp only at H
           have A31 := Aside0.mk A310
           clear A310
           replace H := Option.bind_eq_some_iff.mp H
           obtain ⟨⟨t274, t275⟩, A320, H⟩ := H
           try dsimp only at H
           have A32 := Aside0.mk A320
           clear A320
           by_cases c33 : t275 = 0
           ·
            rw [if_pos c33] at H
            have c33b0 : (t275 == 0) = true := beq_iff_eq.mpr c33
            have c33b1 : (t275 != 0) = false := bne_eq_false_iff_eq.mpr c33
            clear c33
            by_cases c34 : (t274 != t265) = true
            ·
             rw [if_pos c34] at H
             exact absurd H (by simp)
            ·
             rw [if_neg c34] at H
             have c34b0 : (t274 != t265) = false := by simpa using c34
             (try (have c34b1 : decide (t274 = t265) = true := by simpa using c34))
             (try (have c34b2 : (t274 == t265) = true := by simpa using c34))
             clear c34
             have H' := Aside0.mk H
             clear H
             have p30 : 0 ≤ (x11_3 : Int) := of_decide_eq_true asz
             have q30 : x11_3 < (t267.size : Int) := of_decide_eq_true asz
             have hx30 := bt_at t267 x11_3
             replace p30 := eq_true p30
             replace q30 := eq_true q30
             go_wp2_with (first | ((with_reducible refine gate_callee (f := 53) rfl ?_); refine goesL_ (some 79) rfl rfl Try.func53 (by kernel_rfl) rfl #[.string a1, .int .u8 (bt t267 x11_3)] rfl mapz ?_; (with_reducible refine (dropperlaw09_without.calls k3 a1 (bt t267 x11_3) t273 _ A31.out).mono ?_); rintro e w' ⟨rfl, ⟨nd, rfl⟩⟩; refine ⟨_, rfl, ?_⟩) | ((with_reducible refine gate_callee (f := 25) rfl ?_); refine goesL_ (some 80) rfl rfl Try.func25 (by kernel_rfl) rfl #[.string a0, .string t273] rfl mapz ?_; (with_reducible refine (loop_Conducts.calls a0 t273 t274 t275 _ A32.out).mono ?_); rintro e w35 ⟨rfl, hb⟩; refine ⟨_, rfl, ?_⟩; replace HB := Aside0.mk (below_step bel hb); clear hb))
             go_roundg k3
             case measure => have := HJ2.out; have := HJ16.out; have := HK3.out; omega
             case rel => exact ⟨(wrap64 (x11_3 + 1)), rsz, H', ⟨by have := HJ2.out; have := HJ16.out; have := HK3.out; omega⟩, ⟨bel⟩⟩
           ·
            rw [if_neg c33] at H
            exact absurd H (by simp)
          ·
           rw [if_neg c29] at H
           exact absurd H (by simp)
         ·
          rw [if_neg c28] at H
          have c28b0 : decide (x11_3 < (t267.size : Int)) = false := decide_eq_false c28
          clear c28
          have H' := Aside0.mk H
          clear H
          go_wp2
          go_loopg [14] k3 (fun kq v14 w' => ∃ (x14_4 : Int), v14 = .int .i64 x14_4 ∧ Aside0 (dropperlaw09_LoopIdles.l1 kq a0 a1 t269 x14_4 = some r) ∧ Aside0 (kq ≤ k3) ∧ Aside0 (Below w.heap.size w w'))
          case atStart => exact ⟨(0), rsz, H', ⟨Nat.le_refl _⟩, ⟨bel⟩⟩
          case round =>
           clear H'
           (try clear c1); (try clear c2); (try clear p2); (try clear c3); (try clear p3); (try clear q3); (try clear hx3); (try clear c5); (try clear p6); (try clear c7); (try clear c11); (try clear c12); (try clear c14); (try clear c15); (try clear c21); (try clear c21b0); (try clear c21b1); (try clear c22); (try clear c22b0); (try clear c22b1); (try clear c23); (try clear c23b0); (try clear c23b1); (try clear c25); (try clear c27); (try clear c28); (try clear c28b0); (try clear c29); (try clear c29b0); (try clear p30); (try clear q30); (try clear hx30); (try clear c33); (try clear c33b0); (try clear c33b1); (try clear c34); (try clear c34b0); (try clear c34b1); (try clear c34b2); (try clear p2); (try clear p30); (try clear q30)
           obtain ⟨x14_4, rfl, HA, HK4, HB⟩ := hrel
           cases gk with
           | zero => exact absurd HA.out (by simp [dropperlaw09_LoopIdles.l1])
           | succ k4 =>
            have H := HA.out
            clear HA
            simp only [dropperlaw09_LoopIdles.l1] at H
            by_cases c36 : x14_4 < (t269.size : Int)
            ·
             rw [if_pos c36] at H
             have c36b0 : decide (x14_4 < (t269.size : Int)) = true := decide_eq_true c36
             clear c36
             by_cases c37 : 0 ≤ x14_4
             ·
              rw [if_pos c37] at H
              have c37b0 : decide (0 ≤ x14_4) = true := decide_eq_true c37
              clear c37
              replace H := Option.bind_eq_some_iff.mp H
              obtain ⟨t277, A390, H⟩ := H
              try dsimp only at H
              have A39 := Aside0.mk A390
              clear A390
              replace H := Option.bind_eq_some_iff.mp H
              obtain ⟨⟨t278, t279⟩, A400, H⟩ := H
              try dsimp only at H
              have A40 := Aside0.mk A400
              clear A400
              by_cases c41 : t279 = 0
              ·
               rw [if_pos c41] at H
               have c41b0 : (t279 == 0) = true := beq_iff_eq.mpr c41
               have c41b1 : (t279 != 0) = false := bne_eq_false_iff_eq.mpr c41
               clear c41
               by_cases c42 : t278 = true
               ·
                subst c42
                rw [if_pos rfl] at H
                exact absurd H (by simp)
               ·
                replace c42 := Bool.eq_false_iff.mpr c42
                subst c42
                rw [if_neg (show ¬ (false = true) by decide)] at H
                have H' := Aside0.mk H
                clear H
                have p38 : 0 ≤ (x14_4 : Int) := of_decide_eq_true asz
                have q38 : x14_4 < (t269.size : Int) := of_decide_eq_true asz
                have hx38 := bt_at t269 x14_4
                replace p38 := eq_true p38
                replace q38 := eq_true q38
                go_wp2_with (first | ((with_reducible refine gate_callee (f := 53) rfl ?_); refine goesL_ (some 102) rfl rfl Try.func53 (by kernel_rfl) rfl #[.string a1, .int .u8 (bt t269 x14_4)] rfl mapz ?_; (with_reducible refine (dropperlaw09_without.calls k4 a1 (bt t269 x14_4) t277 _ A39.out).mono ?_); rintro e w' ⟨rfl, ⟨nd, rfl⟩⟩; refine ⟨_, rfl, ?_⟩) | ((with_reducible refine gate_callee (f := 25) rfl ?_); refine goesL_ (some 103) rfl rfl Try.func25 (by kernel_rfl) rfl #[.string a0, .string t277] rfl mapz ?_; (with_reducible refine (loop_Conducts.calls a0 t277 false t279 _ A40.out).mono ?_); rintro e w43 ⟨rfl, hb⟩; refine ⟨_, rfl, ?_⟩; replace HB := Aside0.mk (below_step bel hb); clear hb))
                go_roundg k4
                case measure => have := HJ2.out; have := HJ16.out; have := HK3.out; have := HK4.out; omega
                case rel => exact ⟨(wrap64 (x14_4 + 1)), rsz, H', ⟨by have := HJ2.out; have := HJ16.out; have := HK3.out; have := HK4.out; omega⟩, ⟨bel⟩⟩
              ·
               rw [if_neg c41] at H
               exact absurd H (by simp)
             ·
              rw [if_neg c37] at H
              exact absurd H (by simp)
            ·
             rw [if_neg c36] at H
             have c36b0 : decide (x14_4 < (t269.size : Int)) = false := decide_eq_false c36
             clear c36
             replace H := Option.bind_eq_some_iff.mp H
             obtain ⟨t276, A440, H⟩ := H
             try dsimp only at H
             have A44 := Aside0.mk A440
             clear A440
             obtain rfl := Option.some.inj H
             go_wp2_with (first | ((with_reducible refine gate_callee (f := 15) rfl ?_); refine goesL_ (some 111) rfl rfl Try.func15 (by kernel_rfl) rfl #[] rfl mapz ?_; (with_reducible refine (dropperlaw09_First.calls k4  t276 _ A44.out).mono ?_); rintro e w45 ⟨rfl, hb⟩; refine ⟨_, rfl, ?_⟩; replace HB := Aside0.mk (below_step bel hb); clear hb))
             go_ret
             exact ⟨ezz, bel⟩

end Go.Proofs.Yteikgnaikeleaaa.XLoop
-- Written by wip/xprint.py of this repo, over the kit's print.py: out of the translation; the oracles in it are by hand. Not trusted: Lean checks it.
namespace Go.Proofs.Yteikgnaikeleaaa.XLoop
open Go.RowKit Go.Proofs.Yteikgnaikeleaaa.XLoop Go.Proofs.YteikgnaikeleaaaW.PrintWords Go.Proofs.YteikgnaikeleaaaW.PrintLast Go.Proofs.YteikgnaikeleaaaW.PrintMore
def dropperlaw09_LoopIdles.Pure : Prop := ∀ (a0 : ByteArray) (a1 : ByteArray), (a0.size ≤ maxLen) → (a1.size ≤ maxLen) → ∃ k, dropperlaw09_LoopIdles.f k a0 a1 = some true
end Go.Proofs.Yteikgnaikeleaaa.XLoop

/- An idle letter changes nothing, and without a letter that is needed nothing conducts. -/
namespace Go.Proofs.Yteikgnaikeleaaa.Pure
set_option linter.unusedVariables false
open Go.RowKit Go.Proofs.Yteikgnaikeleaaa.XLoop Go.Proofs.YteikgnaikeleaaaW.PrintWords Go.Proofs.YteikgnaikeleaaaW.PrintLast Go.Proofs.YteikgnaikeleaaaW.PrintMore

theorem without_l0 (c : UInt8) (s : List UInt8) (hs : s.length < 100000000) : ∀ (t : List UInt8) (k i : Nat) (out : List UInt8), s.drop i = t → t.length < k → out.length + t.length < 100000000 → i ≤ s.length →
  dropperlaw09_without.l0 k (tx s) (c.toNat : Int) (tx out) (i : Int) = some (tx (out ++ t.filter (fun b => b != c)))
 | t, 0, i, out, h1, h2, h3, h4 => by simp at h2
 | [], k + 1, i, out, h1, h2, h3, h4 => by
  have hsz := tx_size s
  have : s.length ≤ i := by simpa using h1
  rw [dropperlaw09_without.l0, if_neg (by rw [hsz]; omega)]
  simp
 | b :: t, k + 1, i, out, h1, h2, h3, h4 => by
  have hsz := tx_size s
  have hso := tx_size out
  obtain ⟨g1, g2, g3⟩ := drop_head h1
  rw [List.length_cons] at h2 h3
  rw [dropperlaw09_without.l0, if_pos (by rw [hsz]; omega), if_pos (by omega), g2, wrap_nat i (by omega)]
  by_cases hb : b = c
  ·
   subst hb
   rw [if_pos rfl, without_l0 b s hs t k (i + 1) out g3 (by omega) (by omega) (by omega)]
   simp
  ·
   have hcut : (tx s).extract i (i + 1) = tx [b] := by
    rw [tx_cut, h1]
    simp
   have hne := byte_ne hb
   have hs1 : (tx [b]).size = 1 := rfl
   rw [if_neg hne, if_pos (by omega), if_pos (by rw [hsz]; omega)]
   simp only [Int.toNat_natCast]
   rw [hcut, if_pos (by rw [hso, hs1]; omega), tx_app, without_l0 c s hs t k (i + 1) (out ++ [b]) g3 (by omega) (by simp; omega) (by omega)]
   have : (b != c) = true := bne_iff_ne.2 hb
   simp [this]
theorem without_f (c : UInt8) (s : List UInt8) (hs : s.length ≤ 200) (k : Nat) (hk : 201 ≤ k) : dropperlaw09_without.f k (tx s) (c.toNat : Int) = some (tx (s.filter (fun b => b != c))) :=
 without_l0 c s (by omega) s k 0 [] rfl (by omega) (by simp; omega) (Nat.zero_le _)
theorem text_le (n : Nat) : (textN n).length ≤ 8 := textN_len n
theorem cond_less (a : ByteArray) (m : Mean) (h : parseL a.data.toList = some m) (n i k : Nat) (hn : n < 256) (hi : i < 8) (hk : 201 ≤ k) :
  ((dropperlaw09_without.f k (tx (textN n)) (((UInt8.ofNat (97 + i)).toNat : Nat) : Int)).bind fun t => loop_Conducts.f a t) = some (m.f (less n i), 0) := by
 rw [without_f _ _ (by have := text_le n; omega) k hk, Option.bind_some, text_less n i hn hi]
 unfold loop_Conducts.f condR
 rw [h, show (tx (textN (less n i))).data.toList = textN (less n i) from rfl, set_text _ (less_256 n i hn)]
theorem idles_l1 (a : ByteArray) (m : Mean) (h : parseL a.data.toList = some m) (n : Nat) (hn : n < 256) (s : List UInt8) (hs : s.length ≤ 8) : ∀ (t : List UInt8) (k i : Nat), s.drop i = t → i ≤ s.length → (∀ b ∈ t, ∃ j, j < 8 ∧ b = UInt8.ofNat (97 + j) ∧ m.f (less n j) = false) → 210 + t.length ≤ k →
  dropperlaw09_LoopIdles.l1 k a (tx (textN n)) (tx s) (i : Int) = some true
 | t, 0, i, h1, h4, h2, hk => by omega
 | [], k + 1, i, h1, h4, h2, hk => by
  have hsz := tx_size s
  have : s.length ≤ i := by simpa using h1
  obtain ⟨k, rfl⟩ : ∃ k', k = k' + 3 := ⟨k - 3, by simp at hk; omega⟩
  rw [dropperlaw09_LoopIdles.l1, if_neg (by rw [hsz]; omega), first_evk k]
  rfl
 | b :: t, k + 1, i, h1, h4, h2, hk => by
  have hsz := tx_size s
  obtain ⟨g1, g2, g3⟩ := drop_head h1
  rw [List.length_cons] at hk
  obtain ⟨j, hj, rfl, hf⟩ := h2 b (by simp)
  have hc := cond_less a m h n j k hn hj (by omega)
  rw [dropperlaw09_LoopIdles.l1, if_pos (by rw [hsz]; omega), if_pos (by omega), g2, wrap_nat i (by omega)]
  cases hw : dropperlaw09_without.f k (tx (textN n)) ((UInt8.ofNat (97 + j)).toNat : Int) with
  | none => rw [hw] at hc; cases hc
  | some t0 =>
   rw [hw, Option.bind_some] at hc
   rw [Option.bind_some, hc, Option.bind_some, if_pos rfl]
   simp only [hf]
   exact idles_l1 a m h n hn s hs t k (i + 1) g3 (by omega) (fun b hb => h2 b (by simp [hb])) (by omega)
theorem idles_l0 (a : ByteArray) (m : Mean) (h : parseL a.data.toList = some m) (n : Nat) (hn : n < 256) (s q : List UInt8) (hs : s.length ≤ 8) (hq : q.length ≤ 8) (hqq : ∀ b ∈ q, ∃ j, j < 8 ∧ b = UInt8.ofNat (97 + j) ∧ m.f (less n j) = false) : ∀ (t : List UInt8) (k i : Nat), s.drop i = t → i ≤ s.length → (∀ b ∈ t, ∃ j, j < 8 ∧ b = UInt8.ofNat (97 + j) ∧ m.f (less n j) = m.f n) → 230 + t.length ≤ k →
  dropperlaw09_LoopIdles.l0 k a (tx (textN n)) (m.f n) (tx s) (tx q) (i : Int) = some true
 | t, 0, i, h1, h4, h2, hk => by omega
 | [], k + 1, i, h1, h4, h2, hk => by
  have hsz := tx_size s
  have : s.length ≤ i := by simpa using h1
  rw [dropperlaw09_LoopIdles.l0, if_neg (by rw [hsz]; omega)]
  exact idles_l1 a m h n hn q hq q k 0 rfl (Nat.zero_le _) hqq (by simp at hk; omega)
 | b :: t, k + 1, i, h1, h4, h2, hk => by
  have hsz := tx_size s
  obtain ⟨g1, g2, g3⟩ := drop_head h1
  rw [List.length_cons] at hk
  obtain ⟨j, hj, rfl, hf⟩ := h2 b (by simp)
  have hc := cond_less a m h n j k hn hj (by omega)
  rw [dropperlaw09_LoopIdles.l0, if_pos (by rw [hsz]; omega), if_pos (by omega), g2, wrap_nat i (by omega)]
  cases hw : dropperlaw09_without.f k (tx (textN n)) ((UInt8.ofNat (97 + j)).toNat : Int) with
  | none => rw [hw] at hc; cases hc
  | some t0 =>
   rw [hw, Option.bind_some] at hc
   rw [Option.bind_some, hc, Option.bind_some, if_pos rfl]
   simp only [hf]
   rw [if_neg (by simp)]
   exact idles_l0 a m h n hn s q hs hq hqq t k (i + 1) g3 (by omega) (fun b hb => h2 b (by simp [hb])) (by omega)
theorem vset_f (n k : Nat) (hn : n < 256) (hk : 9 ≤ k) : dropperref09_ValidSet.f k (tx (textN n)) = some true := by
 have := text_le n
 have h := vs_eq (textN n) k 0 (textN n) 0 (-1) rfl (by omega) (Or.inl ⟨rfl, rfl⟩) (by omega)
 rw [set_text n hn] at h
 exact h
theorem LoopIdles : dropperlaw09_LoopIdles.Pure := by
 intro a b _ _
 refine ⟨302, ?_⟩
 have hF : dropperlaw09_First.f 301 = some true := first_evk 298
 have hj : dropperlaw09_LoopIdles.j0 302 a b true = some true := by
  rw [dropperlaw09_LoopIdles.j0, if_pos rfl, hF]; rfl
 unfold dropperlaw09_LoopIdles.f
 rcases long_ev a b with hl | ⟨hl, h1, h2⟩
 ·
  rw [hl, Option.bind_some, if_pos rfl, hj]
 ·
  have zb : b.data.toList.length = b.size := by rw [← tx_size, tx_data]
  rw [hl, Option.bind_some, if_neg (by decide)]
  unfold dropperref09_Valid.f
  rw [Option.bind_some]
  cases hp : parseL a.data.toList with
  | none => exact (if_neg (by decide)).trans hj
  | some m =>
   refine (if_pos rfl).trans ?_
   have e4 : dropperref09_ValidSet.f 302 b = some (setL b.data.toList 0 (-1)).isSome := by
    have h := vs_eq b.data.toList 302 0 b.data.toList 0 (-1) rfl (by omega) (Or.inl ⟨rfl, rfl⟩) (by omega)
    rw [tx_data] at h
    exact h
   rw [e4, Option.bind_some]
   cases hq : setL b.data.toList 0 (-1) with
   | none => exact hj
   | some n =>
    have hn := setL_256 hq
    have hg := parseL_good hp
    have eb : b = tx (textN n) := by rw [← set_is hq, tx_data]
    show dropperlaw09_LoopIdles.j0 302 a b false = some true
    have c1 : loop_Conducts.f a b = some (m.f n, 0) := by unfold loop_Conducts.f condR; rw [hp, hq]
    have hal := allTo_lt a.data.toList 8 (by decide)
    have hil : idleF a.data.toList m.f < 256 := fold_lt _ (fun a n h => and_lt a _ h) _ _ hal
    have hnl : needsF m.f < 256 := fold_lt _ (fun a n h => and_lt a _ h) _ _ (by decide)
    have c2 : loop_Idle.f a = some (tx (textN (idleF a.data.toList m.f)), 0) := by unfold loop_Idle.f idleR; rw [hp]
    have c3 : loop_Needs.f a = some (tx (textN (needsF m.f)), 0) := by unfold loop_Needs.f needsR; rw [hp]
    rw [dropperlaw09_LoopIdles.j0, if_neg (by decide), c1, Option.bind_some, c2, Option.bind_some, c3, Option.bind_some, if_pos rfl, if_pos rfl, if_pos rfl, vset_f _ 301 hil (by decide), Option.bind_some, if_pos rfl, vset_f _ 301 hnl (by decide), Option.bind_some]
    show dropperlaw09_LoopIdles.j1 301 a b (m.f n) _ _ false = some true
    rw [dropperlaw09_LoopIdles.j1, if_neg (by decide), eb]
    have t1 := text_le (idleF a.data.toList m.f)
    have t2 := text_le (needsF m.f)
    refine idles_l0 a m hp n hn _ _ t1 t2 ?_ (textN (idleF a.data.toList m.f)) 300 0 rfl (Nat.zero_le _) ?_ (by omega)
    ·
     intro x hx
     obtain ⟨i, hi, rfl, hbit⟩ := textN_letter _ _ hx
     exact ⟨i, hi, rfl, needs_none hg i n hi hn hbit⟩
    ·
     intro x hx
     obtain ⟨i, hi, rfl, hbit⟩ := textN_letter _ _ hx
     exact ⟨i, hi, rfl, idle_same hg _ i n hi hn hbit⟩
end Go.Proofs.Yteikgnaikeleaaa.Pure

-- Written by wip/xprint.py of this repo, over the kit's print.py: out of the translation; the oracles in it are by hand. Not trusted: Lean checks it.
namespace Go.Proofs.Yteikgnaikeleaaa.loopIdles
open Go.ChangeShapes Go.WideShapes Go.ChangeAt Go.RowKit Go.Proofs.Yteikgnaikeleaaa.Open Go.Proofs.Yteikgnaikeleaaa.XLoop Go.Proofs.YteikgnaikeleaaaW.PrintWords Go.Proofs.YteikgnaikeleaaaW.PrintLast Go.Proofs.YteikgnaikeleaaaW.PrintMore
open Go.ChangeMaps (open_string shut_string)
set_option linter.unusedVariables false
set_option linter.unusedSimpArgs false
theorem own : ownKnob Try.prog.godebug = none := by kernel_rfl
theorem laidOut : laidOutB Try.prog = true := by kernel_rfl
set_option maxRecDepth 100000 in
theorem lifted (os : Os) (started : os.Started) (H : Type) (enc : TypeId × Value → H) :
  ReturnsInHanded {} Try.checked os 12 .any (Rows.loopIdlesSpec.pre6 enc Try.prog Try.f12 Rows.loopIdlesRow.domain false) (Rows.loopIdlesSpec.post enc Try.prog Try.f12 false true false false) := by
 refine returnsInHanded_of_change_sized (C := Try.checked) own started (by kernel_rfl) Try.func12
  (ChangeSpec.witness6 (enc := enc) (C := Try.checked) false ⟨#[], #[.string ByteArray.empty, .string ByteArray.empty], []⟩ 8 (by kernel_rfl) (by kernel_rfl) (by kernel_rfl) (by kernel_rfl)) ?_
 intro W base args ds gs before hval0 hW hcnd hsz0 _
 have hval : ∀ (j : Nat) t v, Try.f12.params[j]? = some t → args[j]? = some v → Value.okWide Try.prog W .any base t v := hval0
 have hW' := hW
 obtain ⟨p, q, hA0, hV, rfl, hfz, hnd⟩ := hW
 have hA : DataW.TrodAll enc Try.prog W 0 (fun _ => true) true Try.f12.params.toList args.toList ds p := hA0
 rw [Try.params12] at hA hval
 obtain ⟨v0, vs0, d0, ds0, p0, q0, hargs, rfl, rfl, h0, r0⟩ := trodAll_cons hA
 obtain ⟨v1, vs1, d1, ds1, p1, q1, rfl, rfl, rfl, h1, r1⟩ := trodAll_cons r0
 obtain ⟨rfl, rfl, rfl⟩ := trodAll_nil r1
 obtain rfl : args = #[v0, v1] := by cases args; simp_all
 obtain ⟨rfl, rfl⟩ := trodVars_none hV
 obtain ⟨a0, rfl, rfl, rfl, y0⟩ := open_string Try.underlying9 (hval 0 9 v0 rfl rfl) h0
 obtain ⟨a1, rfl, rfl, rfl, y1⟩ := open_string Try.underlying9 (hval 1 9 v1 rfl rfl) h1
 clear hA0 hval0 hsz0
 obtain ⟨k, h⟩ := Pure.LoopIdles a0 a1 y0 y1
 refine (dropperlaw09_LoopIdles.calls k a0 a1 true W  h).mono fun e W' ⟨he, bel0⟩ => ?_
 have bel : Below W.heap.size W W' := bel0
 subst he
 exact ⟨_, rfl, _, _, _, [], _, [], hW', trodAll_mk1 (shut_bool Try.underlying4 _), (trodAll_cons_mk (shut_string Try.underlying9 y0) (trodAll_cons_mk (shut_string Try.underlying9 y1) trodAll_mk0)), rfl, bel.frame _, fun h => by cases h⟩
theorem over : Rows.loopIdlesRow.holds Try.pinned (OpenSpec.ofChange Rows.loopIdlesSpec) :=
 OpenClaim.holds_of_wide 12 Try.f12 rfl rfl rfl rfl rfl rfl rfl ⟨rfl, rfl, rfl, rfl, rfl⟩ rfl rfl rfl rfl rfl (by kernel_rfl) Try.func12 (by kernel_rfl)
  (of_decide_eq_true (by kernel_rfl)) (by unfold Func.isWrapper; first | (rw [if_pos (by decide +kernel)]; kernel_rfl) | (rw [if_neg (by decide +kernel)]; exact ⟨rfl, rfl⟩))
  (fun os started H enc _ => lifted os started H enc)
theorem proved : Rows.LoopIdlesSaid := over
#print axioms proved
end Go.Proofs.Yteikgnaikeleaaa.loopIdles
namespace Go.Proofs.Yteikgnaikeleaaa
theorem loopIdles_holds : Rows.LoopIdlesSaid := loopIdles.proved
end Go.Proofs.Yteikgnaikeleaaa
