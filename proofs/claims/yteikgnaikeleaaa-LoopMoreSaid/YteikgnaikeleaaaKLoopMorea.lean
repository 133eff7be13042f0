-- Written by wip/pack.py of this repo: texts of this claim, put together.
import Derived.Test.YteikgnaikeleaaaRows
import Derived.WalkKit
import Derived.ProofKit
import Derived.OpenShut
import Derived.ShutString
import Derived.ChangeOld
import Derived.Below
import Derived.SizedLaws
import Derived.Test.YteikgnaikeleaaaKLoope
namespace Go.Proofs.Yteikgnaikeleaaa.XLoop
open Go.RowKit Go.Proofs.YteikgnaikeleaaaW.PrintWords Go.Proofs.YteikgnaikeleaaaW.PrintLast Go.Proofs.YteikgnaikeleaaaW.PrintMore
attribute [local go_sem] max2_int min2_int max_two min_two max_three min_three max_four min_four   -- for this text's walks alone
set_option linter.unusedVariables false
set_option linter.unusedSimpArgs false
/-! ### dropperlaw09_choose: function 33 -/
def dropperlaw09_choose.l0 : Nat → Int → Int → Int → Option (Int)
 | 0, _, _, _ => none
 | k + 1, x0, x3, x4 => if x4 < x0 then (if (wrap64 (x4 + 1)) = 0 then (none) else (dropperlaw09_choose.l0 k x0 (wrap64 (Int.tdiv (wrap64 (x3 * (wrap64 (8 - x4)))) (wrap64 (x4 + 1)))) (wrap64 (x4 + 1)))) else (some x3)
def dropperlaw09_choose.f (k : Nat) (a0 : Int) : Option (Int) := dropperlaw09_choose.l0 k a0 1 0
theorem dropperlaw09_choose.mono_l : ∀ k, (∀ y0 y1 y2, LeO (dropperlaw09_choose.l0 k y0 y1 y2) (dropperlaw09_choose.l0 (k + 1) y0 y1 y2))
 | 0 => fun _ _ _ r h => by simp [dropperlaw09_choose.l0] at h
 | k + 1 => by
  have ih0 := dropperlaw09_choose.mono_l k
  ·
   intro y0 y1 y2
   unfold dropperlaw09_choose.l0
   repeat' first
   | (with_reducible exact ih0 _ _ _)
   | (with_reducible exact LeO.refl _)
   | (with_reducible exact LeO.none _)
   | (with_reducible refine LeO.ite ?_ ?_)
   | (with_reducible refine LeO.bind ?_ (fun _ => ?_))
   | exact ih0 _ _ _
   | exact LeO.none _
   | refine LeO.ite ?_ ?_
   | refine LeO.bind ?_ (fun _ => ?_)
theorem dropperlaw09_choose.mono : ∀ a0 k, LeO (dropperlaw09_choose.f k a0) (dropperlaw09_choose.f (k + 1) a0) := by
 intro a0 k
 have ih0 := dropperlaw09_choose.mono_l k
 unfold dropperlaw09_choose.f
 repeat' first
   | (with_reducible exact ih0 _ _ _)
   | (with_reducible exact LeO.refl _)
   | (with_reducible exact LeO.none _)
   | (with_reducible refine LeO.ite ?_ ?_)
   | (with_reducible refine LeO.bind ?_ (fun _ => ?_))
   | exact ih0 _ _ _
   | exact LeO.none _
   | refine LeO.ite ?_ ?_
   | refine LeO.bind ?_ (fun _ => ?_)
set_option maxHeartbeats 8000000 in
set_option maxRecDepth 100000 in
theorem dropperlaw09_choose.calls (k : Nat) (a0 : Int) (r : Int) (w : World) (h : dropperlaw09_choose.f k a0 = some r) :
  Calls Try.prog 33 #[.int .i64 a0] w fun e w' => e = .returned (.int .i64 r) ∧ Drawn0 w w' := by
 have H : (dropperlaw09_choose.l0 k a0 1 0) = some r := h
 clear h
 have H' := Aside0.mk H
 clear H
 go_enter Try.func33, Try.ntmps33
 go_wp2
 go_loopg [3, 4] k (fun kq v3 v4 w' => ∃ (x3_1 : Int) (x4_1 : Int), v3 = .int .i64 x3_1 ∧ v4 = .int .i64 x4_1 ∧ Aside0 (dropperlaw09_choose.l0 kq a0 x3_1 x4_1 = some r) ∧ Aside0 (kq ≤ k) ∧ Drawn0 w w')
 case atStart => exact ⟨(1), (0), rsz, rsz, H', ⟨Nat.le_refl _⟩, drz⟩
 case round =>
  clear H'
  obtain ⟨x3_1, x4_1, rfl, rfl, HA, HK1, ⟨m1, rfl⟩⟩ := hrel
  cases gk with
  | zero => exact absurd HA.out (by simp [dropperlaw09_choose.l0])
  | succ k1 =>
   have H := HA.out
   clear HA
   simp only [dropperlaw09_choose.l0] at H
   by_cases c2 : x4_1 < a0
   ·
    rw [if_pos c2] at H
    have c2b0 : decide (x4_1 < a0) = true := decide_eq_true c2
    clear c2
    by_cases c3 : (wrap64 (x4_1 + 1)) = 0
    ·
     rw [if_pos c3] at H
     exact absurd H (by simp)
    ·
     rw [if_neg c3] at H
     have c3b0 : ((wrap64 (x4_1 + 1)) == 0) = false := beq_eq_false_iff_ne.mpr c3
     have c3b1 : ((wrap64 (x4_1 + 1)) != 0) = true := bne_iff_ne.mpr c3
     have H' := Aside0.mk H
     clear H
     go_wp2
     go_roundg k1
     case measure => have := HK1.out; omega
     case rel => exact ⟨(wrap64 (Int.tdiv (wrap64 (x3_1 * (wrap64 (8 - x4_1)))) (wrap64 (x4_1 + 1)))), (wrap64 (x4_1 + 1)), rsz, rsz, H', ⟨by have := HK1.out; omega⟩, drz⟩
   ·
    rw [if_neg c2] at H
    have c2b0 : decide (x4_1 < a0) = false := decide_eq_false c2
    clear c2
    obtain rfl := Option.some.inj H
    go_wp2
    go_ret
    exact ⟨by first | rfl | (simp; done) | (simp [*]; done), drz⟩

/-! ### dropperlaw09_LoopMore: function 5 -/
mutual
def dropperlaw09_LoopMore.j0 : Nat → ByteArray → Bool → Option (Bool)
 | 0, _, _ => none
 | k + 1, x0, x16 => if x16 = true then ((dropperlaw09_First.f k).bind fun t144 => (some t144)) else ((loop_Dual.f x0).bind fun bt145 => (if bt145.2 = 0 then (dropperlaw09_LoopMore.j1 k x0 bt145.1 bt145.2 false) else (dropperlaw09_LoopMore.j1 k x0 bt145.1 bt145.2 (bt145.2 != 4))))
def dropperlaw09_LoopMore.j1 : Nat → ByteArray → ByteArray → Int → Bool → Option (Bool)
 | 0, _, _, _, _ => none
 | k + 1, x0, x3, x4, x28 => if x28 = true then (none) else (dropperlaw09_LoopMore.l0 k x0 x3 x4 0 0)
def dropperlaw09_LoopMore.l0 : Nat → ByteArray → ByteArray → Int → Int → Int → Option (Bool)
 | 0, _, _, _, _, _ => none
 | k + 1, x0, x3, x4, x5, x6 => if x6 ≤ 8 then ((loop_Number.f x0 x6).bind fun bt148 => (if bt148.2 = 0 then (if x6 = 0 then (if bt148.1 = 0 then (if x6 = 8 then (if bt148.1 = 1 then (if x6 > 0 then ((dropperlaw09_choose.f k (wrap64 (x6 - 1))).bind fun t150 => ((dropperlaw09_choose.f k x6).bind fun t151 => (dropperlaw09_LoopMore.j3 k x0 x3 x4 x6 bt148.1 (decide ((wrap64 (bt148.1 * t150)) < (wrap64 (x5 * t151))))))) else (dropperlaw09_LoopMore.j3 k x0 x3 x4 x6 bt148.1 false)) else (dropperlaw09_LoopMore.j3 k x0 x3 x4 x6 bt148.1 true)) else (if x6 > 0 then ((dropperlaw09_choose.f k (wrap64 (x6 - 1))).bind fun t152 => ((dropperlaw09_choose.f k x6).bind fun t153 => (dropperlaw09_LoopMore.j3 k x0 x3 x4 x6 bt148.1 (decide ((wrap64 (bt148.1 * t152)) < (wrap64 (x5 * t153))))))) else (dropperlaw09_LoopMore.j3 k x0 x3 x4 x6 bt148.1 false))) else (dropperlaw09_LoopMore.j3 k x0 x3 x4 x6 bt148.1 true)) else (if x6 = 8 then (if bt148.1 = 1 then (if x6 > 0 then ((dropperlaw09_choose.f k (wrap64 (x6 - 1))).bind fun t154 => ((dropperlaw09_choose.f k x6).bind fun t155 => (dropperlaw09_LoopMore.j3 k x0 x3 x4 x6 bt148.1 (decide ((wrap64 (bt148.1 * t154)) < (wrap64 (x5 * t155))))))) else (dropperlaw09_LoopMore.j3 k x0 x3 x4 x6 bt148.1 false)) else (dropperlaw09_LoopMore.j3 k x0 x3 x4 x6 bt148.1 true)) else (if x6 > 0 then ((dropperlaw09_choose.f k (wrap64 (x6 - 1))).bind fun t156 => ((dropperlaw09_choose.f k x6).bind fun t157 => (dropperlaw09_LoopMore.j3 k x0 x3 x4 x6 bt148.1 (decide ((wrap64 (bt148.1 * t156)) < (wrap64 (x5 * t157))))))) else (dropperlaw09_LoopMore.j3 k x0 x3 x4 x6 bt148.1 false)))) else (dropperlaw09_LoopMore.j3 k x0 x3 x4 x6 bt148.1 true))) else ((dropperlaw09_First.f k).bind fun t147 => (some t147))
def dropperlaw09_LoopMore.j3 : Nat → ByteArray → ByteArray → Int → Int → Int → Bool → Option (Bool)
 | 0, _, _, _, _, _, _ => none
 | k + 1, x0, x3, x4, x6, x7, x72 => if x72 = true then (none) else (if x4 = 0 then ((loop_Number.f x3 (wrap64 (8 - x6))).bind fun bt158 => (if bt158.2 = 0 then ((dropperlaw09_choose.f k x6).bind fun t160 => (if (wrap64 (x7 + bt158.1)) = t160 then (dropperlaw09_LoopMore.l0 k x0 x3 x4 x7 (wrap64 (x6 + 1))) else (none))) else (none))) else (dropperlaw09_LoopMore.l0 k x0 x3 x4 x7 (wrap64 (x6 + 1))))
end
def dropperlaw09_LoopMore.f (k : Nat) (a0 : ByteArray) : Option (Bool) := (dropperlaw09_Long.f a0 (⟨#[]⟩ : ByteArray)).bind fun t142 => (if t142 = true then (dropperlaw09_LoopMore.j0 k a0 true) else ((dropperref09_Valid.f a0).bind fun t143 => (dropperlaw09_LoopMore.j0 k a0 (!t143))))
set_option maxHeartbeats 8000000 in
set_option maxRecDepth 100000 in
theorem dropperlaw09_LoopMore.calls (k : Nat) (a0 : ByteArray) (r : Bool) (w : World) (h : dropperlaw09_LoopMore.f k a0 = some r) :
  Calls Try.prog 5 #[.string a0] w fun e w' => e = .returned (.bool r) ∧ Below w.heap.size w w' := by
 have HB := Aside0.mk (Below.refl w.heap.size w)
 have H : ((dropperlaw09_Long.f a0 (⟨#[]⟩ : ByteArray)).bind fun t142 => (if t142 = true then (dropperlaw09_LoopMore.j0 k a0 true) else ((dropperref09_Valid.f a0).bind fun t143 => (dropperlaw09_LoopMore.j0 k a0 (!t143))))) = some r := h
 clear h
 have HC2 := Aside0.mk H
 clear H
 go_enter Try.func5, Try.ntmps5
 go_upto_region 1 with (fail)
 go_cut [16] (fun v16 wc => ∃ (kq : Nat) (x16_1 : Bool), v16 = .bool x16_1 ∧ Aside0 (dropperlaw09_LoopMore.j0 kq a0 x16_1 = some r) ∧ Aside0 (kq ≤ k) ∧ Aside0 (Below w.heap.size w wc))
 case first =>
  have H := HC2.out
  clear HC2
  replace H := Option.bind_eq_some_iff.mp H
  obtain ⟨t142, A30, H⟩ := H
  try dsimp only at H
  have A3 := Aside0.mk A30
  clear A30
  by_cases c4 : t142 = true
  ·
   subst c4
   rw [if_pos rfl] at H
   have H' := Aside0.mk H
   clear H
   go_wp2_with (first | ((with_reducible refine gate_callee (f := 14) rfl ?_); refine goesL_ (some 11) rfl rfl Try.func14 (by kernel_rfl) rfl #[.string a0, .string (⟨#[]⟩ : ByteArray)] rfl mapz ?_; (with_reducible refine (dropperlaw09_Long.calls a0 (⟨#[]⟩ : ByteArray) true _ A3.out).mono ?_); rintro e w' ⟨rfl, ⟨nd, rfl⟩⟩; refine ⟨_, rfl, ?_⟩))
   go_meet
   case rel => exact ⟨_, (true), rsz, H', ⟨by first | omega | exact Nat.le_refl _⟩, ⟨bel⟩⟩
  ·
   replace c4 := Bool.eq_false_iff.mpr c4
   subst c4
   rw [if_neg (show ¬ (false = true) by decide)] at H
   replace H := Option.bind_eq_some_iff.mp H
   obtain ⟨t143, A50, H⟩ := H
   try dsimp only at H
   have A5 := Aside0.mk A50
   clear A50
   have H' := Aside0.mk H
   clear H
   go_wp2_with (first | ((with_reducible refine gate_callee (f := 14) rfl ?_); refine goesL_ (some 11) rfl rfl Try.func14 (by kernel_rfl) rfl #[.string a0, .string (⟨#[]⟩ : ByteArray)] rfl mapz ?_; (with_reducible refine (dropperlaw09_Long.calls a0 (⟨#[]⟩ : ByteArray) false _ A3.out).mono ?_); rintro e w' ⟨rfl, ⟨nd, rfl⟩⟩; refine ⟨_, rfl, ?_⟩) | (go_at_call 21; (with_reducible refine (dropperref09_Valid.calls a0 t143 _ A5.out).mono ?_); rintro e w6 ⟨rfl, hb⟩; replace HB := Aside0.mk (below_step bel hb); clear hb))
   go_meet
   case rel => exact ⟨_, (!t143), rsz, H', ⟨by first | omega | exact Nat.le_refl _⟩, ⟨bel⟩⟩
 case rest =>
  clear HC2
  (try clear c1); (try clear p2); (try clear c4); (try clear c5)
  obtain ⟨kq, x16_1, rfl, HA, HJ1, HB⟩ := hcut
  cases kq with
  | zero => exact absurd HA.out (by simp [dropperlaw09_LoopMore.j0])
  | succ kj1 =>
   have H := HA.out
   clear HA
   simp only [dropperlaw09_LoopMore.j0] at H
   by_cases c7 : x16_1 = true
   ·
    subst c7
    rw [if_pos rfl] at H
    replace H := Option.bind_eq_some_iff.mp H
    obtain ⟨t144, A80, H⟩ := H
    try dsimp only at H
    have A8 := Aside0.mk A80
    clear A80
    obtain rfl := Option.some.inj H
    go_wp2_with (first | ((with_reducible refine gate_callee (f := 15) rfl ?_); refine goesL_ (some 17) rfl rfl Try.func15 (by kernel_rfl) rfl #[] rfl mapz ?_; (with_reducible refine (dropperlaw09_First.calls kj1  t144 _ A8.out).mono ?_); rintro e w9 ⟨rfl, hb⟩; refine ⟨_, rfl, ?_⟩; replace HB := Aside0.mk (below_step bel hb); clear hb))
    go_ret
    exact ⟨ezz, bel⟩
   ·
    replace c7 := Bool.eq_false_iff.mpr c7
    subst c7
    rw [if_neg (show ¬ (false = true) by decide)] at H
    replace H := Option.bind_eq_some_iff.mp H
    obtain ⟨⟨t145, t146⟩, A100, H⟩ := H
    try dsimp only at H
    have A10 := Aside0.mk A100
    clear A100
    have HC11 := Aside0.mk H
    clear H
    go_upto_region 4 with (first | ((with_reducible refine gate_callee (f := 28) rfl ?_); refine goesL_ (some 20) rfl rfl Try.func28 (by kernel_rfl) rfl #[.string a0] rfl mapz ?_; (with_reducible refine (loop_Dual.calls a0 t145 t146 _ A10.out).mono ?_); rintro e w12 ⟨rfl, hb⟩; refine ⟨_, rfl, ?_⟩; replace HB := Aside0.mk (below_step bel hb); clear hb))
    (try simp only [Act.put, List.setIfInBounds_toArray, List.set_cons_zero, List.set_cons_succ])
    go_cut [28] (fun v28 wc => ∃ (kq : Nat) (x28_10 : Bool), v28 = .bool x28_10 ∧ Aside0 (dropperlaw09_LoopMore.j1 kq a0 t145 t146 x28_10 = some r) ∧ Aside0 (kq ≤ kj1) ∧ Aside0 (Below w.heap.size w wc))
    case first =>
     have H := HC11.out
     clear HC11
     by_cases c13 : t146 = 0
     ·
      rw [if_pos c13] at H
      have c13b0 : (t146 == 0) = true := beq_iff_eq.mpr c13
      have c13b1 : (t146 != 0) = false := bne_eq_false_iff_eq.mpr c13
      clear c13
      (first | rw [c13b0] | (simp only [i64_w, i32_w]; rw [c13b0]) | skip)
      have H' := Aside0.mk H
      clear H
      go_wp2
      go_meet
      case rel => exact ⟨_, (false), rsz, H', ⟨by have := HJ1.out; first | omega | exact Nat.le_refl _⟩, ⟨bel⟩⟩
     ·
      rw [if_neg c13] at H
      have c13b0 : (t146 == 0) = false := beq_eq_false_iff_ne.mpr c13
      have c13b1 : (t146 != 0) = true := bne_iff_ne.mpr c13
      (first | rw [c13b0] | (simp only [i64_w, i32_w]; rw [c13b0]) | skip)
      have H' := Aside0.mk H
      clear H
      go_wp2
      go_meet
      case rel => exact ⟨_, ((t146 != 4)), rsz, H', ⟨by have := HJ1.out; first | omega | exact Nat.le_refl _⟩, ⟨bel⟩⟩
    case rest =>
     clear HC11
     (try clear c1); (try clear c2); (try clear p2); (try clear c4); (try clear c5); (try clear c7); (try clear c13); (try clear c13b0); (try clear c13b1); (try clear p2)
     obtain ⟨kq, x28_10, rfl, HA, HJ10, HB⟩ := hcut
     cases kq with
     | zero => exact absurd HA.out (by simp [dropperlaw09_LoopMore.j1])
     | succ kj10 =>
      have H := HA.out
      clear HA
      simp only [dropperlaw09_LoopMore.j1] at H
      by_cases c14 : x28_10 = true
      ·
       subst c14
       rw [if_pos rfl] at H
       exact absurd H (by simp)
      ·
       replace c14 := Bool.eq_false_iff.mpr c14
       subst c14
       rw [if_neg (show ¬ (false = true) by decide)] at H
       have H' := Aside0.mk H
       clear H
       go_wp2
       go_loopg [5, 6] kj10 (fun kq v5 v6 w' => ∃ (x5_3 : Int) (x6_3 : Int), v5 = .int .i64 x5_3 ∧ v6 = .int .i64 x6_3 ∧ Aside0 (dropperlaw09_LoopMore.l0 kq a0 t145 t146 x5_3 x6_3 = some r) ∧ Aside0 (kq ≤ kj10) ∧ Aside0 (Below w.heap.size w w'))
       case atStart => exact ⟨(0), (0), rsz, rsz, H', ⟨Nat.le_refl _⟩, ⟨bel⟩⟩
       case round =>
        clear H'
        (try clear c1); (try clear c2); (try clear p2); (try clear c4); (try clear c5); (try clear c7); (try clear c13); (try clear c13b0); (try clear c13b1); (try clear c14); (try clear p2)
        obtain ⟨x5_3, x6_3, rfl, rfl, HA, HK3, HB⟩ := hrel
        cases gk with
        | zero => exact absurd HA.out (by simp [dropperlaw09_LoopMore.l0])
        | succ k3 =>
         have H := HA.out
         clear HA
         simp only [dropperlaw09_LoopMore.l0] at H
         by_cases c15 : x6_3 ≤ 8
         ·
          rw [if_pos c15] at H
          have c15b0 : decide (x6_3 ≤ 8) = true := decide_eq_true c15
          clear c15
          replace H := Option.bind_eq_some_iff.mp H
          obtain ⟨⟨t148, t149⟩, A160, H⟩ := H
          try dsimp only at H
          have A16 := Aside0.mk A160
          clear A160
          have HC17 := Aside0.mk H
          clear H
          go_upto_region 11 with (first | ((with_reducible refine gate_callee (f := 32) rfl ?_); refine goesL_ (some 36) rfl rfl Try.func32 (by kernel_rfl) rfl #[.string a0, .int .i64 x6_3] rfl mapz ?_; (with_reducible refine (loop_Number.calls a0 x6_3 t148 t149 _ A16.out).mono ?_); rintro e w18 ⟨rfl, hb⟩; refine ⟨_, rfl, ?_⟩; replace HB := Aside0.mk (below_step bel hb); clear hb))
          (try simp only [Act.put, List.setIfInBounds_toArray, List.set_cons_zero, List.set_cons_succ])
          go_cut [72] (fun v72 wc => ∃ (kq : Nat) (x72_16 : Bool), v72 = .bool x72_16 ∧ Aside0 (dropperlaw09_LoopMore.j3 kq a0 t145 t146 x6_3 t148 x72_16 = some r) ∧ Aside0 (kq ≤ k3) ∧ Aside0 (Below w.heap.size w wc))
          case first =>
           have H := HC17.out
           clear HC17
           by_cases c19 : t149 = 0
           ·
            rw [if_pos c19] at H
            have c19b0 : (t149 == 0) = true := beq_iff_eq.mpr c19
            have c19b1 : (t149 != 0) = false := bne_eq_false_iff_eq.mpr c19
            clear c19
            (first | rw [c19b0] | (simp only [i64_w, i32_w]; rw [c19b0]) | skip)
            by_cases c20 : x6_3 = 0
            ·
             rw [if_pos c20] at H
             have c20b0 : (x6_3 == 0) = true := beq_iff_eq.mpr c20
             have c20b1 : (x6_3 != 0) = false := bne_eq_false_iff_eq.mpr c20
             clear c20
             by_cases c21 : t148 = 0
             ·
              rw [if_pos c21] at H
              have c21b0 : (t148 == 0) = true := beq_iff_eq.mpr c21
              have c21b1 : (t148 != 0) = false := bne_eq_false_iff_eq.mpr c21
              clear c21
              by_cases c22 : x6_3 = 8
              ·
               rw [if_pos c22] at H
               have c22b0 : (x6_3 == 8) = true := beq_iff_eq.mpr c22
               have c22b1 : (x6_3 != 8) = false := bne_eq_false_iff_eq.mpr c22
               clear c22
               by_cases c23 : t148 = 1
               ·
                rw [if_pos c23] at H
                have c23b0 : (t148 == 1) = true := beq_iff_eq.mpr c23
                have c23b1 : (t148 != 1) = false := bne_eq_false_iff_eq.mpr c23
                clear c23
                by_cases c24 : x6_3 > 0
                ·
                 rw [if_pos c24] at H
                 have c24b0 : decide (0 < x6_3) = true := decide_eq_true c24
                 clear c24
                 replace H := Option.bind_eq_some_iff.mp H
                 obtain ⟨t150, A250, H⟩ := H
                 try dsimp only at H
                 have A25 := Aside0.mk A250
                 clear A250
                 replace H := Option.bind_eq_some_iff.mp H
                 obtain ⟨t151, A260, H⟩ := H
                 try dsimp only at H
                 have A26 := Aside0.mk A260
                 clear A260
                 have H' := Aside0.mk H
                 clear H
                 go_wp2_with (first | (go_at_call 33; (with_reducible refine (dropperlaw09_choose.calls k3 (wrap64 (x6_3 - 1)) t150 _ A25.out).mono ?_); rintro e w' ⟨rfl, ⟨nd, rfl⟩⟩) | (go_at_call 33; (with_reducible refine (dropperlaw09_choose.calls k3 x6_3 t151 _ A26.out).mono ?_); rintro e w' ⟨rfl, ⟨nd, rfl⟩⟩))
                 go_meet
                 case rel => exact ⟨_, (decide ((wrap64 (t148 * t150)) < (wrap64 (x5_3 * t151)))), rsz, H', ⟨by have := HJ1.out; have := HJ10.out; have := HK3.out; first | omega | exact Nat.le_refl _⟩, ⟨bel⟩⟩
                ·
                 rw [if_neg c24] at H
                 have c24b0 : decide (0 < x6_3) = false := decide_eq_false c24
                 clear c24
                 have H' := Aside0.mk H
                 clear H
                 go_wp2
                 go_meet
                 case rel => exact ⟨_, (false), rsz, H', ⟨by have := HJ1.out; have := HJ10.out; have := HK3.out; first | omega | exact Nat.le_refl _⟩, ⟨bel⟩⟩
               ·
                rw [if_neg c23] at H
                have c23b0 : (t148 == 1) = false := beq_eq_false_iff_ne.mpr c23
                have c23b1 : (t148 != 1) = true := bne_iff_ne.mpr c23
                have H' := Aside0.mk H
                clear H
                go_wp2
                go_meet
                case rel => exact ⟨_, (true), rsz, H', ⟨by have := HJ1.out; have := HJ10.out; have := HK3.out; first | omega | exact Nat.le_refl _⟩, ⟨bel⟩⟩
              ·
               rw [if_neg c22] at H
               have c22b0 : (x6_3 == 8) = false := beq_eq_false_iff_ne.mpr c22
               have c22b1 : (x6_3 != 8) = true := bne_iff_ne.mpr c22
               by_cases c27 : x6_3 > 0
               ·
                rw [if_pos c27] at H
                have c27b0 : decide (0 < x6_3) = true := decide_eq_true c27
                clear c27
                replace H := Option.bind_eq_some_iff.mp H
                obtain ⟨t152, A280, H⟩ := H
                try dsimp only at H
                have A28 := Aside0.mk A280
                clear A280
                replace H := Option.bind_eq_some_iff.mp H
                obtain ⟨t153, A290, H⟩ := H
                try dsimp only at H
                have A29 := Aside0.mk A290
                clear A290
                have H' := Aside0.mk H
                clear H
                go_wp2_with (first | (go_at_call 33; (with_reducible refine (dropperlaw09_choose.calls k3 (wrap64 (x6_3 - 1)) t152 _ A28.out).mono ?_); rintro e w' ⟨rfl, ⟨nd, rfl⟩⟩) | (go_at_call 33; (with_reducible refine (dropperlaw09_choose.calls k3 x6_3 t153 _ A29.out).mono ?_); rintro e w' ⟨rfl, ⟨nd, rfl⟩⟩))
                go_meet
                case rel => exact ⟨_, (decide ((wrap64 (t148 * t152)) < (wrap64 (x5_3 * t153)))), rsz, H', ⟨by have := HJ1.out; have := HJ10.out; have := HK3.out; first | omega | exact Nat.le_refl _⟩, ⟨bel⟩⟩
               ·
                rw [if_neg c27] at H
                have c27b0 : decide (0 < x6_3) = false := decide_eq_false c27
                clear c27
                have H' := Aside0.mk H
                clear H
                go_wp2
                go_meet
                case rel => exact ⟨_, (false), rsz, H', ⟨by have := HJ1.out; have := HJ10.out; have := HK3.out; first | omega | exact Nat.le_refl _⟩, ⟨bel⟩⟩
             ·
              rw [if_neg c21] at H
              have c21b0 : (t148 == 0) = false := beq_eq_false_iff_ne.mpr c21
              have c21b1 : (t148 != 0) = true := bne_iff_ne.mpr c21
              have H' := Aside0.mk H
              clear H
              go_wp2
              go_meet
              case rel => exact ⟨_, (true), rsz, H', ⟨by have := HJ1.out; have := HJ10.out; have := HK3.out; first | omega | exact Nat.le_refl _⟩, ⟨bel⟩⟩
            ·
             rw [if_neg c20] at H
             have c20b0 : (x6_3 == 0) = false := beq_eq_false_iff_ne.mpr c20
             have c20b1 : (x6_3 != 0) = true := bne_iff_ne.mpr c20
             by_cases c30 : x6_3 = 8
             ·
              rw [if_pos c30] at H
              have c30b0 : (x6_3 == 8) = true := beq_iff_eq.mpr c30
              have c30b1 : (x6_3 != 8) = false := bne_eq_false_iff_eq.mpr c30
              clear c30
              by_cases c31 : t148 = 1
              ·
               rw [if_pos c31] at H
               have c31b0 : (t148 == 1) = true := beq_iff_eq.mpr c31
               have c31b1 : (t148 != 1) = false := bne_eq_false_iff_eq.mpr c31
               clear c31
               by_cases c32 : x6_3 > 0
               ·
                rw [if_pos c32] at H
                have c32b0 : decide (0 < x6_3) = true := decide_eq_true c32
                clear c32
                replace H := Option.bind_eq_some_iff.mp H
                obtain ⟨t154, A330, H⟩ := H
                try dsimp only at H
                have A33 := Aside0.mk A330
                clear A330
                replace H := Option.bind_eq_some_iff.mp H
                obtain ⟨t155, A340, H⟩ := H
                try dsimp only at H
                have A34 := Aside0.mk A340
                clear A340
                have H' := Aside0.mk H
                clear H
                go_wp2_with (first | (go_at_call 33; (with_reducible refine (dropperlaw09_choose.calls k3 (wrap64 (x6_3 - 1)) t154 _ A33.out).mono ?_); rintro e w' ⟨rfl, ⟨nd, rfl⟩⟩) | (go_at_call 33; (with_reducible refine (dropperlaw09_choose.calls k3 x6_3 t155 _ A34.out).mono ?_); rintro e w' ⟨rfl, ⟨nd, rfl⟩⟩))
                go_meet
                case rel => exact ⟨_, (decide ((wrap64 (t148 * t154)) < (wrap64 (x5_3 * t155)))), rsz, H', ⟨by have := HJ1.out; have := HJ10.out; have := HK3.out; first | omega | exact Nat.le_refl _⟩, ⟨bel⟩⟩
               ·
                rw [if_neg c32] at H
                have c32b0 : decide (0 < x6_3) = false := decide_eq_false c32
                clear c32
                have H' := Aside0.mk H
                clear H
                go_wp2
                go_meet
                case rel => exact ⟨_, (false), rsz, H', ⟨by have := HJ1.out; have := HJ10.out; have := HK3.out; first | omega | exact Nat.le_refl _⟩, ⟨bel⟩⟩
              ·
               rw [if_neg c31] at H
               have c31b0 : (t148 == 1) = false := beq_eq_false_iff_ne.mpr c31
               have c31b1 : (t148 != 1) = true := bne_iff_ne.mpr c31
               have H' := Aside0.mk H
               clear H
               go_wp2
               go_meet
               case rel => exact ⟨_, (true), rsz, H', ⟨by have := HJ1.out; have := HJ10.out; have := HK3.out; first | omega | exact Nat.le_refl _⟩, ⟨bel⟩⟩
             ·
              rw [if_neg c30] at H
              have c30b0 : (x6_3 == 8) = false := beq_eq_false_iff_ne.mpr c30
              have c30b1 : (x6_3 != 8) = true := bne_iff_ne.mpr c30
              by_cases c35 : x6_3 > 0
              ·
               rw [if_pos c35] at H
               have c35b0 : decide (0 < x6_3) = true := decide_eq_true c35
               clear c35
               replace H := Option.bind_eq_some_iff.mp H
               obtain ⟨t156, A360, H⟩ := H
               try dsimp only at H
               have A36 := Aside0.mk A360
               clear A360
               replace H := Option.bind_eq_some_iff.mp H
               obtain ⟨t157, A370, H⟩ := H
               try dsimp only at H
               have A37 := Aside0.mk A370
               clear A370
               have H' := Aside0.mk H
               clear H
               go_wp2_with (first | (go_at_call 33; (with_reducible refine (dropperlaw09_choose.calls k3 (wrap64 (x6_3 - 1)) t156 _ A36.out).mono ?_); rintro e w' ⟨rfl, ⟨nd, rfl⟩⟩) | (go_at_call 33; (with_reducible refine (dropperlaw09_choose.calls k3 x6_3 t157 _ A37.out).mono ?_); rintro e w' ⟨rfl, ⟨nd, rfl⟩⟩))
               go_meet
               case rel => exact ⟨_, (decide ((wrap64 (t148 * t156)) < (wrap64 (x5_3 * t157)))), rsz, H', ⟨by have := HJ1.out; have := HJ10.out; have := HK3.out; first | omega | exact Nat.le_refl _⟩, ⟨bel⟩⟩
              ·
               rw [if_neg c35] at H
               have c35b0 : decide (0 < x6_3) = false := decide_eq_false c35
               clear c35
               have H' := Aside0.mk H
               clear H
               go_wp2
               go_meet
               case rel => exact ⟨_, (false), rsz, H', ⟨by have := HJ1.out; have := HJ10.out; have := HK3.out; first | omega | exact Nat.le_refl _⟩, ⟨bel⟩⟩
           ·
            rw [if_neg c19] at H
            have c19b0 : (t149 == 0) = false := beq_eq_false_iff_ne.mpr c19
            have c19b1 : (t149 != 0) = true := bne_iff_ne.mpr c19
            (first | rw [c19b0] | (simp only [i64_w, i32_w]; rw [c19b0]) | skip)
            have H' := Aside0.mk H
            clear H
            go_wp2
            go_meet
            case rel => exact ⟨_, (true), rsz, H', ⟨by have := HJ1.out; have := HJ10.out; have := HK3.out; first | omega | exact Nat.le_refl _⟩, ⟨bel⟩⟩
          case rest =>
           clear HC17
           (try clear c1); (try clear c2); (try clear p2); (try clear c3); (try clear c4); (try clear c5); (try clear p6); (try clear c7); (try clear c13); (try clear c13b0); (try clear c13b1); (try clear c14); (try clear c15); (try clear c15b0); (try clear c19); (try clear c19b0); (try clear c19b1); (try clear c20); (try clear c20b0); (try clear c20b1); (try clear c21); (try clear c21b0); (try clear c21b1); (try clear c22); (try clear c22b0); (try clear c22b1); (try clear c23); (try clear c23b0); (try clear c23b1); (try clear c24); (try clear c24b0); (try clear c27); (try clear c27b0); (try clear c28); (try clear c30); (try clear c30b0); (try clear c30b1); (try clear c31); (try clear c31b0); (try clear c31b1); (try clear c32); (try clear c32b0); (try clear c35); (try clear c35b0); (try clear p2)
           obtain ⟨kq, x72_16, rfl, HA, HJ16, HB⟩ := hcut
           cases kq with
           | zero => exact absurd HA.out (by simp [dropperlaw09_LoopMore.j3])
           | succ kj16 =>
            have H := HA.out
            clear HA
            simp only [dropperlaw09_LoopMore.j3] at H
            by_cases c38 : x72_16 = true
            ·
             subst c38
             rw [if_pos rfl] at H
             exact absurd H (by simp)
            ·
             replace c38 := Bool.eq_false_iff.mpr c38
             subst c38
             rw [if_neg (show ¬ (false = true) by decide)] at H
             by_cases c39 : t146 = 0
             ·
              rw [if_pos c39] at H
              have c39b0 : (t146 == 0) = true := beq_iff_eq.mpr c39
              have c39b1 : (t146 != 0) = false := bne_eq_false_iff_eq.mpr c39
              clear c39
              replace H := Option.bind_eq_some_iff.mp H
              obtain ⟨⟨t158, t159⟩, A400, H⟩ := H
              try dsimp only at H
              have A40 := Aside0.mk A400
              clear A400
              by_cases c41 : t159 = 0
              ·
               rw [if_pos c41] at H
               have c41b0 : (t159 == 0) = true := beq_iff_eq.mpr c41
               have c41b1 : (t159 != 0) = false := bne_eq_false_iff_eq.mpr c41
               clear c41
               replace H := Option.bind_eq_some_iff.mp H
               obtain ⟨t160, A420, H⟩ := H
               try dsimp only at H
               have A42 := Aside0.mk A420
               clear A420
               by_cases c43 : (wrap64 (t148 + t158)) = t160
               ·
                rw [if_pos c43] at H
                have c43b0 : ((wrap64 (t148 + t158)) == t160) = true := beq_iff_eq.mpr c43
                have c43b1 : ((wrap64 (t148 + t158)) != t160) = false := bne_eq_false_iff_eq.mpr c43
                clear c43
                have H' := Aside0.mk H
                clear H
                go_wp2_with (first | ((with_reducible refine gate_callee (f := 32) rfl ?_); refine goesL_ (some 80) rfl rfl Try.func32 (by kernel_rfl) rfl #[.string t145, .int .i64 (wrap64 (8 - x6_3))] rfl mapz ?_; (with_reducible refine (loop_Number.calls t145 (wrap64 (8 - x6_3)) t158 t159 _ A40.out).mono ?_); rintro e w44 ⟨rfl, hb⟩; refine ⟨_, rfl, ?_⟩; replace HB := Aside0.mk (below_step bel hb); clear hb) | (go_at_call 33; (with_reducible refine (dropperlaw09_choose.calls kj16 x6_3 t160 _ A42.out).mono ?_); rintro e w' ⟨rfl, ⟨nd, rfl⟩⟩))
                go_roundg kj16
                case measure => have := HJ1.out; have := HJ10.out; have := HK3.out; have := HJ16.out; omega
                case rel => exact ⟨(t148), (wrap64 (x6_3 + 1)), rsz, rsz, H', ⟨by have := HJ1.out; have := HJ10.out; have := HK3.out; have := HJ16.out; omega⟩, ⟨bel⟩⟩
               ·
                rw [if_neg c43] at H
                exact absurd H (by simp)
              ·
               rw [if_neg c41] at H
               exact absurd H (by simp)
             ·
              rw [if_neg c39] at H
              have c39b0 : (t146 == 0) = false := beq_eq_false_iff_ne.mpr c39
              have c39b1 : (t146 != 0) = true := bne_iff_ne.mpr c39
              have H' := Aside0.mk H
              clear H
              go_wp2
              go_roundg kj16
              case measure => have := HJ1.out; have := HJ10.out; have := HK3.out; have := HJ16.out; omega
              case rel => exact ⟨(t148), (wrap64 (x6_3 + 1)), rsz, rsz, H', ⟨by have := HJ1.out; have := HJ10.out; have := HK3.out; have := HJ16.out; omega⟩, ⟨bel⟩⟩
         ·
          rw [if_neg c15] at H
          have c15b0 : decide (x6_3 ≤ 8) = false := decide_eq_false c15
          clear c15
          replace H := Option.bind_eq_some_iff.mp H
          obtain ⟨t147, A450, H⟩ := H
          try dsimp only at H
          have A45 := Aside0.mk A450
          clear A450
          obtain rfl := Option.some.inj H
          go_wp2_with (first | ((with_reducible refine gate_callee (f := 15) rfl ?_); refine goesL_ (some 93) rfl rfl Try.func15 (by kernel_rfl) rfl #[] rfl mapz ?_; (with_reducible refine (dropperlaw09_First.calls k3  t147 _ A45.out).mono ?_); rintro e w46 ⟨rfl, hb⟩; refine ⟨_, rfl, ?_⟩; replace HB := Aside0.mk (below_step bel hb); clear hb))
          go_ret
          exact ⟨ezz, bel⟩

end Go.Proofs.Yteikgnaikeleaaa.XLoop
-- Written by wip/xprint.py of this repo, over the kit's print.py: out of the translation; the oracles in it are by hand. Not trusted: Lean checks it.
namespace Go.Proofs.Yteikgnaikeleaaa.XLoop
open Go.RowKit Go.Proofs.Yteikgnaikeleaaa.XLoop Go.Proofs.YteikgnaikeleaaaW.PrintWords Go.Proofs.YteikgnaikeleaaaW.PrintLast Go.Proofs.YteikgnaikeleaaaW.PrintMore
def dropperlaw09_LoopMore.Pure : Prop := ∀ (a0 : ByteArray), (a0.size ≤ maxLen) → ∃ k, dropperlaw09_LoopMore.f k a0 = some true
end Go.Proofs.Yteikgnaikeleaaa.XLoop

/- How many sets of so many letters: numbers never fall as parts of all, and those of the dual are the others. -/
namespace Go.Proofs.Yteikgnaikeleaaa
set_option linter.unusedVariables false

def cnt (p : Nat → Bool) (j : Nat) (l : List Nat) : Nat := l.countP (fun n => p n && decide (sizeN n = j))
theorem countF_cnt (f : Nat → Bool) (j : Nat) : countF f (j : Int) = cnt f j (List.range 256) := by
 unfold countF cnt
 rw [← List.countP_eq_length_filter]
 congr 1
 funext n
 congr 1
 rw [decide_eq_decide]
 omega
def noBit (i n : Nat) : Bool := !n.testBit i
def yesBit (i n : Nat) : Bool := n.testBit i
theorem up_list : ∀ i : Fin 8, ((List.range 256).filter (noBit i.val)).map (fun n => n + 2 ^ i.val) = (List.range 256).filter (yesBit i.val) := by decide +kernel
theorem up_size : ∀ (i : Fin 8) (n : Fin 256), n.val.testBit i.val = false → sizeN (n.val + 2 ^ i.val) = sizeN n.val + 1 ∧ n.val + 2 ^ i.val < 256 ∧ n.val + 2 ^ i.val = n.val ||| 2 ^ i.val := by decide +kernel
theorem up_count {f : Nat → Bool} (hf : Good f) (i j : Nat) (hi : i < 8) :
  (List.range 256).countP (fun n => (f n && decide (sizeN n = j)) && noBit i n) ≤ (List.range 256).countP (fun n => (f n && decide (sizeN n = j + 1)) && yesBit i n) := by
 have e1 : (List.range 256).countP (fun n => (f n && decide (sizeN n = j)) && noBit i n) = ((List.range 256).filter (noBit i)).countP (fun n => f n && decide (sizeN n = j)) := (List.countP_filter (p := fun n => f n && decide (sizeN n = j)) (q := noBit i)).symm
 have e2 : (List.range 256).countP (fun n => (f n && decide (sizeN n = j + 1)) && yesBit i n) = ((List.range 256).filter (yesBit i)).countP (fun n => f n && decide (sizeN n = j + 1)) := (List.countP_filter (p := fun n => f n && decide (sizeN n = j + 1)) (q := yesBit i)).symm
 have e3 := up_list ⟨i, hi⟩
 simp only at e3
 rw [e1, e2, ← e3, List.countP_map]
 refine List.countP_mono_left (fun n hn h => ?_)
 obtain ⟨h1, h2⟩ := List.mem_filter.1 hn
 have hn6 := List.mem_range.1 h1
 have hb : n.testBit i = false := by
  unfold noBit at h2
  simpa using h2
 obtain ⟨e1, e2, e3⟩ := up_size ⟨i, hi⟩ ⟨n, hn6⟩ hb
 simp only at e1 e2 e3
 simp only [Bool.and_eq_true, decide_eq_true_iff] at h
 simp only [Function.comp_apply, Bool.and_eq_true, decide_eq_true_iff]
 refine ⟨?_, by rw [e1, h.2]⟩
 refine hf.mono n _ (fun k hk => ?_) h.1
 rw [e3, Nat.testBit_or, hk]
 rfl
def sum8 (c : Nat → Nat) : Nat := c 0 + c 1 + c 2 + c 3 + c 4 + c 5 + c 6 + c 7
def one (b : Bool) : Nat := if b then 1 else 0
theorem sum_no : ∀ n : Fin 256, sum8 (fun i => one (noBit i n.val)) + sizeN n.val = 8 := by decide +kernel
theorem sum_yes : ∀ n : Fin 256, sum8 (fun i => one (yesBit i n.val)) = sizeN n.val := by decide +kernel
theorem count_no (p : Nat → Bool) (j : Nat) : ∀ l : List Nat, (∀ n ∈ l, n < 256) → sum8 (fun i => l.countP (fun n => (p n && decide (sizeN n = j)) && noBit i n)) + j * cnt p j l = 8 * cnt p j l
 | [], _ => by simp [sum8, cnt]
 | n :: l, h => by
  have ih := count_no p j l (fun x hx => h x (by simp [hx]))
  have h1 := sum_no ⟨n, h n (by simp)⟩
  have ec : cnt p j (n :: l) = cnt p j l + one (p n && decide (sizeN n = j)) := by unfold cnt one; rw [List.countP_cons]
  have e : ∀ i, (n :: l).countP (fun n => (p n && decide (sizeN n = j)) && noBit i n) = l.countP (fun n => (p n && decide (sizeN n = j)) && noBit i n) + one ((p n && decide (sizeN n = j)) && noBit i n) := by
   intro i
   unfold one
   rw [List.countP_cons]
  simp only [e, ec]
  cases hp : (p n && decide (sizeN n = j)) with
  | false =>
   simp only [Bool.false_and, show one false = 0 from rfl, Nat.add_zero]
   exact ih
  | true =>
   rw [Bool.and_eq_true, decide_eq_true_iff] at hp
   obtain ⟨_, rfl⟩ := hp
   simp only [Bool.true_and, show one true = 1 from rfl, Nat.mul_add, Nat.mul_one]
   simp only [sum8] at ih h1 ⊢
   omega
theorem count_yes (p : Nat → Bool) (j : Nat) : ∀ l : List Nat, (∀ n ∈ l, n < 256) → sum8 (fun i => l.countP (fun n => (p n && decide (sizeN n = j)) && yesBit i n)) = j * cnt p j l
 | [], _ => by simp [sum8, cnt]
 | n :: l, h => by
  have ih := count_yes p j l (fun x hx => h x (by simp [hx]))
  have h1 := sum_yes ⟨n, h n (by simp)⟩
  have ec : cnt p j (n :: l) = cnt p j l + one (p n && decide (sizeN n = j)) := by unfold cnt one; rw [List.countP_cons]
  have e : ∀ i, (n :: l).countP (fun n => (p n && decide (sizeN n = j)) && yesBit i n) = l.countP (fun n => (p n && decide (sizeN n = j)) && yesBit i n) + one ((p n && decide (sizeN n = j)) && yesBit i n) := by
   intro i
   unfold one
   rw [List.countP_cons]
  simp only [e, ec]
  cases hp : (p n && decide (sizeN n = j)) with
  | false =>
   simp only [Bool.false_and, show one false = 0 from rfl, Nat.add_zero]
   exact ih
  | true =>
   rw [Bool.and_eq_true, decide_eq_true_iff] at hp
   obtain ⟨_, rfl⟩ := hp
   simp only [Bool.true_and, show one true = 1 from rfl, Nat.mul_add, Nat.mul_one]
   simp only [sum8] at ih h1 ⊢
   omega
theorem grow {f : Nat → Bool} (hf : Good f) (j : Nat) : 8 * cnt f j (List.range 256) ≤ j * cnt f j (List.range 256) + (j + 1) * cnt f (j + 1) (List.range 256) := by
 have h1 := count_no f j (List.range 256) (fun n hn => List.mem_range.1 hn)
 have h2 := count_yes f (j + 1) (List.range 256) (fun n hn => List.mem_range.1 hn)
 have u := fun i hi => up_count hf i j hi
 have u0 := u 0 (by decide)
 have u1 := u 1 (by decide)
 have u2 := u 2 (by decide)
 have u3 := u 3 (by decide)
 have u4 := u 4 (by decide)
 have u5 := u 5 (by decide)
 have u6 := u 6 (by decide)
 have u7 := u 7 (by decide)
 simp only [sum8] at h1 h2
 omega
theorem cnt_split (f : Nat → Bool) (j : Nat) (l : List Nat) : cnt f j l + cnt (fun n => !f n) j l = cnt (fun _ => true) j l := by
 induction l with
 | nil => rfl
 | cons n l ih =>
  simp only [cnt, List.countP_cons, Bool.true_and] at ih ⊢
  cases f n <;> cases decide (sizeN n = j) <;> simp <;> omega
theorem rev_list : (List.range 256).map (fun n => 255 ^^^ n) = (List.range 256).reverse := by decide +kernel
theorem rev_size : ∀ n : Fin 256, sizeN (255 ^^^ n.val) = 8 - sizeN n.val ∧ sizeN n.val ≤ 8 ∧ 255 ^^^ n.val < 256 ∧ 255 ^^^ (255 ^^^ n.val) = n.val := by decide +kernel
theorem cnt_cut (f : Nat → Bool) (j : Nat) (hj : j ≤ 8) : cnt (cutF f) (8 - j) (List.range 256) = cnt (fun n => !f n) j (List.range 256) := by
 unfold cnt
 rw [show ((List.range 256).countP fun n => !f n && decide (sizeN n = j)) = ((List.range 256).reverse.countP fun n => !f n && decide (sizeN n = j)) from List.countP_reverse.symm, ← rev_list, List.countP_map]
 refine List.countP_congr (fun n hn => ?_)
 have hn6 := List.mem_range.1 hn
 obtain ⟨e1, e2, e3, e4⟩ := rev_size ⟨n, hn6⟩
 simp only at e1 e2 e3 e4
 simp only [Function.comp_apply, cutF, e1, Bool.and_eq_true, decide_eq_true_iff]
 constructor
 ·
  rintro ⟨h1, h2⟩; exact ⟨h1, by omega⟩
 ·
  rintro ⟨h1, h2⟩; exact ⟨h1, by omega⟩
def choose8 (k : Nat) : Nat := cnt (fun _ => true) k (List.range 256)
theorem choose_vals : choose8 0 = 1 ∧ choose8 1 = 8 ∧ choose8 2 = 28 ∧ choose8 3 = 56 ∧ choose8 4 = 70 ∧ choose8 5 = 56 ∧ choose8 6 = 28 ∧ choose8 7 = 8 ∧ choose8 8 = 1 := by decide +kernel
theorem cnt_dual (f : Nat → Bool) (j : Nat) (hj : j ≤ 8) : cnt f j (List.range 256) + cnt (cutF f) (8 - j) (List.range 256) = choose8 j := by
 rw [cnt_cut f j hj]
 exact cnt_split f j _
theorem cnt_le (f : Nat → Bool) (j : Nat) : cnt f j (List.range 256) ≤ choose8 j := by
 have := cnt_split f j (List.range 256)
 unfold choose8
 omega
theorem cnt_zero {f : Nat → Bool} (hf : Good f) : cnt f 0 (List.range 256) = 0 := by
 unfold cnt
 rw [List.countP_eq_zero]
 intro n hn h
 have h1 : ∀ n : Fin 256, sizeN n.val = 0 → n.val = 0 := by decide +kernel
 rw [Bool.and_eq_true, decide_eq_true_iff] at h
 have := h1 ⟨n, List.mem_range.1 hn⟩ h.2
 simp only at this
 rw [this, hf.zero] at h
 cases h.1
theorem cnt_all {f : Nat → Bool} (hf : Good f) : cnt f 8 (List.range 256) = 1 := by
 have h1 := cnt_split f 8 (List.range 256)
 have h2 : cnt (fun n => !f n) 8 (List.range 256) = 0 := by
  unfold cnt
  rw [List.countP_eq_zero]
  intro n hn h
  have h1 : ∀ n : Fin 256, sizeN n.val = 8 → n.val = 255 := by decide +kernel
  rw [Bool.and_eq_true, decide_eq_true_iff] at h
  have := h1 ⟨n, List.mem_range.1 hn⟩ h.2
  simp only at this
  rw [this] at h
  have h5 : (!f 255) = true := h.1
  rw [hf.full] at h5
  cases h5
 have h3 := choose_vals.2.2.2.2.2.2.2.2
 unfold choose8 at h3
 omega
theorem cnt_congr {f g : Nat → Bool} (h : ∀ x, x < 256 → f x = g x) (j : Nat) : cnt f j (List.range 256) = cnt g j (List.range 256) := by
 unfold cnt
 refine List.countP_congr (fun n hn => ?_)
 rw [h n (List.mem_range.1 hn)]
end Go.Proofs.Yteikgnaikeleaaa

/- The numbers never fall as parts of all sets, with all letters a circuit conducts and with none never, and its numbers and those of its dual add up to all. -/
namespace Go.Proofs.Yteikgnaikeleaaa.Pure
set_option linter.unusedVariables false
open Go.RowKit Go.Proofs.Yteikgnaikeleaaa.XLoop Go.Proofs.YteikgnaikeleaaaW.PrintWords Go.Proofs.YteikgnaikeleaaaW.PrintLast Go.Proofs.YteikgnaikeleaaaW.PrintMore

theorem choose_f : ∀ j : Fin 9, dropperlaw09_choose.f 12 (j.val : Int) = some (choose8 j.val : Int) := by decide +kernel
theorem choose_ev (j k : Nat) (hj : j ≤ 8) : dropperlaw09_choose.f (k + 12) (j : Int) = some (choose8 j : Int) := by
 rw [Nat.add_comm]
 exact leO_le (fun k => dropperlaw09_choose.f k (j : Int)) (fun k => dropperlaw09_choose.mono _ k) 12 k _ (choose_f ⟨j, by omega⟩)
def DualOk (f : Nat → Bool) (d : ByteArray) (e : Int) : Prop := e = 4 ∨ e = 0 ∧ ∃ m, parseL d.data.toList = some m ∧ ∀ n, m.f n = cutF f n
theorem number_at (a : ByteArray) (m : Mean) (h : parseL a.data.toList = some m) (j : Nat) (hj : j ≤ 8) : loop_Number.f a (j : Int) = some ((cnt m.f j (List.range 256) : Int), 0) := by
 unfold loop_Number.f numberR
 rw [h]
 simp only
 rw [if_neg (by omega), countF_cnt]
theorem j3_ev (a d : ByteArray) (e : Int) (m : Mean) (h : parseL a.data.toList = some m) (hd : DualOk m.f d e) (j k : Nat) (hj : j ≤ 8) :
  dropperlaw09_LoopMore.j3 (k + 13) a d e (j : Int) (cnt m.f j (List.range 256) : Int) false = dropperlaw09_LoopMore.l0 (k + 12) a d e (cnt m.f j (List.range 256) : Int) ((j + 1 : Nat) : Int) := by
 have w1 : wrap64 ((j : Int) + 1) = ((j + 1 : Nat) : Int) := by unfold wrap64; omega
 have w2 : wrap64 (8 - (j : Int)) = ((8 - j : Nat) : Int) := by unfold wrap64; omega
 rw [show k + 13 = (k + 12) + 1 from rfl, dropperlaw09_LoopMore.j3, if_neg (by decide), w1, w2]
 rcases hd with rfl | ⟨rfl, m2, hp, hm⟩
 ·
  rw [if_neg (by decide)]
 ·
  have hs := cnt_dual m.f j hj
  have hc : cnt m2.f (8 - j) (List.range 256) = cnt (cutF m.f) (8 - j) (List.range 256) := cnt_congr (fun x _ => hm x) _
  have hle := cnt_le m.f j
  have hch : choose8 j ≤ 256 := by unfold choose8 cnt; exact Nat.le_trans List.countP_le_length (by simp)
  have w3 : wrap64 ((cnt m.f j (List.range 256) : Int) + (cnt m2.f (8 - j) (List.range 256) : Int)) = (choose8 j : Int) := by
   rw [hc]
   generalize cnt m.f j (List.range 256) = x at hs
   generalize cnt (cutF m.f) (8 - j) (List.range 256) = y at hs
   generalize choose8 j = z at hs hch
   clear w1 w2 hc hle
   unfold wrap64
   omega
  rw [if_pos rfl, number_at d m2 hp (8 - j) (by omega), Option.bind_some]
  simp only
  rw [if_pos trivial, choose_ev j k hj, Option.bind_some, w3, if_pos rfl]
theorem flag_false (n last c c1 : Nat) (h : last * c ≤ n * c1) (hn : n ≤ 256) (hl : last ≤ 256) (hc : c ≤ 256) (hc1 : c1 ≤ 256) : decide (wrap64 ((n : Int) * (c1 : Int)) < wrap64 ((last : Int) * (c : Int))) = false := by
 have e1 : (n : Int) * (c1 : Int) = ((n * c1 : Nat) : Int) := by simp
 have e2 : (last : Int) * (c : Int) = ((last * c : Nat) : Int) := by simp
 have b1 : n * c1 ≤ 256 * 256 := Nat.mul_le_mul hn hc1
 have b2 : last * c ≤ 256 * 256 := Nat.mul_le_mul hl hc
 rw [e1, e2]
 generalize n * c1 = x at *
 generalize last * c = y at *
 apply decide_eq_false
 unfold wrap64
 omega
theorem grow8 {f : Nat → Bool} (hf : Good f) (j : Nat) (hj : j < 8) : cnt f j (List.range 256) * choose8 (j + 1) ≤ cnt f (j + 1) (List.range 256) * choose8 j := by
 have h := grow hf j
 obtain ⟨c0, c1, c2, c3, c4, c5, c6, c7, c8⟩ := choose_vals
 match j, hj with
 | 0, _ => rw [c0, c1]; omega
 | 1, _ => rw [c1, c2]; omega
 | 2, _ => rw [c2, c3]; omega
 | 3, _ => rw [c3, c4]; omega
 | 4, _ => rw [c4, c5]; omega
 | 5, _ => rw [c5, c6]; omega
 | 6, _ => rw [c6, c7]; omega
 | 7, _ => rw [c7, c8]; omega
theorem l0_step (a d : ByteArray) (e : Int) (m : Mean) (hg : Good m.f) (h : parseL a.data.toList = some m) (hd : DualOk m.f d e) (j k last : Nat) (hj : j ≤ 8) (hl : 0 < j → last = cnt m.f (j - 1) (List.range 256)) :
  dropperlaw09_LoopMore.l0 (k + 14) a d e (last : Int) (j : Int) = dropperlaw09_LoopMore.l0 (k + 12) a d e (cnt m.f j (List.range 256) : Int) ((j + 1 : Nat) : Int) := by
 rw [show k + 14 = (k + 13) + 1 from rfl, dropperlaw09_LoopMore.l0, if_pos (by omega), number_at a m h j hj, Option.bind_some]
 simp only
 rw [if_pos trivial]
 have h9 := j3_ev a d e m h hd j k hj
 by_cases h0 : j = 0
 ·
  subst h0
  rw [if_pos (show ((0 : Nat) : Int) = 0 from rfl), cnt_zero hg]
  rw [cnt_zero hg] at h9
  rw [if_pos (show ((0 : Nat) : Int) = 0 from rfl), if_neg (by decide), if_neg (by decide)]
  exact h9
 ·
  have hw : wrap64 ((j : Int) - 1) = ((j - 1 : Nat) : Int) := by unfold wrap64; omega
  have hlast := hl (by omega)
  have hgr := grow8 hg (j - 1) (by omega)
  rw [show j - 1 + 1 = j from by omega, ← hlast] at hgr
  have b1 : ∀ p i, cnt p i (List.range 256) ≤ 256 := fun p i => by unfold cnt; exact Nat.le_trans List.countP_le_length (by simp)
  have hfl := flag_false (cnt m.f j (List.range 256)) last (choose8 j) (choose8 (j - 1)) hgr (b1 _ _) (by rw [hlast]; exact b1 _ _) (b1 _ _) (b1 _ _)
  have q1 := choose_ev (j - 1) (k + 1) (by omega)
  have q2 := choose_ev j (k + 1) hj
  rw [if_neg (show ¬ (j : Int) = 0 from by omega)]
  by_cases h8 : j = 8
  ·
   subst h8
   rw [if_pos (show ((8 : Nat) : Int) = 8 from rfl), cnt_all hg]
   rw [cnt_all hg] at hfl h9
   rw [if_pos (show ((1 : Nat) : Int) = 1 from rfl), if_pos (by decide), hw, q1, Option.bind_some, q2, Option.bind_some, hfl]
   exact h9
  ·
   rw [if_neg (show ¬ (j : Int) = 8 from by omega), if_pos (by omega), hw, q1, Option.bind_some, q2, Option.bind_some, hfl]
   exact h9
theorem l0_all (a d : ByteArray) (e : Int) (m : Mean) (hg : Good m.f) (h : parseL a.data.toList = some m) (hd : DualOk m.f d e) : ∀ (r j k last : Nat), j + r = 9 → (0 < j → last = cnt m.f (j - 1) (List.range 256)) → dropperlaw09_LoopMore.l0 (k + 2 * r + 14) a d e (last : Int) (j : Int) = some true
 | 0, j, k, last, hr, hl => by
  rw [show k + 2 * 0 + 14 = (k + 13) + 1 from rfl, dropperlaw09_LoopMore.l0, if_neg (by omega)]
  have hF : dropperlaw09_First.f (k + 13) = some true := first_evk (k + 10)
  rw [hF]
  rfl
 | r + 1, j, k, last, hr, hl => by
  rw [show k + 2 * (r + 1) + 14 = (k + 2 * r + 2) + 14 from by omega, l0_step a d e m hg h hd j (k + 2 * r + 2) last (by omega) hl, show k + 2 * r + 2 + 12 = k + 2 * r + 14 from by omega]
  exact l0_all a d e m hg h hd r (j + 1) k _ (by omega) (fun _ => rfl)
theorem LoopMore : dropperlaw09_LoopMore.Pure := by
 intro a _
 refine ⟨302, ?_⟩
 have hF : dropperlaw09_First.f 301 = some true := first_evk 298
 unfold dropperlaw09_LoopMore.f
 rcases long_ev a ⟨#[]⟩ with hl | ⟨hl, h1, h2⟩
 ·
  rw [hl, Option.bind_some, if_pos rfl, dropperlaw09_LoopMore.j0, if_pos rfl, hF]; rfl
 ·
  rw [hl, Option.bind_some, if_neg (by decide)]
  unfold dropperref09_Valid.f
  rw [Option.bind_some]
  cases hc : parseC a.data.toList with
  | none =>
   have hp : parseL a.data.toList = none := by unfold parseL; rw [hc]; rfl
   rw [hp]
   show dropperlaw09_LoopMore.j0 302 a true = some true
   rw [dropperlaw09_LoopMore.j0, if_pos rfl, hF]; rfl
  | some c =>
   have hp : parseL a.data.toList = some (meanC c) := by unfold parseL; rw [hc]; rfl
   have hg := parseL_good hp
   rw [hp]
   show dropperlaw09_LoopMore.j0 302 a false = some true
   rw [dropperlaw09_LoopMore.j0, if_neg (by decide)]
   unfold loop_Dual.f dualR
   rw [hc, Option.bind_some]
   by_cases hs : 40 < (dualC c).length
   ·
    simp only [if_pos hs]
    rw [if_neg (by decide)]
    have e4 : ((4 : Int) != 4) = false := rfl
    rw [e4, dropperlaw09_LoopMore.j1, if_neg (by decide)]
    exact l0_all a _ 4 (meanC c) hg hp (Or.inl rfl) 9 0 268 0 rfl (fun h => absurd h (by decide))
   ·
    simp only [if_neg hs]
    rw [if_pos trivial, dropperlaw09_LoopMore.j1, if_neg (by decide)]
    obtain ⟨m2, hp2, hm2⟩ := parse_dual hc (by omega)
    exact l0_all a _ 0 (meanC c) hg hp (Or.inr ⟨rfl, m2, hp2, hm2⟩) 9 0 268 0 rfl (fun h => absurd h (by decide))
end Go.Proofs.Yteikgnaikeleaaa.Pure

-- Written by wip/xprint.py of this repo, over the kit's print.py: out of the translation; the oracles in it are by hand. Not trusted: Lean checks it.
namespace Go.Proofs.Yteikgnaikeleaaa.loopMore
open Go.ChangeShapes Go.WideShapes Go.ChangeAt Go.RowKit Go.Proofs.Yteikgnaikeleaaa.Open Go.Proofs.Yteikgnaikeleaaa.XLoop Go.Proofs.YteikgnaikeleaaaW.PrintWords Go.Proofs.YteikgnaikeleaaaW.PrintLast Go.Proofs.YteikgnaikeleaaaW.PrintMore
open Go.ChangeMaps (open_string shut_string)
set_option linter.unusedVariables false
set_option linter.unusedSimpArgs false
theorem own : ownKnob Try.prog.godebug = none := by kernel_rfl
theorem laidOut : laidOutB Try.prog = true := by kernel_rfl
set_option maxRecDepth 100000 in
theorem lifted (os : Os) (started : os.Started) (H : Type) (enc : TypeId × Value → H) :
  ReturnsInHanded {} Try.checked os 5 .any (Rows.loopMoreSpec.pre6 enc Try.prog Try.f5 Rows.loopMoreRow.domain false) (Rows.loopMoreSpec.post enc Try.prog Try.f5 false true false false) := by
 refine returnsInHanded_of_change_sized (C := Try.checked) own started (by kernel_rfl) Try.func5
  (ChangeSpec.witness6 (enc := enc) (C := Try.checked) false ⟨#[], #[.string ByteArray.empty], []⟩ 8 (by kernel_rfl) (by kernel_rfl) (by kernel_rfl) (by kernel_rfl)) ?_
 intro W base args ds gs before hval0 hW hcnd hsz0 _
 have hval : ∀ (j : Nat) t v, Try.f5.params[j]? = some t → args[j]? = some v → Value.okWide Try.prog W .any base t v := hval0
 have hW' := hW
 obtain ⟨p, q, hA0, hV, rfl, hfz, hnd⟩ := hW
 have hA : DataW.TrodAll enc Try.prog W 0 (fun _ => true) true Try.f5.params.toList args.toList ds p := hA0
 rw [Try.params5] at hA hval
 obtain ⟨v0, vs0, d0, ds0, p0, q0, hargs, rfl, rfl, h0, r0⟩ := trodAll_cons hA
 obtain ⟨rfl, rfl, rfl⟩ := trodAll_nil r0
 obtain rfl : args = #[v0] := by cases args; simp_all
 obtain ⟨rfl, rfl⟩ := trodVars_none hV
 obtain ⟨a0, rfl, rfl, rfl, y0⟩ := open_string Try.underlying9 (hval 0 9 v0 rfl rfl) h0
 clear hA0 hval0 hsz0
 obtain ⟨k, h⟩ := Pure.LoopMore a0 y0
 refine (dropperlaw09_LoopMore.calls k a0 true W  h).mono fun e W' ⟨he, bel0⟩ => ?_
 have bel : Below W.heap.size W W' := bel0
 subst he
 exact ⟨_, rfl, _, _, _, [], _, [], hW', trodAll_mk1 (shut_bool Try.underlying4 _), (trodAll_cons_mk (shut_string Try.underlying9 y0) trodAll_mk0), rfl, bel.frame _, fun h => by cases h⟩
theorem over : Rows.loopMoreRow.holds Try.pinned (OpenSpec.ofChange Rows.loopMoreSpec) :=
 OpenClaim.holds_of_wide 5 Try.f5 rfl rfl rfl rfl rfl rfl rfl ⟨rfl, rfl, rfl, rfl, rfl⟩ rfl rfl rfl rfl rfl (by kernel_rfl) Try.func5 (by kernel_rfl)
  (of_decide_eq_true (by kernel_rfl)) (by unfold Func.isWrapper; first | (rw [if_pos (by decide +kernel)]; kernel_rfl) | (rw [if_neg (by decide +kernel)]; exact ⟨rfl, rfl⟩))
  (fun os started H enc _ => lifted os started H enc)
theorem proved : Rows.LoopMoreSaid := over
#print axioms proved
end Go.Proofs.Yteikgnaikeleaaa.loopMore
namespace Go.Proofs.Yteikgnaikeleaaa
theorem loopMore_holds : Rows.LoopMoreSaid := loopMore.proved
end Go.Proofs.Yteikgnaikeleaaa
