-- Written by wip/pack.py of this repo: texts of this claim, put together.
import Derived.Test.YteikgnaikeleaaaRows
import Derived.WalkKit
import Derived.ProofKit
import Derived.OpenShut
import Derived.ShutString
import Derived.ChangeOld
import Derived.Below
import Derived.SizedLaws
import Derived.Test.YteikgnaikeleaaaKLoopd
namespace Go.Proofs.Yteikgnaikeleaaa.XLoop
open Go.RowKit Go.Proofs.YteikgnaikeleaaaW.PrintWords Go.Proofs.YteikgnaikeleaaaW.PrintLast Go.Proofs.YteikgnaikeleaaaW.PrintMore
attribute [local go_sem] max2_int min2_int max_two min_two max_three min_three max_four min_four   -- for this text's walks alone
set_option linter.unusedVariables false
set_option linter.unusedSimpArgs false
/-! ### loop_IsPath: function 23 -/
def loop_IsPath.f (a0 : ByteArray) (a1 : ByteArray) : Option (Bool × Int) := some ((condR a0.data.toList a1.data.toList).1, (condR a0.data.toList a1.data.toList).2)
theorem loop_IsPath.calls (a0 : ByteArray) (a1 : ByteArray) (r1 : Bool) (r2 : Int) (w : World) (h : loop_IsPath.f a0 a1 = some (r1, r2)) :
  Calls Try.prog 23 #[.string a0, .string a1] w fun e w' => e = .returned (.tuple #[.bool r1, .int .i64 r2]) ∧ Below w.heap.size w w' := by
 obtain ⟨rfl, rfl⟩ := Prod.mk.inj (Option.some.inj h)
 have hc := ispath_calls a0.data.toList a1.data.toList w
 simp only [tx_data] at hc
 exact hc

/-! ### loop_IsCut: function 24 -/
def loop_IsCut.f (a0 : ByteArray) (a1 : ByteArray) : Option (Bool × Int) := some ((cutR a0.data.toList a1.data.toList).1, (cutR a0.data.toList a1.data.toList).2)
theorem loop_IsCut.calls (a0 : ByteArray) (a1 : ByteArray) (r1 : Bool) (r2 : Int) (w : World) (h : loop_IsCut.f a0 a1 = some (r1, r2)) :
  Calls Try.prog 24 #[.string a0, .string a1] w fun e w' => e = .returned (.tuple #[.bool r1, .int .i64 r2]) ∧ Below w.heap.size w w' := by
 obtain ⟨rfl, rfl⟩ := Prod.mk.inj (Option.some.inj h)
 have hc := iscut_calls a0.data.toList a1.data.toList w
 simp only [tx_data] at hc
 exact hc

/-! ### dropperref09_IsPath: function 40 -/
def dropperref09_IsPath.f (a0 : ByteArray) (a1 : ByteArray) : Option (Bool × Int) := if a1.size ≤ 1000 then some ((condR a0.data.toList a1.data.toList).1, (condR a0.data.toList a1.data.toList).2) else none
theorem dropperref09_IsPath.calls (a0 : ByteArray) (a1 : ByteArray) (r1 : Bool) (r2 : Int) (w : World) (h : dropperref09_IsPath.f a0 a1 = some (r1, r2)) :
  Calls Try.prog 40 #[.string a0, .string a1] w fun e w' => e = .returned (.tuple #[.bool r1, .int .i64 r2]) ∧ Below w.heap.size w w' := by
 unfold dropperref09_IsPath.f at h
 split at h
 case isFalse => cases h
 rename_i hs_
 have H : a1.data.toList.length < 1000000000 := by
  have h_ := tx_size a1.data.toList
  rw [tx_data] at h_
  omega
 obtain ⟨rfl, rfl⟩ := Prod.mk.inj (Option.some.inj h)
 have hc := rispath_calls a0.data.toList a1.data.toList H w
 simp only [tx_data] at hc
 exact hc

/-! ### dropperref09_IsCut: function 41 -/
def dropperref09_IsCut.f (a0 : ByteArray) (a1 : ByteArray) : Option (Bool × Int) := if a1.size ≤ 1000 then some ((cutR a0.data.toList a1.data.toList).1, (cutR a0.data.toList a1.data.toList).2) else none
theorem dropperref09_IsCut.calls (a0 : ByteArray) (a1 : ByteArray) (r1 : Bool) (r2 : Int) (w : World) (h : dropperref09_IsCut.f a0 a1 = some (r1, r2)) :
  Calls Try.prog 41 #[.string a0, .string a1] w fun e w' => e = .returned (.tuple #[.bool r1, .int .i64 r2]) ∧ Below w.heap.size w w' := by
 unfold dropperref09_IsCut.f at h
 split at h
 case isFalse => cases h
 rename_i hs_
 have H : a1.data.toList.length < 1000000000 := by
  have h_ := tx_size a1.data.toList
  rw [tx_data] at h_
  omega
 obtain ⟨rfl, rfl⟩ := Prod.mk.inj (Option.some.inj h)
 have hc := riscut_calls a0.data.toList a1.data.toList H w
 simp only [tx_data] at hc
 exact hc

/-! ### dropperlaw09_LoopIsPath: function 9 -/
def dropperlaw09_LoopIsPath.f (k : Nat) (a0 : ByteArray) (a1 : ByteArray) : Option (Bool) := (dropperlaw09_Long.f a0 a1).bind fun t220 => (if t220 = true then ((dropperlaw09_First.f k).bind fun t221 => (some t221)) else ((loop_IsPath.f a0 a1).bind fun bt222 => ((dropperref09_IsPath.f a0 a1).bind fun bt224 => ((loop_IsCut.f a0 a1).bind fun bt226 => ((dropperref09_IsCut.f a0 a1).bind fun bt228 => (if (bt222.1 == bt224.1) = true then (if bt222.2 = bt224.2 then (if (bt226.1 == bt228.1) = true then (if bt226.2 = bt228.2 then ((dropperlaw09_First.f k).bind fun t230 => (some t230)) else (none)) else (none)) else (none)) else (none)))))))
set_option maxHeartbeats 8000000 in
set_option maxRecDepth 100000 in
theorem dropperlaw09_LoopIsPath.calls (k : Nat) (a0 : ByteArray) (a1 : ByteArray) (r : Bool) (w : World) (h : dropperlaw09_LoopIsPath.f k a0 a1 = some r) :
  Calls Try.prog 9 #[.string a0, .string a1] w fun e w' => e = .returned (.bool r) ∧ Below w.heap.size w w' := by
 have HB := Aside0.mk (Below.refl w.heap.size w)
 have H : ((dropperlaw09_Long.f a0 a1).bind fun t220 => (if t220 = true then ((dropperlaw09_First.f k).bind fun t221 => (some t221)) else ((loop_IsPath.f a0 a1).bind fun bt222 => ((dropperref09_IsPath.f a0 a1).bind fun bt224 => ((loop_IsCut.f a0 a1).bind fun bt226 => ((dropperref09_IsCut.f a0 a1).bind fun bt228 => (if (bt222.1 == bt224.1) = true then (if bt222.2 = bt224.2 then (if (bt226.1 == bt228.1) = true then (if bt226.2 = bt228.2 then ((dropperlaw09_First.f k).bind fun t230 => (some t230)) else (none)) else (none)) else (none)) else (none)))))))) = some r := h
 clear h
 replace H := Option.bind_eq_some_iff.mp H
 obtain ⟨t220, A30, H⟩ := H
 try dsimp only at H
 have A3 := Aside0.mk A30
 clear A30
 by_cases c4 : t220 = true
 ·
  subst c4
  rw [if_pos rfl] at H
  replace H := Option.bind_eq_some_iff.mp H
  obtain ⟨t221, A50, H⟩ := H
  try dsimp only at H
  have A5 := Aside0.mk A50
  clear A50
  obtain rfl := Option.some.inj H
  go_enter Try.func9, Try.ntmps9
  go_wp2_with (first | ((with_reducible refine gate_callee (f := 14) rfl ?_); refine goesL_ (some 15) rfl rfl Try.func14 (by kernel_rfl) rfl #[.string a0, .string a1] rfl mapz ?_; (with_reducible refine (dropperlaw09_Long.calls a0 a1 true _ A3.out).mono ?_); rintro e w' ⟨rfl, ⟨nd, rfl⟩⟩; refine ⟨_, rfl, ?_⟩) | ((with_reducible refine gate_callee (f := 15) rfl ?_); refine goesL_ (some 16) rfl rfl Try.func15 (by kernel_rfl) rfl #[] rfl mapz ?_; (with_reducible refine (dropperlaw09_First.calls k  t221 _ A5.out).mono ?_); rintro e w6 ⟨rfl, hb⟩; refine ⟨_, rfl, ?_⟩; replace HB := Aside0.mk (below_step bel hb); clear hb))
  go_ret
  exact ⟨ezz, bel⟩
 ·
  replace c4 := Bool.eq_false_iff.mpr c4
  subst c4
  rw [if_neg (show ¬ (false = true) by decide)] at H
  replace H := Option.bind_eq_some_iff.mp H
  obtain ⟨⟨t222, t223⟩, A70, H⟩ := H
  try dsimp only at H
  have A7 := Aside0.mk A70
  clear A70
  replace H := Option.bind_eq_some_iff.mp H
  obtain ⟨⟨t224, t225⟩, A80, H⟩ := H
  try dsimp only at H
  have A8 := Aside0.mk A80
  clear A80
  replace H := Option.bind_eq_some_iff.mp H
  obtain ⟨⟨t226, t227⟩, A90, H⟩ := H
  try dsimp only at H
  have A9 := Aside0.mk A90
  clear A90
  replace H := Option.bind_eq_some_iff.mp H
  obtain ⟨⟨t228, t229⟩, A100, H⟩ := H
  try dsimp only at H
  have A10 := Aside0.mk A100
  clear A100
  by_cases c11 : (t222 == t224) = true
  ·
   rw [if_pos c11] at H
   have c11b0 : (t222 == t224) = true := c11
   (try (have c11b1 : decide (t222 = t224) = true := by simpa using c11))
   (try (have c11b2 : (t222 == t224) = true := by simpa using c11))
   clear c11
   by_cases c12 : t223 = t225
   ·
    rw [if_pos c12] at H
    have c12b0 : (t223 == t225) = true := beq_iff_eq.mpr c12
    have c12b1 : (t223 != t225) = false := bne_eq_false_iff_eq.mpr c12
    clear c12
    by_cases c13 : (t226 == t228) = true
    ·
     rw [if_pos c13] at H
     have c13b0 : (t226 == t228) = true := c13
     (try (have c13b1 : decide (t226 = t228) = true := by simpa using c13))
     (try (have c13b2 : (t226 == t228) = true := by simpa using c13))
     clear c13
     by_cases c14 : t227 = t229
     ·
      rw [if_pos c14] at H
      have c14b0 : (t227 == t229) = true := beq_iff_eq.mpr c14
      have c14b1 : (t227 != t229) = false := bne_eq_false_iff_eq.mpr c14
      clear c14
      replace H := Option.bind_eq_some_iff.mp H
      obtain ⟨t230, A150, H⟩ := H
      try dsimp only at H
      have A15 := Aside0.mk A150
      clear A150
      obtain rfl := Option.some.inj H
      go_enter Try.func9, Try.ntmps9
      go_wp2_with (first | ((with_reducible refine gate_callee (f := 14) rfl ?_); refine goesL_ (some 15) rfl rfl Try.func14 (by kernel_rfl) rfl #[.string a0, .string a1] rfl mapz ?_; (with_reducible refine (dropperlaw09_Long.calls a0 a1 false _ A3.out).mono ?_); rintro e w' ⟨rfl, ⟨nd, rfl⟩⟩; refine ⟨_, rfl, ?_⟩) | ((with_reducible refine gate_callee (f := 23) rfl ?_); refine goesL_ (some 20) rfl rfl Try.func23 (by kernel_rfl) rfl #[.string a0, .string a1] rfl mapz ?_; (with_reducible refine (loop_IsPath.calls a0 a1 t222 t223 _ A7.out).mono ?_); rintro e w16 ⟨rfl, hb⟩; refine ⟨_, rfl, ?_⟩; replace HB := Aside0.mk (below_step bel hb); clear hb) | ((with_reducible refine gate_callee (f := 40) rfl ?_); refine goesL_ (some 26) rfl rfl Try.func40 (by kernel_rfl) rfl #[.string a0, .string a1] rfl mapz ?_; (with_reducible refine (dropperref09_IsPath.calls a0 a1 t224 t225 _ A8.out).mono ?_); rintro e w17 ⟨rfl, hb⟩; refine ⟨_, rfl, ?_⟩; replace HB := Aside0.mk (below_step bel hb); clear hb) | ((with_reducible refine gate_callee (f := 24) rfl ?_); refine goesL_ (some 32) rfl rfl Try.func24 (by kernel_rfl) rfl #[.string a0, .string a1] rfl mapz ?_; (with_reducible refine (loop_IsCut.calls a0 a1 t226 t227 _ A9.out).mono ?_); rintro e w18 ⟨rfl, hb⟩; refine ⟨_, rfl, ?_⟩; replace HB := Aside0.mk (below_step bel hb); clear hb) | ((with_reducible refine gate_callee (f := 41) rfl ?_); refine goesL_ (some 38) rfl rfl Try.func41 (by kernel_rfl) rfl #[.string a0, .string a1] rfl mapz ?_; (with_reducible refine (dropperref09_IsCut.calls a0 a1 t228 t229 _ A10.out).mono ?_); rintro e w19 ⟨rfl, hb⟩; refine ⟨_, rfl, ?_⟩; replace HB := Aside0.mk (below_step bel hb); clear hb) | (go_at_call 15; (with_reducible refine (dropperlaw09_First.calls k  t230 _ A15.out).mono ?_); rintro e w20 ⟨rfl, hb⟩; replace HB := Aside0.mk (below_step bel hb); clear hb))
      go_ret
      exact ⟨ezz, bel⟩
     ·
      rw [if_neg c14] at H
      exact absurd H (by simp)
    ·
     rw [if_neg c13] at H
     exact absurd H (by simp)
   ·
    rw [if_neg c12] at H
    exact absurd H (by simp)
  ·
   rw [if_neg c11] at H
   exact absurd H (by simp)

end Go.Proofs.Yteikgnaikeleaaa.XLoop
-- Written by wip/xprint.py of this repo, over the kit's print.py: out of the translation; the oracles in it are by hand. Not trusted: Lean checks it.
namespace Go.Proofs.Yteikgnaikeleaaa.XLoop
open Go.RowKit Go.Proofs.Yteikgnaikeleaaa.XLoop Go.Proofs.YteikgnaikeleaaaW.PrintWords Go.Proofs.YteikgnaikeleaaaW.PrintLast Go.Proofs.YteikgnaikeleaaaW.PrintMore
def dropperlaw09_LoopIsPath.Pure : Prop := ∀ (a0 : ByteArray) (a1 : ByteArray), (a0.size ≤ maxLen) → (a1.size ≤ maxLen) → ∃ k, dropperlaw09_LoopIsPath.f k a0 a1 = some true
end Go.Proofs.Yteikgnaikeleaaa.XLoop

namespace Go.Proofs.Yteikgnaikeleaaa
set_option linter.unusedVariables false
open Go.RowKit Go.Proofs.Yteikgnaikeleaaa.XLoop Go.Proofs.YteikgnaikeleaaaW.PrintWords Go.Proofs.YteikgnaikeleaaaW.PrintLast Go.Proofs.YteikgnaikeleaaaW.PrintMore
theorem first_paths : pathsR [97, 40, 98, 43, 99, 41] = ([tx [97, 98], tx [97, 99]], 0) := by decide +kernel
theorem first_cuts : cutsR [97, 40, 98, 43, 99, 41] = ([tx [97], tx [98, 99]], 0) := by decide +kernel
theorem first_dual : dualR [97, 40, 98, 43, 99, 41] = ([97, 43, 98, 99], 0) := by decide +kernel
theorem same_two (a b : ByteArray) (k : Nat) : dropperlaw09_SameTexts.f (k + 3) [a, b] [a, b] = some true := by
 unfold dropperlaw09_SameTexts.f
 simp [dropperlaw09_SameTexts.l0, wrap64]
theorem first_ev : dropperlaw09_First.f 3 = some true := by
 have h1 : loop_Paths.f (⟨#[97, 40, 98, 43, 99, 41]⟩ : ByteArray) = some ([tx [97, 98], tx [97, 99]], 0) := by
  show some ((pathsR [97, 40, 98, 43, 99, 41]).1, (pathsR [97, 40, 98, 43, 99, 41]).2) = _
  rw [first_paths]
 have h2 : loop_Cuts.f (⟨#[97, 40, 98, 43, 99, 41]⟩ : ByteArray) = some ([tx [97], tx [98, 99]], 0) := by
  show some ((cutsR [97, 40, 98, 43, 99, 41]).1, (cutsR [97, 40, 98, 43, 99, 41]).2) = _
  rw [first_cuts]
 have h3 : loop_Dual.f (⟨#[97, 40, 98, 43, 99, 41]⟩ : ByteArray) = some (tx [97, 43, 98, 99], 0) := by
  show some (tx (dualR [97, 40, 98, 43, 99, 41]).1, (dualR [97, 40, 98, 43, 99, 41]).2) = _
  rw [first_dual]
 have h4 : dropperlaw09_SameTexts.f 3 [tx [97, 98], tx [97, 99]] ([(⟨#[97, 98]⟩ : ByteArray), (⟨#[97, 99]⟩ : ByteArray)] : List ByteArray) = some true := same_two _ _ 0
 have h5 : dropperlaw09_SameTexts.f 3 [tx [97], tx [98, 99]] ([(⟨#[97]⟩ : ByteArray), (⟨#[98, 99]⟩ : ByteArray)] : List ByteArray) = some true := same_two _ _ 0
 unfold dropperlaw09_First.f
 rw [h1, h2, h3]
 simp only [Option.bind_some, if_true]
 rw [h4, Option.bind_some, if_pos rfl, h5, Option.bind_some, if_pos rfl, ByteArray.toList_eq]
 rfl
theorem long_ev (a b : ByteArray) : (dropperlaw09_Long.f a b = some true) ∨ (dropperlaw09_Long.f a b = some false ∧ a.size ≤ 200 ∧ b.size ≤ 200) := by
 unfold dropperlaw09_Long.f
 by_cases h1 : (a.size : Int) > 200
 ·
  exact Or.inl (if_pos h1)
 ·
  rw [if_neg h1]
  by_cases h2 : (b.size : Int) > 200
  ·
   exact Or.inl (by rw [decide_eq_true h2])
  ·
   exact Or.inr ⟨by rw [decide_eq_false h2], by omega, by omega⟩
end Go.Proofs.Yteikgnaikeleaaa

/- Paths and cuts: program and reference answer the same. -/
namespace Go.Proofs.Yteikgnaikeleaaa.Pure
set_option linter.unusedVariables false
open Go.RowKit Go.Proofs.Yteikgnaikeleaaa.XLoop Go.Proofs.YteikgnaikeleaaaW.PrintWords Go.Proofs.YteikgnaikeleaaaW.PrintLast Go.Proofs.YteikgnaikeleaaaW.PrintMore

theorem LoopIsPath : dropperlaw09_LoopIsPath.Pure := by
 intro a b _ _
 refine ⟨3, ?_⟩
 unfold dropperlaw09_LoopIsPath.f
 rcases long_ev a b with hl | ⟨hl, h1, h2⟩
 ·
  rw [hl, Option.bind_some, if_pos rfl, first_ev]; rfl
 ·
  have e1 : dropperref09_IsPath.f a b = some ((condR a.data.toList b.data.toList).1, (condR a.data.toList b.data.toList).2) := if_pos (by omega)
  have e2 : dropperref09_IsCut.f a b = some ((cutR a.data.toList b.data.toList).1, (cutR a.data.toList b.data.toList).2) := if_pos (by omega)
  rw [hl, Option.bind_some, if_neg (by decide), e1, e2, first_ev]
  unfold loop_IsPath.f loop_IsCut.f
  simp only [Option.bind_some, beq_self_eq_true, if_true]
end Go.Proofs.Yteikgnaikeleaaa.Pure

-- Written by wip/xprint.py of this repo, over the kit's print.py: out of the translation; the oracles in it are by hand. Not trusted: Lean checks it.
namespace Go.Proofs.Yteikgnaikeleaaa.loopIsPath
open Go.ChangeShapes Go.WideShapes Go.ChangeAt Go.RowKit Go.Proofs.Yteikgnaikeleaaa.Open Go.Proofs.Yteikgnaikeleaaa.XLoop Go.Proofs.YteikgnaikeleaaaW.PrintWords Go.Proofs.YteikgnaikeleaaaW.PrintLast Go.Proofs.YteikgnaikeleaaaW.PrintMore
open Go.ChangeMaps (open_string shut_string)
set_option linter.unusedVariables false
set_option linter.unusedSimpArgs false
theorem own : ownKnob Try.prog.godebug = none := by kernel_rfl
theorem laidOut : laidOutB Try.prog = true := by kernel_rfl
set_option maxRecDepth 100000 in
theorem lifted (os : Os) (started : os.Started) (H : Type) (enc : TypeId × Value → H) :
  ReturnsInHanded {} Try.checked os 9 .any (Rows.loopIsPathSpec.pre6 enc Try.prog Try.f9 Rows.loopIsPathRow.domain false) (Rows.loopIsPathSpec.post enc Try.prog Try.f9 false true false false) := by
 refine returnsInHanded_of_change_sized (C := Try.checked) own started (by kernel_rfl) Try.func9
  (ChangeSpec.witness6 (enc := enc) (C := Try.checked) false ⟨#[], #[.string ByteArray.empty, .string ByteArray.empty], []⟩ 8 (by kernel_rfl) (by kernel_rfl) (by kernel_rfl) (by kernel_rfl)) ?_
 intro W base args ds gs before hval0 hW hcnd hsz0 _
 have hval : ∀ (j : Nat) t v, Try.f9.params[j]? = some t → args[j]? = some v → Value.okWide Try.prog W .any base t v := hval0
 have hW' := hW
 obtain ⟨p, q, hA0, hV, rfl, hfz, hnd⟩ := hW
 have hA : DataW.TrodAll enc Try.prog W 0 (fun _ => true) true Try.f9.params.toList args.toList ds p := hA0
 rw [Try.params9] at hA hval
 obtain ⟨v0, vs0, d0, ds0, p0, q0, hargs, rfl, rfl, h0, r0⟩ := trodAll_cons hA
 obtain ⟨v1, vs1, d1, ds1, p1, q1, rfl, rfl, rfl, h1, r1⟩ := trodAll_cons r0
 obtain ⟨rfl, rfl, rfl⟩ := trodAll_nil r1
 obtain rfl : args = #[v0, v1] := by cases args; simp_all
 obtain ⟨rfl, rfl⟩ := trodVars_none hV
 obtain ⟨a0, rfl, rfl, rfl, y0⟩ := open_string Try.underlying9 (hval 0 9 v0 rfl rfl) h0
 obtain ⟨a1, rfl, rfl, rfl, y1⟩ := open_string Try.underlying9 (hval 1 9 v1 rfl rfl) h1
 clear hA0 hval0 hsz0
 obtain ⟨k, h⟩ := Pure.LoopIsPath a0 a1 y0 y1
 refine (dropperlaw09_LoopIsPath.calls k a0 a1 true W  h).mono fun e W' ⟨he, bel0⟩ => ?_
 have bel : Below W.heap.size W W' := bel0
 subst he
 exact ⟨_, rfl, _, _, _, [], _, [], hW', trodAll_mk1 (shut_bool Try.underlying4 _), (trodAll_cons_mk (shut_string Try.underlying9 y0) (trodAll_cons_mk (shut_string Try.underlying9 y1) trodAll_mk0)), rfl, bel.frame _, fun h => by cases h⟩
theorem over : Rows.loopIsPathRow.holds Try.pinned (OpenSpec.ofChange Rows.loopIsPathSpec) :=
 OpenClaim.holds_of_wide 9 Try.f9 rfl rfl rfl rfl rfl rfl rfl ⟨rfl, rfl, rfl, rfl, rfl⟩ rfl rfl rfl rfl rfl (by kernel_rfl) Try.func9 (by kernel_rfl)
  (of_decide_eq_true (by kernel_rfl)) (by unfold Func.isWrapper; first | (rw [if_pos (by decide +kernel)]; kernel_rfl) | (rw [if_neg (by decide +kernel)]; exact ⟨rfl, rfl⟩))
  (fun os started H enc _ => lifted os started H enc)
theorem proved : Rows.LoopIsPathSaid := over
#print axioms proved
end Go.Proofs.Yteikgnaikeleaaa.loopIsPath
namespace Go.Proofs.Yteikgnaikeleaaa
theorem loopIsPath_holds : Rows.LoopIsPathSaid := loopIsPath.proved
end Go.Proofs.Yteikgnaikeleaaa
