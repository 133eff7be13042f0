-- Written by wip/pack.py of this repo: texts of this claim, put together.
import Derived.Test.YteikgnaikeleaaaRows
import Derived.WalkKit
import Derived.ProofKit
import Derived.OpenShut
import Derived.ShutString
import Derived.ChangeOld
import Derived.Below
import Derived.SizedLaws
import Derived.Test.YteikgnaikeleaaaKLoope
namespace Go.Proofs.Yteikgnaikeleaaa.XLoop
open Go.RowKit Go.Proofs.YteikgnaikeleaaaW.PrintWords Go.Proofs.YteikgnaikeleaaaW.PrintLast Go.Proofs.YteikgnaikeleaaaW.PrintMore
attribute [local go_sem] max2_int min2_int max_two min_two max_three min_three max_four min_four   -- for this text's walks alone
set_option linter.unusedVariables false
set_option linter.unusedSimpArgs false
/-! ### dropperlaw09_LoopPlain: function 7 -/
def dropperlaw09_LoopPlain.j0 : Nat → ByteArray → Bool → Option (Bool)
 | 0, _, _ => none
 | k + 1, x0, x14 => if x14 = true then ((dropperlaw09_First.f k).bind fun t196 => (some t196)) else ((loop_Plain.f x0).bind fun bt197 => (if bt197.2 = 0 then ((loop_Same.f x0 bt197.1).bind fun bt199 => ((loop_Plain.f bt197.1).bind fun bt201 => (if bt199.2 = 0 then (if bt201.2 = 0 then (if bt199.1 = true then (if bt197.1.toList = bt201.1.toList then ((dropperlaw09_First.f k).bind fun t203 => (some t203)) else (none)) else (none)) else (none)) else (none)))) else (if bt197.2 = 4 then ((dropperlaw09_First.f k).bind fun t204 => (some t204)) else (none))))
def dropperlaw09_LoopPlain.f (k : Nat) (a0 : ByteArray) : Option (Bool) := (dropperlaw09_Long.f a0 (⟨#[]⟩ : ByteArray)).bind fun t194 => (if t194 = true then (dropperlaw09_LoopPlain.j0 k a0 true) else ((dropperref09_Valid.f a0).bind fun t195 => (dropperlaw09_LoopPlain.j0 k a0 (!t195))))
set_option maxHeartbeats 8000000 in
set_option maxRecDepth 100000 in
theorem dropperlaw09_LoopPlain.calls (k : Nat) (a0 : ByteArray) (r : Bool) (w : World) (h : dropperlaw09_LoopPlain.f k a0 = some r) :
  Calls Try.prog 7 #[.string a0] w fun e w' => e = .returned (.bool r) ∧ Below w.heap.size w w' := by
 have HB := Aside0.mk (Below.refl w.heap.size w)
 have H : ((dropperlaw09_Long.f a0 (⟨#[]⟩ : ByteArray)).bind fun t194 => (if t194 = true then (dropperlaw09_LoopPlain.j0 k a0 true) else ((dropperref09_Valid.f a0).bind fun t195 => (dropperlaw09_LoopPlain.j0 k a0 (!t195))))) = some r := h
 clear h
 have HC2 := Aside0.mk H
 clear H
 go_enter Try.func7, Try.ntmps7
 go_upto_region 1 with (fail)
 go_cut [14] (fun v14 wc => ∃ (kq : Nat) (x14_1 : Bool), v14 = .bool x14_1 ∧ Aside0 (dropperlaw09_LoopPlain.j0 kq a0 x14_1 = some r) ∧ Aside0 (kq ≤ k) ∧ Aside0 (Below w.heap.size w wc))
 case first =>
  have H := HC2.out
  clear HC2
  replace H := Option.bind_eq_some_iff.mp H
  obtain ⟨t194, A30, H⟩ := H
  try dsimp only at H
  have A3 := Aside0.mk A30
  clear A30
  by_cases c4 : t194 = true
  ·
   subst c4
   rw [if_pos rfl] at H
   have H' := Aside0.mk H
   clear H
   go_wp2_with (first | ((with_reducible refine gate_callee (f := 14) rfl ?_); refine goesL_ (some 9) rfl rfl Try.func14 (by kernel_rfl) rfl #[.string a0, .string (⟨#[]⟩ : ByteArray)] rfl mapz ?_; (with_reducible refine (dropperlaw09_Long.calls a0 (⟨#[]⟩ : ByteArray) true _ A3.out).mono ?_); rintro e w' ⟨rfl, ⟨nd, rfl⟩⟩; refine ⟨_, rfl, ?_⟩))
   go_meet
   case rel => exact ⟨_, (true), rsz, H', ⟨by first | omega | exact Nat.le_refl _⟩, ⟨bel⟩⟩
  ·
   replace c4 := Bool.eq_false_iff.mpr c4
   subst c4
   rw [if_neg (show ¬ (false = true) by decide)] at H
   replace H := Option.bind_eq_some_iff.mp H
   obtain ⟨t195, A50, H⟩ := H
   try dsimp only at H
   have A5 := Aside0.mk A50
   clear A50
   have H' := Aside0.mk H
   clear H
   go_wp2_with (first | ((with_reducible refine gate_callee (f := 14) rfl ?_); refine goesL_ (some 9) rfl rfl Try.func14 (by kernel_rfl) rfl #[.string a0, .string (⟨#[]⟩ : ByteArray)] rfl mapz ?_; (with_reducible refine (dropperlaw09_Long.calls a0 (⟨#[]⟩ : ByteArray) false _ A3.out).mono ?_); rintro e w' ⟨rfl, ⟨nd, rfl⟩⟩; refine ⟨_, rfl, ?_⟩) | (go_at_call 21; (with_reducible refine (dropperref09_Valid.calls a0 t195 _ A5.out).mono ?_); rintro e w6 ⟨rfl, hb⟩; replace HB := Aside0.mk (below_step bel hb); clear hb))
   go_meet
   case rel => exact ⟨_, (!t195), rsz, H', ⟨by first | omega | exact Nat.le_refl _⟩, ⟨bel⟩⟩
 case rest =>
  clear HC2
  (try clear c1); (try clear p2); (try clear c4)
  obtain ⟨kq, x14_1, rfl, HA, HJ1, HB⟩ := hcut
  cases kq with
  | zero => exact absurd HA.out (by simp [dropperlaw09_LoopPlain.j0])
  | succ kj1 =>
   have H := HA.out
   clear HA
   simp only [dropperlaw09_LoopPlain.j0] at H
   by_cases c7 : x14_1 = true
   ·
    subst c7
    rw [if_pos rfl] at H
    replace H := Option.bind_eq_some_iff.mp H
    obtain ⟨t196, A80, H⟩ := H
    try dsimp only at H
    have A8 := Aside0.mk A80
    clear A80
    obtain rfl := Option.some.inj H
    go_wp2_with (first | ((with_reducible refine gate_callee (f := 15) rfl ?_); refine goesL_ (some 15) rfl rfl Try.func15 (by kernel_rfl) rfl #[] rfl mapz ?_; (with_reducible refine (dropperlaw09_First.calls kj1  t196 _ A8.out).mono ?_); rintro e w9 ⟨rfl, hb⟩; refine ⟨_, rfl, ?_⟩; replace HB := Aside0.mk (below_step bel hb); clear hb))
    go_ret
    exact ⟨ezz, bel⟩
   ·
    replace c7 := Bool.eq_false_iff.mpr c7
    subst c7
    rw [if_neg (show ¬ (false = true) by decide)] at H
    replace H := Option.bind_eq_some_iff.mp H
    obtain ⟨⟨t197, t198⟩, A100, H⟩ := H
    try dsimp only at H
    have A10 := Aside0.mk A100
    clear A100
    by_cases c11 : t198 = 0
    ·
     rw [if_pos c11] at H
     have c11b0 : (t198 == 0) = true := beq_iff_eq.mpr c11
     have c11b1 : (t198 != 0) = false := bne_eq_false_iff_eq.mpr c11
     clear c11
     replace H := Option.bind_eq_some_iff.mp H
     obtain ⟨⟨t199, t200⟩, A120, H⟩ := H
     try dsimp only at H
     have A12 := Aside0.mk A120
     clear A120
     replace H := Option.bind_eq_some_iff.mp H
     obtain ⟨⟨t201, t202⟩, A130, H⟩ := H
     try dsimp only at H
     have A13 := Aside0.mk A130
     clear A130
     by_cases c14 : t200 = 0
     ·
      rw [if_pos c14] at H
      have c14b0 : (t200 == 0) = true := beq_iff_eq.mpr c14
      have c14b1 : (t200 != 0) = false := bne_eq_false_iff_eq.mpr c14
      clear c14
      by_cases c15 : t202 = 0
      ·
       rw [if_pos c15] at H
       have c15b0 : (t202 == 0) = true := beq_iff_eq.mpr c15
       have c15b1 : (t202 != 0) = false := bne_eq_false_iff_eq.mpr c15
       clear c15
       by_cases c16 : t199 = true
       ·
        subst c16
        rw [if_pos rfl] at H
        by_cases c17 : t197.toList = t201.toList
        ·
         rw [if_pos c17] at H
         have c17b0 : (t197.toList == t201.toList) = true := beq_iff_eq.mpr c17
         have c17b1 : (t197.toList != t201.toList) = false := bne_eq_false_iff_eq.mpr c17
         clear c17
         replace H := Option.bind_eq_some_iff.mp H
         obtain ⟨t203, A180, H⟩ := H
         try dsimp only at H
         have A18 := Aside0.mk A180
         clear A180
         obtain rfl := Option.some.inj H
         go_wp2_with (first | ((with_reducible refine gate_callee (f := 34) rfl ?_); refine goesL_ (some 18) rfl rfl Try.func34 (by kernel_rfl) rfl #[.string a0] rfl mapz ?_; (with_reducible refine (loop_Plain.calls a0 t197 t198 _ A10.out).mono ?_); rintro e w19 ⟨rfl, hb⟩; refine ⟨_, rfl, ?_⟩; replace HB := Aside0.mk (below_step bel hb); clear hb) | ((with_reducible refine gate_callee (f := 29) rfl ?_); refine goesL_ (some 31) rfl rfl Try.func29 (by kernel_rfl) rfl #[.string a0, .string t197] rfl mapz ?_; (with_reducible refine (loop_Same.calls a0 t197 true t200 _ A12.out).mono ?_); rintro e w20 ⟨rfl, hb⟩; refine ⟨_, rfl, ?_⟩; replace HB := Aside0.mk (below_step bel hb); clear hb) | ((with_reducible refine gate_callee (f := 34) rfl ?_); refine goesL_ (some 36) rfl rfl Try.func34 (by kernel_rfl) rfl #[.string t197] rfl mapz ?_; (with_reducible refine (loop_Plain.calls t197 t201 t202 _ A13.out).mono ?_); rintro e w21 ⟨rfl, hb⟩; refine ⟨_, rfl, ?_⟩; replace HB := Aside0.mk (below_step bel hb); clear hb) | (go_at_call 15; (with_reducible refine (dropperlaw09_First.calls kj1  t203 _ A18.out).mono ?_); rintro e w22 ⟨rfl, hb⟩; replace HB := Aside0.mk (below_step bel hb); clear hb))
         go_ret
         exact ⟨ezz, bel⟩
        ·
         rw [if_neg c17] at H
         exact absurd H (by simp)
       ·
        replace c16 := Bool.eq_false_iff.mpr c16
        subst c16
        rw [if_neg (show ¬ (false = true) by decide)] at H
        exact absurd H (by simp)
      ·
       rw [if_neg c15] at H
       exact absurd H (by simp)
     ·
      rw [if_neg c14] at H
      exact absurd H (by simp)
    ·
     rw [if_neg c11] at H
     have c11b0 : (t198 == 0) = false := beq_eq_false_iff_ne.mpr c11
     have c11b1 : (t198 != 0) = true := bne_iff_ne.mpr c11
     by_cases c23 : t198 = 4
     ·
      rw [if_pos c23] at H
      have c23b0 : (t198 == 4) = true := beq_iff_eq.mpr c23
      have c23b1 : (t198 != 4) = false := bne_eq_false_iff_eq.mpr c23
      clear c23
      replace H := Option.bind_eq_some_iff.mp H
      obtain ⟨t204, A240, H⟩ := H
      try dsimp only at H
      have A24 := Aside0.mk A240
      clear A240
      obtain rfl := Option.some.inj H
      go_wp2_with (first | ((with_reducible refine gate_callee (f := 34) rfl ?_); refine goesL_ (some 18) rfl rfl Try.func34 (by kernel_rfl) rfl #[.string a0] rfl mapz ?_; (with_reducible refine (loop_Plain.calls a0 t197 t198 _ A10.out).mono ?_); rintro e w25 ⟨rfl, hb⟩; refine ⟨_, rfl, ?_⟩; replace HB := Aside0.mk (below_step bel hb); clear hb) | (go_at_call 15; (with_reducible refine (dropperlaw09_First.calls kj1  t204 _ A24.out).mono ?_); rintro e w26 ⟨rfl, hb⟩; replace HB := Aside0.mk (below_step bel hb); clear hb))
      go_ret
      exact ⟨ezz, bel⟩
     ·
      rw [if_neg c23] at H
      exact absurd H (by simp)

end Go.Proofs.Yteikgnaikeleaaa.XLoop
-- Written by wip/xprint.py of this repo, over the kit's print.py: out of the translation; the oracles in it are by hand. Not trusted: Lean checks it.
namespace Go.Proofs.Yteikgnaikeleaaa.XLoop
open Go.RowKit Go.Proofs.Yteikgnaikeleaaa.XLoop Go.Proofs.YteikgnaikeleaaaW.PrintWords Go.Proofs.YteikgnaikeleaaaW.PrintLast Go.Proofs.YteikgnaikeleaaaW.PrintMore
def dropperlaw09_LoopPlain.Pure : Prop := ∀ (a0 : ByteArray), (a0.size ≤ maxLen) → ∃ k, dropperlaw09_LoopPlain.f k a0 = some true
end Go.Proofs.Yteikgnaikeleaaa.XLoop

/- The plain circuit is the same as the circuit, and its own plain circuit. -/
namespace Go.Proofs.Yteikgnaikeleaaa.Pure
set_option linter.unusedVariables false
open Go.RowKit Go.Proofs.Yteikgnaikeleaaa.XLoop Go.Proofs.YteikgnaikeleaaaW.PrintWords Go.Proofs.YteikgnaikeleaaaW.PrintLast Go.Proofs.YteikgnaikeleaaaW.PrintMore

theorem tx_toL (l : List UInt8) : (tx l).data.toList = l := rfl
theorem LoopPlain : dropperlaw09_LoopPlain.Pure := by
 intro a _
 refine ⟨300, ?_⟩
 have hF : dropperlaw09_First.f 299 = some true := first_evk 296
 unfold dropperlaw09_LoopPlain.f
 rcases long_ev a ⟨#[]⟩ with hl | ⟨hl, h1, h2⟩
 ·
  rw [hl, Option.bind_some, if_pos rfl, dropperlaw09_LoopPlain.j0, if_pos rfl, hF]; rfl
 ·
  rw [hl, Option.bind_some, if_neg (by decide)]
  unfold dropperref09_Valid.f
  rw [Option.bind_some]
  cases hp : parseL a.data.toList with
  | none =>
   show dropperlaw09_LoopPlain.j0 300 a true = some true
   rw [dropperlaw09_LoopPlain.j0, if_pos rfl, hF]; rfl
  | some m =>
   show dropperlaw09_LoopPlain.j0 300 a false = some true
   have hg := parseL_good hp
   have e1 : plainR a.data.toList = plainX m.f := by
    unfold plainR
    rw [hp]
    exact plainF_good hg
   rw [dropperlaw09_LoopPlain.j0, if_neg (by decide)]
   unfold loop_Plain.f
   rw [Option.bind_some, e1]
   by_cases hs : 40 < (leastT m.f).length
   ·
    have e2 : plainX m.f = ([], 4) := if_pos hs
    rw [e2]
    show (if (4 : Int) = 0 then _ else _) = _
    rw [if_neg (by decide), if_pos rfl, hF]; rfl
   ·
    have e2 : plainX m.f = (leastT m.f, 0) := if_neg hs
    rw [e2]
    obtain ⟨m2, hp2, hm2⟩ := parse_plain hg (by omega)
    have e3 : loop_Same.f a (tx (leastT m.f)) = some (true, 0) := by
     unfold loop_Same.f sameR
     rw [hp, tx_toL, hp2]
     simp only
     rw [(sameF_iff m.f m2.f).2 (fun x hx => (hm2 x hx).symm)]
    have e4 : plainR (tx (leastT m.f)).data.toList = (leastT m.f, 0) := by
     unfold plainR
     rw [tx_toL, hp2]
     show plainF m2.f = _
     rw [plainF_congr hm2, plainF_good hg, e2]
    show (if (0 : Int) = 0 then _ else _) = _
    rw [if_pos rfl, e3, Option.bind_some, e4, Option.bind_some, if_pos rfl, if_pos rfl, if_pos rfl, if_pos rfl, hF]
    rfl
end Go.Proofs.Yteikgnaikeleaaa.Pure

-- Written by wip/xprint.py of this repo, over the kit's print.py: out of the translation; the oracles in it are by hand. Not trusted: Lean checks it.
namespace Go.Proofs.Yteikgnaikeleaaa.loopPlain
open Go.ChangeShapes Go.WideShapes Go.ChangeAt Go.RowKit Go.Proofs.Yteikgnaikeleaaa.Open Go.Proofs.Yteikgnaikeleaaa.XLoop Go.Proofs.YteikgnaikeleaaaW.PrintWords Go.Proofs.YteikgnaikeleaaaW.PrintLast Go.Proofs.YteikgnaikeleaaaW.PrintMore
open Go.ChangeMaps (open_string shut_string)
set_option linter.unusedVariables false
set_option linter.unusedSimpArgs false
theorem own : ownKnob Try.prog.godebug = none := by kernel_rfl
theorem laidOut : laidOutB Try.prog = true := by kernel_rfl
set_option maxRecDepth 100000 in
theorem lifted (os : Os) (started : os.Started) (H : Type) (enc : TypeId × Value → H) :
  ReturnsInHanded {} Try.checked os 7 .any (Rows.loopPlainSpec.pre6 enc Try.prog Try.f7 Rows.loopPlainRow.domain false) (Rows.loopPlainSpec.post enc Try.prog Try.f7 false true false false) := by
 refine returnsInHanded_of_change_sized (C := Try.checked) own started (by kernel_rfl) Try.func7
  (ChangeSpec.witness6 (enc := enc) (C := Try.checked) false ⟨#[], #[.string ByteArray.empty], []⟩ 8 (by kernel_rfl) (by kernel_rfl) (by kernel_rfl) (by kernel_rfl)) ?_
 intro W base args ds gs before hval0 hW hcnd hsz0 _
 have hval : ∀ (j : Nat) t v, Try.f7.params[j]? = some t → args[j]? = some v → Value.okWide Try.prog W .any base t v := hval0
 have hW' := hW
 obtain ⟨p, q, hA0, hV, rfl, hfz, hnd⟩ := hW
 have hA : DataW.TrodAll enc Try.prog W 0 (fun _ => true) true Try.f7.params.toList args.toList ds p := hA0
 rw [Try.params7] at hA hval
 obtain ⟨v0, vs0, d0, ds0, p0, q0, hargs, rfl, rfl, h0, r0⟩ := trodAll_cons hA
 obtain ⟨rfl, rfl, rfl⟩ := trodAll_nil r0
 obtain rfl : args = #[v0] := by cases args; simp_all
 obtain ⟨rfl, rfl⟩ := trodVars_none hV
 obtain ⟨a0, rfl, rfl, rfl, y0⟩ := open_string Try.underlying9 (hval 0 9 v0 rfl rfl) h0
 clear hA0 hval0 hsz0
 obtain ⟨k, h⟩ := Pure.LoopPlain a0 y0
 refine (dropperlaw09_LoopPlain.calls k a0 true W  h).mono fun e W' ⟨he, bel0⟩ => ?_
 have bel : Below W.heap.size W W' := bel0
 subst he
 exact ⟨_, rfl, _, _, _, [], _, [], hW', trodAll_mk1 (shut_bool Try.underlying4 _), (trodAll_cons_mk (shut_string Try.underlying9 y0) trodAll_mk0), rfl, bel.frame _, fun h => by cases h⟩
theorem over : Rows.loopPlainRow.holds Try.pinned (OpenSpec.ofChange Rows.loopPlainSpec) :=
 OpenClaim.holds_of_wide 7 Try.f7 rfl rfl rfl rfl rfl rfl rfl ⟨rfl, rfl, rfl, rfl, rfl⟩ rfl rfl rfl rfl rfl (by kernel_rfl) Try.func7 (by kernel_rfl)
  (of_decide_eq_true (by kernel_rfl)) (by unfold Func.isWrapper; first | (rw [if_pos (by decide +kernel)]; kernel_rfl) | (rw [if_neg (by decide +kernel)]; exact ⟨rfl, rfl⟩))
  (fun os started H enc _ => lifted os started H enc)
theorem proved : Rows.LoopPlainSaid := over
#print axioms proved
end Go.Proofs.Yteikgnaikeleaaa.loopPlain
namespace Go.Proofs.Yteikgnaikeleaaa
theorem loopPlain_holds : Rows.LoopPlainSaid := loopPlain.proved
end Go.Proofs.Yteikgnaikeleaaa
