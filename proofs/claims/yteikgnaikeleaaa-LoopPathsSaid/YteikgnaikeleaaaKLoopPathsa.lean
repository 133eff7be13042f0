-- Written by wip/pack.py of this repo: texts of this claim, put together.
import Derived.Test.YteikgnaikeleaaaRows
import Derived.WalkKit
import Derived.ProofKit
import Derived.OpenShut
import Derived.ShutString
import Derived.ChangeOld
import Derived.Below
import Derived.SizedLaws
import Derived.Test.YteikgnaikeleaaaKLoope
namespace Go.Proofs.Yteikgnaikeleaaa.XLoop
open Go.RowKit Go.Proofs.YteikgnaikeleaaaW.PrintWords Go.Proofs.YteikgnaikeleaaaW.PrintLast Go.Proofs.YteikgnaikeleaaaW.PrintMore
attribute [local go_sem] max2_int min2_int max_two min_two max_three min_three max_four min_four   -- for this text's walks alone
set_option linter.unusedVariables false
set_option linter.unusedSimpArgs false
/-! ### dropperref09_Paths: function 17 -/
def dropperref09_Paths.f (a0 : ByteArray) : Option ((List ByteArray) × Int) := some ((pathsR a0.data.toList).1, (pathsR a0.data.toList).2)
theorem dropperref09_Paths.calls (a0 : ByteArray) (r1 : List ByteArray) (r2 : Int) (w : World) (h : dropperref09_Paths.f a0 = some (r1, r2)) :
  Calls Try.prog 17 #[.string a0] w fun e w' => ∃ v0_ : Value, e = .returned (.tuple #[v0_, .int .i64 r2]) ∧ Kd.R Kd.string 9 w' w.heap.size (fun _ => True) v0_ r1 ∧ Below w.heap.size w w' := by
 obtain ⟨rfl, rfl⟩ := Prod.mk.inj (Option.some.inj h)
 have hc := rpaths_calls a0.data.toList w
 simp only [tx_data] at hc
 exact hc

/-! ### dropperref09_Cuts: function 19 -/
def dropperref09_Cuts.f (a0 : ByteArray) : Option ((List ByteArray) × Int) := some ((cutsR a0.data.toList).1, (cutsR a0.data.toList).2)
theorem dropperref09_Cuts.calls (a0 : ByteArray) (r1 : List ByteArray) (r2 : Int) (w : World) (h : dropperref09_Cuts.f a0 = some (r1, r2)) :
  Calls Try.prog 19 #[.string a0] w fun e w' => ∃ v0_ : Value, e = .returned (.tuple #[v0_, .int .i64 r2]) ∧ Kd.R Kd.string 9 w' w.heap.size (fun _ => True) v0_ r1 ∧ Below w.heap.size w w' := by
 obtain ⟨rfl, rfl⟩ := Prod.mk.inj (Option.some.inj h)
 have hc := rcuts_calls a0.data.toList w
 simp only [tx_data] at hc
 exact hc

/-! ### dropperlaw09_LoopPaths: function 3 -/
def dropperlaw09_LoopPaths.f (k : Nat) (a0 : ByteArray) : Option (Bool) := (dropperlaw09_Long.f a0 (⟨#[]⟩ : ByteArray)).bind fun t121 => (if t121 = true then ((dropperlaw09_First.f k).bind fun t122 => (some t122)) else ((loop_Paths.f a0).bind fun bt123 => ((dropperref09_Paths.f a0).bind fun bt127 => ((loop_Cuts.f a0).bind fun bt131 => ((dropperref09_Cuts.f a0).bind fun bt135 => ((dropperlaw09_SameTexts.f k bt123.1 bt127.1).bind fun t139 => (if t139 = true then (if bt123.2 = bt127.2 then ((dropperlaw09_SameTexts.f k bt131.1 bt135.1).bind fun t140 => (if t140 = true then (if bt131.2 = bt135.2 then ((dropperlaw09_First.f k).bind fun t141 => (some t141)) else (none)) else (none))) else (none)) else (none))))))))
set_option maxHeartbeats 8000000 in
set_option maxRecDepth 100000 in
theorem dropperlaw09_LoopPaths.calls (k : Nat) (a0 : ByteArray) (r : Bool) (w : World) (h : dropperlaw09_LoopPaths.f k a0 = some r) :
  Calls Try.prog 3 #[.string a0] w fun e w' => e = .returned (.bool r) ∧ Below w.heap.size w w' := by
 have HB := Aside0.mk (Below.refl w.heap.size w)
 have H : ((dropperlaw09_Long.f a0 (⟨#[]⟩ : ByteArray)).bind fun t121 => (if t121 = true then ((dropperlaw09_First.f k).bind fun t122 => (some t122)) else ((loop_Paths.f a0).bind fun bt123 => ((dropperref09_Paths.f a0).bind fun bt127 => ((loop_Cuts.f a0).bind fun bt131 => ((dropperref09_Cuts.f a0).bind fun bt135 => ((dropperlaw09_SameTexts.f k bt123.1 bt127.1).bind fun t139 => (if t139 = true then (if bt123.2 = bt127.2 then ((dropperlaw09_SameTexts.f k bt131.1 bt135.1).bind fun t140 => (if t140 = true then (if bt131.2 = bt135.2 then ((dropperlaw09_First.f k).bind fun t141 => (some t141)) else (none)) else (none))) else (none)) else (none))))))))) = some r := h
 clear h
 replace H := Option.bind_eq_some_iff.mp H
 obtain ⟨t121, A20, H⟩ := H
 try dsimp only at H
 have A2 := Aside0.mk A20
 clear A20
 by_cases c3 : t121 = true
 ·
  subst c3
  rw [if_pos rfl] at H
  replace H := Option.bind_eq_some_iff.mp H
  obtain ⟨t122, A40, H⟩ := H
  try dsimp only at H
  have A4 := Aside0.mk A40
  clear A40
  obtain rfl := Option.some.inj H
  go_enter Try.func3, Try.ntmps3
  go_wp2_with (first | ((with_reducible refine gate_callee (f := 14) rfl ?_); refine goesL_ (some 12) rfl rfl Try.func14 (by kernel_rfl) rfl #[.string a0, .string (⟨#[]⟩ : ByteArray)] rfl mapz ?_; (with_reducible refine (dropperlaw09_Long.calls a0 (⟨#[]⟩ : ByteArray) true _ A2.out).mono ?_); rintro e w' ⟨rfl, ⟨nd, rfl⟩⟩; refine ⟨_, rfl, ?_⟩) | ((with_reducible refine gate_callee (f := 15) rfl ?_); refine goesL_ (some 13) rfl rfl Try.func15 (by kernel_rfl) rfl #[] rfl mapz ?_; (with_reducible refine (dropperlaw09_First.calls k  t122 _ A4.out).mono ?_); rintro e w5 ⟨rfl, hb⟩; refine ⟨_, rfl, ?_⟩; replace HB := Aside0.mk (below_step bel hb); clear hb))
  go_ret
  exact ⟨ezz, bel⟩
 ·
  replace c3 := Bool.eq_false_iff.mpr c3
  subst c3
  rw [if_neg (show ¬ (false = true) by decide)] at H
  replace H := Option.bind_eq_some_iff.mp H
  obtain ⟨⟨t123, t124⟩, A60, H⟩ := H
  try dsimp only at H
  have A6 := Aside0.mk A60
  clear A60
  replace H := Option.bind_eq_some_iff.mp H
  obtain ⟨⟨t127, t128⟩, A70, H⟩ := H
  try dsimp only at H
  have A7 := Aside0.mk A70
  clear A70
  replace H := Option.bind_eq_some_iff.mp H
  obtain ⟨⟨t131, t132⟩, A80, H⟩ := H
  try dsimp only at H
  have A8 := Aside0.mk A80
  clear A80
  replace H := Option.bind_eq_some_iff.mp H
  obtain ⟨⟨t135, t136⟩, A90, H⟩ := H
  try dsimp only at H
  have A9 := Aside0.mk A90
  clear A90
  replace H := Option.bind_eq_some_iff.mp H
  obtain ⟨t139, A100, H⟩ := H
  try dsimp only at H
  have A10 := Aside0.mk A100
  clear A100
  by_cases c11 : t139 = true
  ·
   subst c11
   rw [if_pos rfl] at H
   by_cases c12 : t124 = t128
   ·
    rw [if_pos c12] at H
    have c12b0 : (t124 == t128) = true := beq_iff_eq.mpr c12
    have c12b1 : (t124 != t128) = false := bne_eq_false_iff_eq.mpr c12
    clear c12
    replace H := Option.bind_eq_some_iff.mp H
    obtain ⟨t140, A130, H⟩ := H
    try dsimp only at H
    have A13 := Aside0.mk A130
    clear A130
    by_cases c14 : t140 = true
    ·
     subst c14
     rw [if_pos rfl] at H
     by_cases c15 : t132 = t136
     ·
      rw [if_pos c15] at H
      have c15b0 : (t132 == t136) = true := beq_iff_eq.mpr c15
      have c15b1 : (t132 != t136) = false := bne_eq_false_iff_eq.mpr c15
      clear c15
      replace H := Option.bind_eq_some_iff.mp H
      obtain ⟨t141, A160, H⟩ := H
      try dsimp only at H
      have A16 := Aside0.mk A160
      clear A160
      obtain rfl := Option.some.inj H
      go_enter Try.func3, Try.ntmps3
      go_wp2_with (first | ((with_reducible refine gate_callee (f := 14) rfl ?_); refine goesL_ (some 12) rfl rfl Try.func14 (by kernel_rfl) rfl #[.string a0, .string (⟨#[]⟩ : ByteArray)] rfl mapz ?_; (with_reducible refine (dropperlaw09_Long.calls a0 (⟨#[]⟩ : ByteArray) false _ A2.out).mono ?_); rintro e w' ⟨rfl, ⟨nd, rfl⟩⟩; refine ⟨_, rfl, ?_⟩) | ((with_reducible refine gate_callee (f := 16) rfl ?_); refine goesL_ (some 16) rfl rfl Try.func16 (by kernel_rfl) rfl #[.string a0] rfl mapz ?_; (with_reducible refine (loop_Paths.calls a0 t123 t124 _ A6.out).mono ?_); rintro e w17 ⟨v125, rfl, ho0, hb⟩; refine ⟨_, rfl, ?_⟩; have HO126 := Aside0.mk (Kd.R_lower ho0 (below_size bel)); replace HB := Aside0.mk (below_step bel hb); (try clear hb); (try clear hb2); (try clear hk); (try clear hi); (try clear ho0)) | ((with_reducible refine gate_callee (f := 17) rfl ?_); refine goesL_ (some 21) rfl rfl Try.func17 (by kernel_rfl) rfl #[.string a0] rfl mapz ?_; (with_reducible refine (dropperref09_Paths.calls a0 t127 t128 _ A7.out).mono ?_); rintro e w18 ⟨v129, rfl, ho0, hb⟩; refine ⟨_, rfl, ?_⟩; have HO130 := Aside0.mk (Kd.R_lower (Kd.R_new' ho0 (Kd.R_lt (ownx HO126))) (below_size bel)); replace HO126 := Aside0.mk (Kd.R_elder' (ownx HO126) (Kd.R_base ho0) hb); replace HB := Aside0.mk (below_step bel hb); (try clear hb); (try clear hb2); (try clear hk); (try clear hi); (try clear ho0)) | ((with_reducible refine gate_callee (f := 18) rfl ?_); refine goesL_ (some 26) rfl rfl Try.func18 (by kernel_rfl) rfl #[.string a0] rfl mapz ?_; (with_reducible refine (loop_Cuts.calls a0 t131 t132 _ A8.out).mono ?_); rintro e w19 ⟨v133, rfl, ho0, hb⟩; refine ⟨_, rfl, ?_⟩; have HO134 := Aside0.mk (Kd.R_lower (Kd.R_new' (Kd.R_new' ho0 (Kd.R_lt (ownx HO126))) (Kd.R_lt (ownx HO130))) (below_size bel)); replace HO126 := Aside0.mk (Kd.R_elder' (ownx HO126) (Kd.R_base ho0) hb); replace HO130 := Aside0.mk (Kd.R_elder' (ownx HO130) (Kd.R_base ho0) hb); replace HB := Aside0.mk (below_step bel hb); (try clear hb); (try clear hb2); (try clear hk); (try clear hi); (try clear ho0)) | ((with_reducible refine gate_callee (f := 19) rfl ?_); refine goesL_ (some 31) rfl rfl Try.func19 (by kernel_rfl) rfl #[.string a0] rfl mapz ?_; (with_reducible refine (dropperref09_Cuts.calls a0 t135 t136 _ A9.out).mono ?_); rintro e w20 ⟨v137, rfl, ho0, hb⟩; refine ⟨_, rfl, ?_⟩; have HO138 := Aside0.mk (Kd.R_lower (Kd.R_new' (Kd.R_new' (Kd.R_new' ho0 (Kd.R_lt (ownx HO126))) (Kd.R_lt (ownx HO130))) (Kd.R_lt (ownx HO134))) (below_size bel)); replace HO126 := Aside0.mk (Kd.R_elder' (ownx HO126) (Kd.R_base ho0) hb); replace HO130 := Aside0.mk (Kd.R_elder' (ownx HO130) (Kd.R_base ho0) hb); replace HO134 := Aside0.mk (Kd.R_elder' (ownx HO134) (Kd.R_base ho0) hb); replace HB := Aside0.mk (below_step bel hb); (try clear hb); (try clear hb2); (try clear hk); (try clear hi); (try clear ho0); obtain ⟨Ao21, co21, eo21⟩ := Kd.R_slice HO126.out; subst eo21; obtain ⟨Ao22, co22, eo22⟩ := Kd.R_slice HO130.out; subst eo22) | ((with_reducible refine gate_callee (f := 20) rfl ?_); refine goesL_ (some 36) rfl rfl Try.func20 (by kernel_rfl) rfl #[.slice Ao21 t123.length co21, .slice Ao22 t127.length co22] rfl mapz ?_; (with_reducible refine (dropperlaw09_SameTexts.calls k _ _ t123 _ _ t127 true _ ?side1 ?side2 ?side3 ?side4 A10.out).mono ?_); (case side1 => repeat (first | exact (Kd.R_reads' HO126.out).2.2 | (with_reducible refine Kd.C_alloc ?_ _) | (with_reducible refine Kd.C_drewN ?_ _) | (with_reducible refine Kd.C_drew ?_))); (case side2 => exact (Kd.R_reads' HO126.out).2.1); (case side3 => repeat (first | exact (Kd.R_reads' HO130.out).2.2 | (with_reducible refine Kd.C_alloc ?_ _) | (with_reducible refine Kd.C_drewN ?_ _) | (with_reducible refine Kd.C_drew ?_))); (case side4 => exact (Kd.R_reads' HO130.out).2.1); rintro e w' ⟨rfl, ⟨nd, rfl⟩⟩; refine ⟨_, rfl, ?_⟩; obtain ⟨Ao23, co23, eo23⟩ := Kd.R_slice HO134.out; subst eo23; obtain ⟨Ao24, co24, eo24⟩ := Kd.R_slice HO138.out; subst eo24) | (go_at_call 20; (with_reducible refine (dropperlaw09_SameTexts.calls k _ _ t131 _ _ t135 true _ ?side1 ?side2 ?side3 ?side4 A13.out).mono ?_); (case side1 => repeat (first | exact (Kd.R_reads' HO134.out).2.2 | (with_reducible refine Kd.C_alloc ?_ _) | (with_reducible refine Kd.C_drewN ?_ _) | (with_reducible refine Kd.C_drew ?_))); (case side2 => exact (Kd.R_reads' HO134.out).2.1); (case side3 => repeat (first | exact (Kd.R_reads' HO138.out).2.2 | (with_reducible refine Kd.C_alloc ?_ _) | (with_reducible refine Kd.C_drewN ?_ _) | (with_reducible refine Kd.C_drew ?_))); (case side4 => exact (Kd.R_reads' HO138.out).2.1); rintro e w' ⟨rfl, ⟨nd, rfl⟩⟩) | (go_at_call 15; (with_reducible refine (dropperlaw09_First.calls k  t141 _ A16.out).mono ?_); rintro e w25 ⟨rfl, hb⟩; replace HO126 := Aside0.mk (Kd.R_below (ownx HO126) hb); replace HO130 := Aside0.mk (Kd.R_below (ownx HO130) hb); replace HO134 := Aside0.mk (Kd.R_below (ownx HO134) hb); replace HO138 := Aside0.mk (Kd.R_below (ownx HO138) hb); replace HB := Aside0.mk (below_step bel hb); clear hb))
      go_ret
      exact ⟨ezz, bel⟩
     ·
      rw [if_neg c15] at H
      exact absurd H (by simp)
    ·
     replace c14 := Bool.eq_false_iff.mpr c14
     subst c14
     rw [if_neg (show ¬ (false = true) by decide)] at H
     exact absurd H (by simp)
   ·
    rw [if_neg c12] at H
    exact absurd H (by simp)
  ·
   replace c11 := Bool.eq_false_iff.mpr c11
   subst c11
   rw [if_neg (show ¬ (false = true) by decide)] at H
   exact absurd H (by simp)

end Go.Proofs.Yteikgnaikeleaaa.XLoop
-- Written by wip/xprint.py of this repo, over the kit's print.py: out of the translation; the oracles in it are by hand. Not trusted: Lean checks it.
namespace Go.Proofs.Yteikgnaikeleaaa.XLoop
open Go.RowKit Go.Proofs.Yteikgnaikeleaaa.XLoop Go.Proofs.YteikgnaikeleaaaW.PrintWords Go.Proofs.YteikgnaikeleaaaW.PrintLast Go.Proofs.YteikgnaikeleaaaW.PrintMore
def dropperlaw09_LoopPaths.Pure : Prop := ∀ (a0 : ByteArray), (a0.size ≤ maxLen) → ∃ k, dropperlaw09_LoopPaths.f k a0 = some true
end Go.Proofs.Yteikgnaikeleaaa.XLoop

/- The least paths and cuts: program and reference answer the same. -/
namespace Go.Proofs.Yteikgnaikeleaaa.Pure
set_option linter.unusedVariables false
open Go.RowKit Go.Proofs.Yteikgnaikeleaaa.XLoop Go.Proofs.YteikgnaikeleaaaW.PrintWords Go.Proofs.YteikgnaikeleaaaW.PrintLast Go.Proofs.YteikgnaikeleaaaW.PrintMore

theorem same_from (l : List ByteArray) (hl : l.length < 1000000000) : ∀ (k x : Nat), x ≤ l.length → l.length < k + x → dropperlaw09_SameTexts.l0 k l l (x : Int) = some true
 | 0, x, h1, h2 => by omega
 | k + 1, x, h1, h2 => by
  rw [dropperlaw09_SameTexts.l0]
  by_cases hx : x < l.length
  ·
   have hw : wrap64 ((x : Int) + 1) = ((x + 1 : Nat) : Int) := by unfold wrap64; omega
   rw [if_pos (by omega), if_pos (by omega), if_pos (by omega), if_pos rfl, hw]
   exact same_from l hl k (x + 1) (by omega) (by omega)
  ·
   rw [if_neg (by omega)]
theorem same_self (l : List ByteArray) (hl : l.length ≤ 256) : dropperlaw09_SameTexts.f 300 l l = some true := by
 unfold dropperlaw09_SameTexts.f
 rw [if_pos rfl]
 exact same_from l (by omega) 300 0 (by omega) (by omega)
theorem pathsR_len (s : List UInt8) : (pathsR s).1.length ≤ 256 := by
 unfold pathsR
 cases parseL s with
 | none => exact Nat.zero_le _
 | some m => simp only [textsOf, List.length_map]; exact leastF_len _
theorem cutsR_len (s : List UInt8) : (cutsR s).1.length ≤ 256 := by
 unfold cutsR
 cases parseL s with
 | none => exact Nat.zero_le _
 | some m => simp only [textsOf, List.length_map]; exact leastF_len _
theorem LoopPaths : dropperlaw09_LoopPaths.Pure := by
 intro a _
 refine ⟨300, ?_⟩
 have hF : dropperlaw09_First.f 300 = some true := first_evk 297
 unfold dropperlaw09_LoopPaths.f
 rcases long_ev a ⟨#[]⟩ with hl | ⟨hl, h1, h2⟩
 ·
  rw [hl, Option.bind_some, if_pos rfl, hF]; rfl
 ·
  rw [hl, Option.bind_some, if_neg (by decide), hF]
  unfold loop_Paths.f loop_Cuts.f dropperref09_Paths.f dropperref09_Cuts.f
  simp only [Option.bind_some, if_true, same_self _ (pathsR_len a.data.toList), same_self _ (cutsR_len a.data.toList)]
end Go.Proofs.Yteikgnaikeleaaa.Pure

-- Written by wip/xprint.py of this repo, over the kit's print.py: out of the translation; the oracles in it are by hand. Not trusted: Lean checks it.
namespace Go.Proofs.Yteikgnaikeleaaa.loopPaths
open Go.ChangeShapes Go.WideShapes Go.ChangeAt Go.RowKit Go.Proofs.Yteikgnaikeleaaa.Open Go.Proofs.Yteikgnaikeleaaa.XLoop Go.Proofs.YteikgnaikeleaaaW.PrintWords Go.Proofs.YteikgnaikeleaaaW.PrintLast Go.Proofs.YteikgnaikeleaaaW.PrintMore
open Go.ChangeMaps (open_string shut_string)
set_option linter.unusedVariables false
set_option linter.unusedSimpArgs false
theorem own : ownKnob Try.prog.godebug = none := by kernel_rfl
theorem laidOut : laidOutB Try.prog = true := by kernel_rfl
set_option maxRecDepth 100000 in
theorem lifted (os : Os) (started : os.Started) (H : Type) (enc : TypeId × Value → H) :
  ReturnsInHanded {} Try.checked os 3 .any (Rows.loopPathsSpec.pre6 enc Try.prog Try.f3 Rows.loopPathsRow.domain false) (Rows.loopPathsSpec.post enc Try.prog Try.f3 false true false false) := by
 refine returnsInHanded_of_change_sized (C := Try.checked) own started (by kernel_rfl) Try.func3
  (ChangeSpec.witness6 (enc := enc) (C := Try.checked) false ⟨#[], #[.string ByteArray.empty], []⟩ 8 (by kernel_rfl) (by kernel_rfl) (by kernel_rfl) (by kernel_rfl)) ?_
 intro W base args ds gs before hval0 hW hcnd hsz0 _
 have hval : ∀ (j : Nat) t v, Try.f3.params[j]? = some t → args[j]? = some v → Value.okWide Try.prog W .any base t v := hval0
 have hW' := hW
 obtain ⟨p, q, hA0, hV, rfl, hfz, hnd⟩ := hW
 have hA : DataW.TrodAll enc Try.prog W 0 (fun _ => true) true Try.f3.params.toList args.toList ds p := hA0
 rw [Try.params3] at hA hval
 obtain ⟨v0, vs0, d0, ds0, p0, q0, hargs, rfl, rfl, h0, r0⟩ := trodAll_cons hA
 obtain ⟨rfl, rfl, rfl⟩ := trodAll_nil r0
 obtain rfl : args = #[v0] := by cases args; simp_all
 obtain ⟨rfl, rfl⟩ := trodVars_none hV
 obtain ⟨a0, rfl, rfl, rfl, y0⟩ := open_string Try.underlying9 (hval 0 9 v0 rfl rfl) h0
 clear hA0 hval0 hsz0
 obtain ⟨k, h⟩ := Pure.LoopPaths a0 y0
 refine (dropperlaw09_LoopPaths.calls k a0 true W  h).mono fun e W' ⟨he, bel0⟩ => ?_
 have bel : Below W.heap.size W W' := bel0
 subst he
 exact ⟨_, rfl, _, _, _, [], _, [], hW', trodAll_mk1 (shut_bool Try.underlying4 _), (trodAll_cons_mk (shut_string Try.underlying9 y0) trodAll_mk0), rfl, bel.frame _, fun h => by cases h⟩
theorem over : Rows.loopPathsRow.holds Try.pinned (OpenSpec.ofChange Rows.loopPathsSpec) :=
 OpenClaim.holds_of_wide 3 Try.f3 rfl rfl rfl rfl rfl rfl rfl ⟨rfl, rfl, rfl, rfl, rfl⟩ rfl rfl rfl rfl rfl (by kernel_rfl) Try.func3 (by kernel_rfl)
  (of_decide_eq_true (by kernel_rfl)) (by unfold Func.isWrapper; first | (rw [if_pos (by decide +kernel)]; kernel_rfl) | (rw [if_neg (by decide +kernel)]; exact ⟨rfl, rfl⟩))
  (fun os started H enc _ => lifted os started H enc)
theorem proved : Rows.LoopPathsSaid := over
#print axioms proved
end Go.Proofs.Yteikgnaikeleaaa.loopPaths
namespace Go.Proofs.Yteikgnaikeleaaa
theorem loopPaths_holds : Rows.LoopPathsSaid := loopPaths.proved
end Go.Proofs.Yteikgnaikeleaaa
