-- Written by wip/pack.py of this repo: texts of this claim, put together.
import Derived.Test.YtcmdcgghpkcchaaDoorRows
import Derived.Test.YtcmdcgghpkcchaaDoorTie
import Derived.Test.YtcmdcgghpkcchaaDoorCards
import Derived.SevenTiedAt
import Derived.LaidMore
import Derived.Stop.Joined
import Derived.WalkKit
import Derived.ProofKit
import Derived.OpenShut
import Derived.ShutString
import Derived.ChangeOld
import Derived.Below
import Derived.SizedLaws
import Derived.Test.YtcmdcgghpkcchaaDoorKMastf
namespace Go.Proofs.YtcmdcgghpkcchaaDoor.XMast
open Go.RowKit Go.Proofs.YtcmdcgghpkcchaaDoorW.PrintWords Go.Proofs.YtcmdcgghpkcchaaDoorW.PrintLast Go.Proofs.YtcmdcgghpkcchaaDoorW.PrintMore
attribute [local go_sem] max2_int min2_int max_two min_two max_three min_three max_four min_four   -- for this text's walks alone
set_option linter.unusedVariables false
set_option linter.unusedSimpArgs false
/-! ### dropperlaw01_MastMetres: function 4 -/
def dropperlaw01_MastMetres.j0 : Nat → List (S46) → Int → Bool → Option (Bool)
 | 0, _, _, _ => none
 | k + 1, x0, x1, x55 => if x55 = true then (none) else ((mast_Near.f k x0 x1).bind fun bt257 => ((dropperref01_Near.f k x0 x1).bind fun bt259 => (if bt257.1 = bt259.1 then (if bt257.2 = bt259.2 then ((dropperlaw01_First.f k).bind fun t261 => (some t261)) else (none)) else (none))))
def dropperlaw01_MastMetres.f (k : Nat) (l0 : List (S46)) (a1 : Int) : Option (Bool) := (dropperlaw01_Long.f l0 ([] : List (S46))).bind fun t247 => (if t247 = true then ((dropperlaw01_First.f k).bind fun t248 => (some t248)) else ((mast_Length.f k l0).bind fun bt249 => ((dropperref01_Length.f k l0).bind fun bt251 => ((mast_Has.f k l0 a1).bind fun bt253 => ((dropperref01_Has.f k l0 a1).bind fun bt255 => (if bt249.1 = bt251.1 then (if bt249.2 = bt251.2 then (if (bt253.1 != bt255.1) = true then (dropperlaw01_MastMetres.j0 k l0 a1 true) else (dropperlaw01_MastMetres.j0 k l0 a1 (bt253.2 != bt255.2))) else (dropperlaw01_MastMetres.j0 k l0 a1 true)) else (dropperlaw01_MastMetres.j0 k l0 a1 true)))))))
set_option maxHeartbeats 8000000 in
set_option maxRecDepth 100000 in
theorem dropperlaw01_MastMetres.calls (k : Nat) (A0 : Option Addr) (c0 : Nat) (l0 : List (S46)) (a1 : Int) (r : Bool) (w : World) (hr0 : Kd.C k46 w A0 l0.length l0) (hc0 : l0.length ≤ c0) (hT : Tab.Tabs w) (h : dropperlaw01_MastMetres.f k l0 a1 = some r) :
  Calls Tryd.prog 4 #[.slice A0 l0.length c0, .int .i64 a1] w fun e w' => e = .returned (.bool r) ∧ Below w.heap.size w w' := by
 have HT := Aside0.mk hT
 clear hT
 have HR0 := Aside0.mk hr0
 have HC0 := Aside0.mk hc0
 clear hr0 hc0
 have HB := Aside0.mk (Below.refl w.heap.size w)
 have H : ((dropperlaw01_Long.f l0 ([] : List (S46))).bind fun t247 => (if t247 = true then ((dropperlaw01_First.f k).bind fun t248 => (some t248)) else ((mast_Length.f k l0).bind fun bt249 => ((dropperref01_Length.f k l0).bind fun bt251 => ((mast_Has.f k l0 a1).bind fun bt253 => ((dropperref01_Has.f k l0 a1).bind fun bt255 => (if bt249.1 = bt251.1 then (if bt249.2 = bt251.2 then (if (bt253.1 != bt255.1) = true then (dropperlaw01_MastMetres.j0 k l0 a1 true) else (dropperlaw01_MastMetres.j0 k l0 a1 (bt253.2 != bt255.2))) else (dropperlaw01_MastMetres.j0 k l0 a1 true)) else (dropperlaw01_MastMetres.j0 k l0 a1 true)))))))) = some r := h
 clear h
 replace H := Option.bind_eq_some_iff.mp H
 obtain ⟨t247, A30, H⟩ := H
 try dsimp only at H
 have A3 := Aside0.mk A30
 clear A30
 by_cases c4 : t247 = true
 ·
  subst c4
  rw [if_pos rfl] at H
  replace H := Option.bind_eq_some_iff.mp H
  obtain ⟨t248, A50, H⟩ := H
  try dsimp only at H
  have A5 := Aside0.mk A50
  clear A50
  obtain rfl := Option.some.inj H
  go_enter Tryd.func4, Tryd.ntmps4
  go_wp2_with (first | ((with_reducible refine gate_callee (f := 10) rfl ?_); refine goesL_ (some 14) rfl rfl Tryd.func10 (by kernel_rfl) rfl #[.slice A0 l0.length c0, .slice none 0 0] rfl mapz ?_; (refine (dropperlaw01_Long.calls _ _ l0 _ _ ([] : List (S46)) true _ ?side1 HC0.out ?side3 ?side4 A3.out).mono ?_); (case side1 => repeat (first | exact HR0.out | (with_reducible refine Kd.C_alloc ?_ _) | (with_reducible refine Kd.C_drewN ?_ _) | (with_reducible refine Kd.C_drew ?_))); (case side3 => exact Kd.C_nil _ _); (case side4 => exact Nat.le_refl _); rintro e w' ⟨rfl, ⟨nd, rfl⟩⟩; refine ⟨_, rfl, ?_⟩) | ((with_reducible refine gate_callee (f := 11) rfl ?_); refine goesL_ (some 15) rfl rfl Tryd.func11 (by kernel_rfl) rfl #[] rfl mapz ?_; (with_reducible refine (dropperlaw01_First.calls k  t248 _ (tbz HT) A5.out).mono ?_); rintro e w6 ⟨rfl, hb⟩; refine ⟨_, rfl, ?_⟩; replace HB := Aside0.mk (below_step bel hb); clear hb))
  go_ret
  exact ⟨ezz, bel⟩
 ·
  replace c4 := Bool.eq_false_iff.mpr c4
  subst c4
  rw [if_neg (show ¬ (false = true) by decide)] at H
  replace H := Option.bind_eq_some_iff.mp H
  obtain ⟨⟨t249, t250⟩, A70, H⟩ := H
  try dsimp only at H
  have A7 := Aside0.mk A70
  clear A70
  replace H := Option.bind_eq_some_iff.mp H
  obtain ⟨⟨t251, t252⟩, A80, H⟩ := H
  try dsimp only at H
  have A8 := Aside0.mk A80
  clear A80
  replace H := Option.bind_eq_some_iff.mp H
  obtain ⟨⟨t253, t254⟩, A90, H⟩ := H
  try dsimp only at H
  have A9 := Aside0.mk A90
  clear A90
  replace H := Option.bind_eq_some_iff.mp H
  obtain ⟨⟨t255, t256⟩, A100, H⟩ := H
  try dsimp only at H
  have A10 := Aside0.mk A100
  clear A100
  have HC11 := Aside0.mk H
  clear H
  go_enter Tryd.func4, Tryd.ntmps4
  go_upto_region 7 with (first | ((with_reducible refine gate_callee (f := 10) rfl ?_); refine goesL_ (some 14) rfl rfl Tryd.func10 (by kernel_rfl) rfl #[.slice A0 l0.length c0, .slice none 0 0] rfl mapz ?_; (refine (dropperlaw01_Long.calls _ _ l0 _ _ ([] : List (S46)) false _ ?side1 HC0.out ?side3 ?side4 A3.out).mono ?_); (case side1 => repeat (first | exact HR0.out | (with_reducible refine Kd.C_alloc ?_ _) | (with_reducible refine Kd.C_drewN ?_ _) | (with_reducible refine Kd.C_drew ?_))); (case side3 => exact Kd.C_nil _ _); (case side4 => exact Nat.le_refl _); rintro e w' ⟨rfl, ⟨nd, rfl⟩⟩; refine ⟨_, rfl, ?_⟩) | ((with_reducible refine gate_callee (f := 19) rfl ?_); refine goesL_ (some 18) rfl rfl Tryd.func19 (by kernel_rfl) rfl #[.slice A0 l0.length c0] rfl mapz ?_; (with_reducible refine (mast_Length.calls k _ _ l0 t249 t250 _ ?side1 HC0.out A7.out).mono ?_); (case side1 => repeat (first | exact HR0.out | (with_reducible refine Kd.C_alloc ?_ _) | (with_reducible refine Kd.C_drewN ?_ _) | (with_reducible refine Kd.C_drew ?_))); rintro e w12 ⟨rfl, hb⟩; refine ⟨_, rfl, ?_⟩; replace HB := Aside0.mk (below_step bel hb); clear hb) | ((with_reducible refine gate_callee (f := 20) rfl ?_); refine goesL_ (some 23) rfl rfl Tryd.func20 (by kernel_rfl) rfl #[.slice A0 l0.length c0] rfl mapz ?_; (with_reducible refine (dropperref01_Length.calls k _ _ l0 t251 t252 _ (cbz HR0) HC0.out A8.out).mono ?_); rintro e w13 ⟨rfl, hb⟩; refine ⟨_, rfl, ?_⟩; replace HB := Aside0.mk (below_step bel hb); clear hb) | ((with_reducible refine gate_callee (f := 21) rfl ?_); refine goesL_ (some 29) rfl rfl Tryd.func21 (by kernel_rfl) rfl #[.slice A0 l0.length c0, .int .i64 a1] rfl mapz ?_; (with_reducible refine (mast_Has.calls k _ _ l0 a1 t253 t254 _ (cbz HR0) HC0.out A9.out).mono ?_); rintro e w14 ⟨rfl, hb⟩; refine ⟨_, rfl, ?_⟩; replace HB := Aside0.mk (below_step bel hb); clear hb) | ((with_reducible refine gate_callee (f := 22) rfl ?_); refine goesL_ (some 35) rfl rfl Tryd.func22 (by kernel_rfl) rfl #[.slice A0 l0.length c0, .int .i64 a1] rfl mapz ?_; (with_reducible refine (dropperref01_Has.calls k _ _ l0 a1 t255 t256 _ (cbz HR0) HC0.out A10.out).mono ?_); rintro e w15 ⟨rfl, hb⟩; refine ⟨_, rfl, ?_⟩; replace HB := Aside0.mk (below_step bel hb); clear hb))
  (try simp only [Act.put, List.setIfInBounds_toArray, List.set_cons_zero, List.set_cons_succ])
  go_cut [55] (fun v55 wc => ∃ (kq : Nat) (x55_10 : Bool), v55 = .bool x55_10 ∧ Aside0 (dropperlaw01_MastMetres.j0 kq l0 a1 x55_10 = some r) ∧ Aside0 (kq ≤ k) ∧ Aside0 (Below w.heap.size w wc))
  case first =>
   have H := HC11.out
   clear HC11
   by_cases c16 : t249 = t251
   ·
    rw [if_pos c16] at H
    have c16b0 : (t249 == t251) = true := beq_iff_eq.mpr c16
    have c16b1 : (t249 != t251) = false := bne_eq_false_iff_eq.mpr c16
    clear c16
    (first | rw [c16b0] | (simp only [i64_w, i32_w]; rw [c16b0]) | skip)
    by_cases c17 : t250 = t252
    ·
     rw [if_pos c17] at H
     have c17b0 : (t250 == t252) = true := beq_iff_eq.mpr c17
     have c17b1 : (t250 != t252) = false := bne_eq_false_iff_eq.mpr c17
     clear c17
     by_cases c18 : (t253 != t255) = true
     ·
      rw [if_pos c18] at H
      have c18b0 : (t253 != t255) = true := c18
      (try (have c18b1 : decide (t253 = t255) = false := by simpa using c18))
      (try (have c18b2 : (t253 == t255) = false := by simpa using c18))
      (try (have c18b3 : ¬ (t253 = t255) := by simpa using c18))
      clear c18
      have H' := Aside0.mk H
      clear H
      go_wp2
      go_meet
      case rel => exact ⟨_, (true), rsz, H', ⟨by first | omega | exact Nat.le_refl _⟩, ⟨bel⟩⟩
     ·
      rw [if_neg c18] at H
      have c18b0 : (t253 != t255) = false := by simpa using c18
      (try (have c18b1 : decide (t253 = t255) = true := by simpa using c18))
      (try (have c18b2 : (t253 == t255) = true := by simpa using c18))
      clear c18
      have H' := Aside0.mk H
      clear H
      go_wp2
      go_meet
      case rel => exact ⟨_, ((t254 != t256)), rsz, H', ⟨by first | omega | exact Nat.le_refl _⟩, ⟨bel⟩⟩
    ·
     rw [if_neg c17] at H
     have c17b0 : (t250 == t252) = false := beq_eq_false_iff_ne.mpr c17
     have c17b1 : (t250 != t252) = true := bne_iff_ne.mpr c17
     have H' := Aside0.mk H
     clear H
     go_wp2
     go_meet
     case rel => exact ⟨_, (true), rsz, H', ⟨by first | omega | exact Nat.le_refl _⟩, ⟨bel⟩⟩
   ·
    rw [if_neg c16] at H
    have c16b0 : (t249 == t251) = false := beq_eq_false_iff_ne.mpr c16
    have c16b1 : (t249 != t251) = true := bne_iff_ne.mpr c16
    (first | rw [c16b0] | (simp only [i64_w, i32_w]; rw [c16b0]) | skip)
    have H' := Aside0.mk H
    clear H
    go_wp2
    go_meet
    case rel => exact ⟨_, (true), rsz, H', ⟨by first | omega | exact Nat.le_refl _⟩, ⟨bel⟩⟩
  case rest =>
   clear HC11
   (try clear c1); (try clear c2); (try clear p2); (try clear c4); (try clear c10); (try clear c11); (try clear c16); (try clear c16b0); (try clear c16b1); (try clear c17); (try clear c17b0); (try clear c17b1); (try clear c18); (try clear c18b0); (try clear c18b1); (try clear c18b2)
   obtain ⟨kq, x55_10, rfl, HA, HJ10, HB⟩ := hcut
   cases kq with
   | zero => exact absurd HA.out (by simp [dropperlaw01_MastMetres.j0])
   | succ kj10 =>
    have H := HA.out
    clear HA
    simp only [dropperlaw01_MastMetres.j0] at H
    by_cases c19 : x55_10 = true
    ·
     subst c19
     rw [if_pos rfl] at H
     exact absurd H (by simp)
    ·
     replace c19 := Bool.eq_false_iff.mpr c19
     subst c19
     rw [if_neg (show ¬ (false = true) by decide)] at H
     replace H := Option.bind_eq_some_iff.mp H
     obtain ⟨⟨t257, t258⟩, A200, H⟩ := H
     try dsimp only at H
     have A20 := Aside0.mk A200
     clear A200
     replace H := Option.bind_eq_some_iff.mp H
     obtain ⟨⟨t259, t260⟩, A210, H⟩ := H
     try dsimp only at H
     have A21 := Aside0.mk A210
     clear A210
     by_cases c22 : t257 = t259
     ·
      rw [if_pos c22] at H
      have c22b0 : (t257 == t259) = true := beq_iff_eq.mpr c22
      have c22b1 : (t257 != t259) = false := bne_eq_false_iff_eq.mpr c22
      clear c22
      by_cases c23 : t258 = t260
      ·
       rw [if_pos c23] at H
       have c23b0 : (t258 == t260) = true := beq_iff_eq.mpr c23
       have c23b1 : (t258 != t260) = false := bne_eq_false_iff_eq.mpr c23
       clear c23
       replace H := Option.bind_eq_some_iff.mp H
       obtain ⟨t261, A240, H⟩ := H
       try dsimp only at H
       have A24 := Aside0.mk A240
       clear A240
       obtain rfl := Option.some.inj H
       go_wp2_with (first | ((with_reducible refine gate_callee (f := 23) rfl ?_); refine goesL_ (some 59) rfl rfl Tryd.func23 (by kernel_rfl) rfl #[.slice A0 l0.length c0, .int .i64 a1] rfl mapz ?_; (with_reducible refine (mast_Near.calls kj10 _ _ l0 a1 t257 t258 _ (cbz HR0) HC0.out A20.out).mono ?_); rintro e w25 ⟨rfl, hb⟩; refine ⟨_, rfl, ?_⟩; replace HB := Aside0.mk (below_step bel hb); clear hb) | ((with_reducible refine gate_callee (f := 24) rfl ?_); refine goesL_ (some 65) rfl rfl Tryd.func24 (by kernel_rfl) rfl #[.slice A0 l0.length c0, .int .i64 a1] rfl mapz ?_; (with_reducible refine (dropperref01_Near.calls kj10 _ _ l0 a1 t259 t260 _ (cbz HR0) HC0.out A21.out).mono ?_); rintro e w26 ⟨rfl, hb⟩; refine ⟨_, rfl, ?_⟩; replace HB := Aside0.mk (below_step bel hb); clear hb) | (go_at_call 11; (with_reducible refine (dropperlaw01_First.calls kj10  t261 _ (tbz HT) A24.out).mono ?_); rintro e w27 ⟨rfl, hb⟩; replace HB := Aside0.mk (below_step bel hb); clear hb))
       go_ret
       exact ⟨ezz, bel⟩
      ·
       rw [if_neg c23] at H
       exact absurd H (by simp)
     ·
      rw [if_neg c22] at H
      exact absurd H (by simp)

end Go.Proofs.YtcmdcgghpkcchaaDoor.XMast
-- Written by wip/xprint.py of this repo, over the kit's print.py: out of the translation; the oracles in it are by hand. Not trusted: Lean checks it.
namespace Go.Proofs.YtcmdcgghpkcchaaDoor.XMast
open Go.RowKit Go.Proofs.YtcmdcgghpkcchaaDoor.XMast Go.Proofs.YtcmdcgghpkcchaaDoorW.PrintWords Go.Proofs.YtcmdcgghpkcchaaDoorW.PrintLast Go.Proofs.YtcmdcgghpkcchaaDoorW.PrintMore
def dropperlaw01_MastMetres.Pure : Prop := ∀ (l0 : List (S46)) (a1 : Int), (l0.length ≤ 9223372036854775807 ∧ ∀ y0 ∈ l0, ((Lit.int .i64 y0.f0).wf = true) ∧ ((Lit.int .i64 y0.f1).wf = true)) → ((Lit.int .i64 a1).wf = true) → ∃ k, dropperlaw01_MastMetres.f k l0 a1 = some true
end Go.Proofs.YtcmdcgghpkcchaaDoor.XMast

/- A lay's length, whether it has a metre, and its nearest metre: program and reference answer the same. -/
namespace Go.Proofs.YtcmdcgghpkcchaaDoor.Pure
set_option linter.unusedVariables false
set_option linter.unusedSimpArgs false
open Go.RowKit Go.Proofs.YtcmdcgghpkcchaaDoor.XMast Go.Proofs.YtcmdcgghpkcchaaDoorW.PrintWords Go.Proofs.YtcmdcgghpkcchaaDoorW.PrintLast Go.Proofs.YtcmdcgghpkcchaaDoorW.PrintMore
open Go.Proofs.YtcmdcgghpkcchaaDoor.Lay
theorem MastMetres : dropperlaw01_MastMetres.Pure := by
 intro l m _ _
 refine Ev.rounds (r := true) (g := fun k => dropperlaw01_MastMetres.f k l m) ?_
 unfold dropperlaw01_MastMetres.f
 by_cases h : (l.length : Int) > 220
 ·
  exact ev_val (by unfold dropperlaw01_Long.f; rw [if_pos h]) (ev_pos rfl (Ev.bind first_ev (Ev.now _)))
 refine ev_val (by unfold dropperlaw01_Long.f; rw [if_neg h]) (ev_neg (by decide) ?_)
 obtain ⟨r, r1, r2⟩ := Length_both l (by omega)
 obtain ⟨s, s1, s2⟩ := Has_both l m (by omega)
 obtain ⟨t, t1, t2⟩ := Near_both l m (by omega)
 refine Ev.bind r1 (Ev.bind r2 (Ev.bind s1 (Ev.bind s2 (ev_pos rfl (ev_pos rfl (ev_neg (by simp) ?_))))))
 exact Ev.step (fun k => by rw [dropperlaw01_MastMetres.j0]) (ev_neg (by simp) (Ev.bind t1 (Ev.bind t2 (ev_pos rfl (ev_pos rfl (Ev.bind first_ev (Ev.now _)))))))
end Go.Proofs.YtcmdcgghpkcchaaDoor.Pure

-- Written by wip/xprint.py of this repo, over the kit's print.py: out of the translation; the oracles in it are by hand. Not trusted: Lean checks it.
namespace Go.Proofs.YtcmdcgghpkcchaaDoor.mastMetres
open Go.ChangeShapes Go.WideShapes Go.ChangeAt Go.RowKit Go.Proofs.YtcmdcgghpkcchaaDoor.Open Go.Proofs.YtcmdcgghpkcchaaDoor.XMast Go.Proofs.YtcmdcgghpkcchaaDoorW.PrintWords Go.Proofs.YtcmdcgghpkcchaaDoorW.PrintLast Go.Proofs.YtcmdcgghpkcchaaDoorW.PrintMore
open Go.ChangeMaps (open_string shut_string)
set_option linter.unusedVariables false
set_option linter.unusedSimpArgs false
theorem own : ownKnob Tryd.prog.godebug = none := by kernel_rfl
theorem laidOut : laidOutB Tryd.prog = true := by kernel_rfl
set_option maxRecDepth 100000 in
theorem lifted (os : Os) (started : os.Started) (H : Type) (enc : TypeId × Value → H) :
  ReturnsInHanded {} Tryd.checked os 4 .any (fun w args => (Rows.mastMetresSpec.pre enc Tryd.prog Tryd.f4 [] false w args ∧ laidMetH Tryd.prog Laid.laid2 w) ∧ sizedMet enc Tryd.prog Tryd.f4 (OpenSpec.ofChange Rows.mastMetresSpec) false w args) (Rows.mastMetresSpec.post enc Tryd.prog Tryd.f4 false true false false) := by
 refine returnsInHanded_of_change_and (C := Tryd.checked) (X := fun w _ => laidMetH Tryd.prog Laid.laid2 w) (fun _ _ _ hh h => h.of_heap hh) own started (by kernel_rfl) Tryd.func4
  (ChangeSpec.witness_shaped (enc := enc) (C := Tryd.checked) (os := os) (X := fun w _ => laidMetH Tryd.prog Laid.laid2 w) false (World.doorLaid Tryd.prog 4000 os) #[.slice none 0 0, .int .i64 0] 8 rfl (World.shaped_of_RefB (by kernel_rfl) (by kernel_rfl)) (by kernel_rfl) (by kernel_rfl) (by kernel_rfl) (Laid.door_met os _)) ?_
 intro W base args ds gs before hval0 hW hcnd hsz0 hL _
 have hval : ∀ (j : Nat) t v, Tryd.f4.params[j]? = some t → args[j]? = some v → Value.okWide Tryd.prog W .any base t v := hval0
 have hW' := hW
 obtain ⟨p, q, hA0, hV, rfl, hfz, hnd⟩ := hW
 have hA : DataW.TrodAll enc Tryd.prog W 0 (fun _ => true) true Tryd.f4.params.toList args.toList ds p := hA0
 rw [Tryd.params4] at hA hval
 obtain ⟨v0, vs0, d0, ds0, p0, q0, hargs, rfl, rfl, h0, r0⟩ := trodAll_cons hA
 obtain ⟨v1, vs1, d1, ds1, p1, q1, rfl, rfl, rfl, h1, r1⟩ := trodAll_cons r0
 obtain ⟨rfl, rfl, rfl⟩ := trodAll_nil r1
 obtain rfl : args = #[v0, v1] := by cases args; simp_all
 obtain ⟨rfl, rfl⟩ := trodVars_none hV
 obtain ⟨b0, len0, cap0, rfl⟩ := okWide_slice Tryd.underlying22 (hval 0 22 v0 rfl rfl)
 have k0 := h0
 have lt0 : ∀ x ∈ p0, x.block < W.heap.size := by obtain ⟨m, hm⟩ := k0; exact DataW.trod_lt m _ _ _ hm
 obtain ⟨fuel0, hf0⟩ := h0
 obtain ⟨l0, ⟨A0, c0, hcs0, hc0, hr0⟩, hg0⟩ := (opens_slice Tryd.underlying22 (opens_iso (f := fun x : S46 => (x.f0, x.f1)) (fun p => ⟨p.1, p.2⟩) (fun _ => rfl) (opens_struct Tryd.underlying46 (by kernel_rfl) (opensF_cons rfl (by kernel_rfl) (opens_int Tryd.underlying3) (opensF_one rfl (by kernel_rfl) (opens_int Tryd.underlying3))))) (by kernel_rfl)) H enc W fuel0 _ _ hf0
 simp [Value.cells] at hcs0
 obtain ⟨rfl, rfl, rfl⟩ := hcs0
 obtain ⟨a1, rfl, rfl, rfl, w1⟩ := open_int Tryd.underlying3 (hval 1 3 v1 rfl rfl) h1
 clear hA0 hval0 hsz0
 obtain ⟨k, h⟩ := Pure.MastMetres l0 a1 hg0 w1
 refine (dropperlaw01_MastMetres.calls k _ _ l0 a1 true W hr0 hc0 (Laid.tabs_of hL) h).mono fun e W' ⟨he, bel0⟩ => ?_
 have bel : Below W.heap.size W W' := bel0
 subst he
 exact ⟨_, rfl, _, _, _, [], _, [], hW', trodAll_mk1 (shut_bool Tryd.underlying4 _), (trodAll_cons_mk (Below.trod laidOut (by kernel_rfl) (of_decide_eq_true (by kernel_rfl)) k0 bel lt0) (trodAll_cons_mk (shut_int Tryd.underlying3 w1) trodAll_mk0)), rfl, bel.frame _, fun h => by cases h⟩
theorem over : Rows.mastMetresRow.holds Tryd.pinned (OpenSpec.ofChange Rows.mastMetresSpec) :=
 OpenClaim.holds_of_wide 4 Tryd.f4 rfl rfl rfl rfl rfl rfl rfl ⟨rfl, rfl, rfl, rfl, rfl⟩ rfl rfl rfl rfl rfl (by kernel_rfl) Tryd.func4 (by kernel_rfl)
  (of_decide_eq_true (by kernel_rfl)) (by unfold Func.isWrapper; first | (rw [if_pos (by decide +kernel)]; kernel_rfl) | (rw [if_neg (by decide +kernel)]; exact ⟨rfl, rfl⟩))
  (fun os started H enc _ => lifted os started H enc)
theorem card_holds : Rows.MastMetresCardSaid :=
 Claim7.holds_tied_plain_at .later [] [.data, .data, .data] true (true, "d919e17aca2791b8c412353f2b117ae8d034433952b93dc40eac1d6d377e885d") false
  over (fun _ h => by cases h) (by kernel_rfl) (fun _ h => by cases h) mastMetres_row_tie rfl ⟨rfl, rfl⟩ (by kernel_rfl) rfl
  (fun f fn hf hfn => by
   obtain rfl : f = 4 := Option.some.inj ((show Tryd.prog.funcNamed "dropper/dropperlaw01.MastMetres" = some 4 by kernel_rfl).symm.trans hf) |>.symm
   obtain rfl : fn = Tryd.f4 := (Option.some.inj (Tryd.func4.symm.trans hfn)).symm
   exact ⟨by kernel_rfl, fun j t ht => by
    rw [Tryd.params4] at ht
    have hall : ∀ t ∈ (#[22, 3] : Array TypeId), Tryd.prog.wantsStandIn t = false := by decide +kernel
    exact hall t (Array.mem_of_getElem? ht)⟩)
  (by kernel_rfl)
#print axioms card_holds
end Go.Proofs.YtcmdcgghpkcchaaDoor.mastMetres
namespace Go.Proofs.YtcmdcgghpkcchaaDoor
theorem mastMetres_holds : Rows.MastMetresCardSaid := mastMetres.card_holds
end Go.Proofs.YtcmdcgghpkcchaaDoor
