-- Written by wip/pack.py of this repo: texts of this claim, put together.
import Derived.Test.YtcmdcgghpkcchaaDoorRows
import Derived.Test.YtcmdcgghpkcchaaDoorTie
import Derived.Test.YtcmdcgghpkcchaaDoorCards
import Derived.SevenTiedAt
import Derived.LaidMore
import Derived.Stop.Joined
import Derived.WalkKit
import Derived.ProofKit
import Derived.OpenShut
import Derived.ShutString
import Derived.ChangeOld
import Derived.Below
import Derived.SizedLaws
import Derived.Test.YtcmdcgghpkcchaaDoorKMastf
namespace Go.Proofs.YtcmdcgghpkcchaaDoor.XMast
open Go.RowKit Go.Proofs.YtcmdcgghpkcchaaDoorW.PrintWords Go.Proofs.YtcmdcgghpkcchaaDoorW.PrintLast Go.Proofs.YtcmdcgghpkcchaaDoorW.PrintMore
attribute [local go_sem] max2_int min2_int max_two min_two max_three min_three max_four min_four   -- for this text's walks alone
set_option linter.unusedVariables false
set_option linter.unusedSimpArgs false
/-! ### dropperlaw01_MastRests: function 5 -/
def dropperlaw01_MastRests.f (k : Nat) (l0 : List (S46)) (a1 : Int) : Option (Bool) := (dropperlaw01_Long.f l0 ([] : List (S46))).bind fun t340 => (if t340 = true then ((dropperlaw01_First.f k).bind fun t341 => (some t341)) else ((mast_Rest.f k l0).bind fun bt342 => ((dropperref01_Rest.f k l0).bind fun bt346 => ((mast_Moved.f k l0 a1).bind fun bt350 => ((dropperref01_Moved.f k l0 a1).bind fun bt354 => ((dropperlaw01_Same.f k bt342.1 bt346.1).bind fun t358 => (if t358 = true then (if bt342.2 = bt346.2 then ((dropperlaw01_Same.f k bt350.1 bt354.1).bind fun t359 => (if t359 = true then (if bt350.2 = bt354.2 then ((dropperlaw01_First.f k).bind fun t360 => (some t360)) else (none)) else (none))) else (none)) else (none))))))))
set_option maxHeartbeats 8000000 in
set_option maxRecDepth 100000 in
theorem dropperlaw01_MastRests.calls (k : Nat) (A0 : Option Addr) (c0 : Nat) (l0 : List (S46)) (a1 : Int) (r : Bool) (w : World) (hr0 : Kd.C k46 w A0 l0.length l0) (hc0 : l0.length ≤ c0) (hT : Tab.Tabs w) (h : dropperlaw01_MastRests.f k l0 a1 = some r) :
  Calls Tryd.prog 5 #[.slice A0 l0.length c0, .int .i64 a1] w fun e w' => e = .returned (.bool r) ∧ Below w.heap.size w w' := by
 have HT := Aside0.mk hT
 clear hT
 have HR0 := Aside0.mk hr0
 have HC0 := Aside0.mk hc0
 clear hr0 hc0
 have HB := Aside0.mk (Below.refl w.heap.size w)
 have H : ((dropperlaw01_Long.f l0 ([] : List (S46))).bind fun t340 => (if t340 = true then ((dropperlaw01_First.f k).bind fun t341 => (some t341)) else ((mast_Rest.f k l0).bind fun bt342 => ((dropperref01_Rest.f k l0).bind fun bt346 => ((mast_Moved.f k l0 a1).bind fun bt350 => ((dropperref01_Moved.f k l0 a1).bind fun bt354 => ((dropperlaw01_Same.f k bt342.1 bt346.1).bind fun t358 => (if t358 = true then (if bt342.2 = bt346.2 then ((dropperlaw01_Same.f k bt350.1 bt354.1).bind fun t359 => (if t359 = true then (if bt350.2 = bt354.2 then ((dropperlaw01_First.f k).bind fun t360 => (some t360)) else (none)) else (none))) else (none)) else (none))))))))) = some r := h
 clear h
 replace H := Option.bind_eq_some_iff.mp H
 obtain ⟨t340, A30, H⟩ := H
 try dsimp only at H
 have A3 := Aside0.mk A30
 clear A30
 by_cases c4 : t340 = true
 ·
  subst c4
  rw [if_pos rfl] at H
  replace H := Option.bind_eq_some_iff.mp H
  obtain ⟨t341, A50, H⟩ := H
  try dsimp only at H
  have A5 := Aside0.mk A50
  clear A50
  obtain rfl := Option.some.inj H
  go_enter Tryd.func5, Tryd.ntmps5
  go_wp2_with (first | ((with_reducible refine gate_callee (f := 10) rfl ?_); refine goesL_ (some 14) rfl rfl Tryd.func10 (by kernel_rfl) rfl #[.slice A0 l0.length c0, .slice none 0 0] rfl mapz ?_; (refine (dropperlaw01_Long.calls _ _ l0 _ _ ([] : List (S46)) true _ ?side1 HC0.out ?side3 ?side4 A3.out).mono ?_); (case side1 => repeat (first | exact HR0.out | (with_reducible refine Kd.C_alloc ?_ _) | (with_reducible refine Kd.C_drewN ?_ _) | (with_reducible refine Kd.C_drew ?_))); (case side3 => exact Kd.C_nil _ _); (case side4 => exact Nat.le_refl _); rintro e w' ⟨rfl, ⟨nd, rfl⟩⟩; refine ⟨_, rfl, ?_⟩) | ((with_reducible refine gate_callee (f := 11) rfl ?_); refine goesL_ (some 15) rfl rfl Tryd.func11 (by kernel_rfl) rfl #[] rfl mapz ?_; (with_reducible refine (dropperlaw01_First.calls k  t341 _ (tbz HT) A5.out).mono ?_); rintro e w6 ⟨rfl, hb⟩; refine ⟨_, rfl, ?_⟩; replace HB := Aside0.mk (below_step bel hb); clear hb))
  go_ret
  exact ⟨ezz, bel⟩
 ·
  replace c4 := Bool.eq_false_iff.mpr c4
  subst c4
  rw [if_neg (show ¬ (false = true) by decide)] at H
  replace H := Option.bind_eq_some_iff.mp H
  obtain ⟨⟨t342, t343⟩, A70, H⟩ := H
  try dsimp only at H
  have A7 := Aside0.mk A70
  clear A70
  replace H := Option.bind_eq_some_iff.mp H
  obtain ⟨⟨t346, t347⟩, A80, H⟩ := H
  try dsimp only at H
  have A8 := Aside0.mk A80
  clear A80
  replace H := Option.bind_eq_some_iff.mp H
  obtain ⟨⟨t350, t351⟩, A90, H⟩ := H
  try dsimp only at H
  have A9 := Aside0.mk A90
  clear A90
  replace H := Option.bind_eq_some_iff.mp H
  obtain ⟨⟨t354, t355⟩, A100, H⟩ := H
  try dsimp only at H
  have A10 := Aside0.mk A100
  clear A100
  replace H := Option.bind_eq_some_iff.mp H
  obtain ⟨t358, A110, H⟩ := H
  try dsimp only at H
  have A11 := Aside0.mk A110
  clear A110
  by_cases c12 : t358 = true
  ·
   subst c12
   rw [if_pos rfl] at H
   by_cases c13 : t343 = t347
   ·
    rw [if_pos c13] at H
    have c13b0 : (t343 == t347) = true := beq_iff_eq.mpr c13
    have c13b1 : (t343 != t347) = false := bne_eq_false_iff_eq.mpr c13
    clear c13
    replace H := Option.bind_eq_some_iff.mp H
    obtain ⟨t359, A140, H⟩ := H
    try dsimp only at H
    have A14 := Aside0.mk A140
    clear A140
    by_cases c15 : t359 = true
    ·
     subst c15
     rw [if_pos rfl] at H
     by_cases c16 : t351 = t355
     ·
      rw [if_pos c16] at H
      have c16b0 : (t351 == t355) = true := beq_iff_eq.mpr c16
      have c16b1 : (t351 != t355) = false := bne_eq_false_iff_eq.mpr c16
      clear c16
      replace H := Option.bind_eq_some_iff.mp H
      obtain ⟨t360, A170, H⟩ := H
      try dsimp only at H
      have A17 := Aside0.mk A170
      clear A170
      obtain rfl := Option.some.inj H
      go_enter Tryd.func5, Tryd.ntmps5
      go_wp2_with (first | ((with_reducible refine gate_callee (f := 10) rfl ?_); refine goesL_ (some 14) rfl rfl Tryd.func10 (by kernel_rfl) rfl #[.slice A0 l0.length c0, .slice none 0 0] rfl mapz ?_; (refine (dropperlaw01_Long.calls _ _ l0 _ _ ([] : List (S46)) false _ ?side1 HC0.out ?side3 ?side4 A3.out).mono ?_); (case side1 => repeat (first | exact HR0.out | (with_reducible refine Kd.C_alloc ?_ _) | (with_reducible refine Kd.C_drewN ?_ _) | (with_reducible refine Kd.C_drew ?_))); (case side3 => exact Kd.C_nil _ _); (case side4 => exact Nat.le_refl _); rintro e w' ⟨rfl, ⟨nd, rfl⟩⟩; refine ⟨_, rfl, ?_⟩) | ((with_reducible refine gate_callee (f := 25) rfl ?_); refine goesL_ (some 18) rfl rfl Tryd.func25 (by kernel_rfl) rfl #[.slice A0 l0.length c0] rfl mapz ?_; (with_reducible refine (mast_Rest.calls k _ _ l0 t342 t343 _ ?side1 HC0.out A7.out).mono ?_); (case side1 => repeat (first | exact HR0.out | (with_reducible refine Kd.C_alloc ?_ _) | (with_reducible refine Kd.C_drewN ?_ _) | (with_reducible refine Kd.C_drew ?_))); rintro e w18 ⟨v344, rfl, ho0, hb⟩; refine ⟨_, rfl, ?_⟩; have HO345 := Aside0.mk (Kd.R_lower ho0 (below_size bel)); replace HB := Aside0.mk (below_step bel hb); (try clear hb); (try clear hb2); (try clear hk); (try clear hi); (try clear ho0)) | ((with_reducible refine gate_callee (f := 26) rfl ?_); refine goesL_ (some 23) rfl rfl Tryd.func26 (by kernel_rfl) rfl #[.slice A0 l0.length c0] rfl mapz ?_; (with_reducible refine (dropperref01_Rest.calls k _ _ l0 t346 t347 _ (cbz HR0) HC0.out A8.out).mono ?_); rintro e w19 ⟨v348, rfl, ho0, hb⟩; refine ⟨_, rfl, ?_⟩; have HO349 := Aside0.mk (Kd.R_lower (Kd.R_new' ho0 (Kd.R_lt (ownx HO345))) (below_size bel)); replace HO345 := Aside0.mk (Kd.R_elder' (ownx HO345) (Kd.R_base ho0) hb); replace HB := Aside0.mk (below_step bel hb); (try clear hb); (try clear hb2); (try clear hk); (try clear hi); (try clear ho0)) | ((with_reducible refine gate_callee (f := 27) rfl ?_); refine goesL_ (some 29) rfl rfl Tryd.func27 (by kernel_rfl) rfl #[.slice A0 l0.length c0, .int .i64 a1] rfl mapz ?_; (with_reducible refine (mast_Moved.calls k _ _ l0 a1 t350 t351 _ (cbz HR0) HC0.out A9.out).mono ?_); rintro e w20 ⟨v352, rfl, ho0, hb⟩; refine ⟨_, rfl, ?_⟩; have HO353 := Aside0.mk (Kd.R_lower (Kd.R_new' (Kd.R_new' ho0 (Kd.R_lt (ownx HO345))) (Kd.R_lt (ownx HO349))) (below_size bel)); replace HO345 := Aside0.mk (Kd.R_elder' (ownx HO345) (Kd.R_base ho0) hb); replace HO349 := Aside0.mk (Kd.R_elder' (ownx HO349) (Kd.R_base ho0) hb); replace HB := Aside0.mk (below_step bel hb); (try clear hb); (try clear hb2); (try clear hk); (try clear hi); (try clear ho0)) | ((with_reducible refine gate_callee (f := 28) rfl ?_); refine goesL_ (some 35) rfl rfl Tryd.func28 (by kernel_rfl) rfl #[.slice A0 l0.length c0, .int .i64 a1] rfl mapz ?_; (with_reducible refine (dropperref01_Moved.calls k _ _ l0 a1 t354 t355 _ (cbz HR0) HC0.out A10.out).mono ?_); rintro e w21 ⟨v356, rfl, ho0, hb⟩; refine ⟨_, rfl, ?_⟩; have HO357 := Aside0.mk (Kd.R_lower (Kd.R_new' (Kd.R_new' (Kd.R_new' ho0 (Kd.R_lt (ownx HO345))) (Kd.R_lt (ownx HO349))) (Kd.R_lt (ownx HO353))) (below_size bel)); replace HO345 := Aside0.mk (Kd.R_elder' (ownx HO345) (Kd.R_base ho0) hb); replace HO349 := Aside0.mk (Kd.R_elder' (ownx HO349) (Kd.R_base ho0) hb); replace HO353 := Aside0.mk (Kd.R_elder' (ownx HO353) (Kd.R_base ho0) hb); replace HB := Aside0.mk (below_step bel hb); (try clear hb); (try clear hb2); (try clear hk); (try clear hi); (try clear ho0); obtain ⟨Ao22, co22, eo22⟩ := Kd.R_slice HO345.out; subst eo22; obtain ⟨Ao23, co23, eo23⟩ := Kd.R_slice HO349.out; subst eo23) | ((with_reducible refine gate_callee (f := 16) rfl ?_); refine goesL_ (some 40) rfl rfl Tryd.func16 (by kernel_rfl) rfl #[.slice Ao22 t342.length co22, .slice Ao23 t346.length co23] rfl mapz ?_; (with_reducible refine (dropperlaw01_Same.calls k _ _ t342 _ _ t346 true _ ?side1 ?side2 ?side3 ?side4 A11.out).mono ?_); (case side1 => repeat (first | exact (Kd.R_reads' HO345.out).2.2 | (with_reducible refine Kd.C_alloc ?_ _) | (with_reducible refine Kd.C_drewN ?_ _) | (with_reducible refine Kd.C_drew ?_))); (case side2 => exact (Kd.R_reads' HO345.out).2.1); (case side3 => repeat (first | exact (Kd.R_reads' HO349.out).2.2 | (with_reducible refine Kd.C_alloc ?_ _) | (with_reducible refine Kd.C_drewN ?_ _) | (with_reducible refine Kd.C_drew ?_))); (case side4 => exact (Kd.R_reads' HO349.out).2.1); rintro e w' ⟨rfl, ⟨nd, rfl⟩⟩; refine ⟨_, rfl, ?_⟩; obtain ⟨Ao24, co24, eo24⟩ := Kd.R_slice HO353.out; subst eo24; obtain ⟨Ao25, co25, eo25⟩ := Kd.R_slice HO357.out; subst eo25) | (go_at_call 16; (with_reducible refine (dropperlaw01_Same.calls k _ _ t350 _ _ t354 true _ ?side1 ?side2 ?side3 ?side4 A14.out).mono ?_); (case side1 => repeat (first | exact (Kd.R_reads' HO353.out).2.2 | (with_reducible refine Kd.C_alloc ?_ _) | (with_reducible refine Kd.C_drewN ?_ _) | (with_reducible refine Kd.C_drew ?_))); (case side2 => exact (Kd.R_reads' HO353.out).2.1); (case side3 => repeat (first | exact (Kd.R_reads' HO357.out).2.2 | (with_reducible refine Kd.C_alloc ?_ _) | (with_reducible refine Kd.C_drewN ?_ _) | (with_reducible refine Kd.C_drew ?_))); (case side4 => exact (Kd.R_reads' HO357.out).2.1); rintro e w' ⟨rfl, ⟨nd, rfl⟩⟩) | (go_at_call 11; (with_reducible refine (dropperlaw01_First.calls k  t360 _ (tbz HT) A17.out).mono ?_); rintro e w26 ⟨rfl, hb⟩; replace HO345 := Aside0.mk (Kd.R_below (ownx HO345) hb); replace HO349 := Aside0.mk (Kd.R_below (ownx HO349) hb); replace HO353 := Aside0.mk (Kd.R_below (ownx HO353) hb); replace HO357 := Aside0.mk (Kd.R_below (ownx HO357) hb); replace HB := Aside0.mk (below_step bel hb); clear hb))
      go_ret
      exact ⟨ezz, bel⟩
     ·
      rw [if_neg c16] at H
      exact absurd H (by simp)
    ·
     replace c15 := Bool.eq_false_iff.mpr c15
     subst c15
     rw [if_neg (show ¬ (false = true) by decide)] at H
     exact absurd H (by simp)
   ·
    rw [if_neg c13] at H
    exact absurd H (by simp)
  ·
   replace c12 := Bool.eq_false_iff.mpr c12
   subst c12
   rw [if_neg (show ¬ (false = true) by decide)] at H
   exact absurd H (by simp)

end Go.Proofs.YtcmdcgghpkcchaaDoor.XMast
-- Written by wip/xprint.py of this repo, over the kit's print.py: out of the translation; the oracles in it are by hand. Not trusted: Lean checks it.
namespace Go.Proofs.YtcmdcgghpkcchaaDoor.XMast
open Go.RowKit Go.Proofs.YtcmdcgghpkcchaaDoor.XMast Go.Proofs.YtcmdcgghpkcchaaDoorW.PrintWords Go.Proofs.YtcmdcgghpkcchaaDoorW.PrintLast Go.Proofs.YtcmdcgghpkcchaaDoorW.PrintMore
def dropperlaw01_MastRests.Pure : Prop := ∀ (l0 : List (S46)) (a1 : Int), (l0.length ≤ 9223372036854775807 ∧ ∀ y0 ∈ l0, ((Lit.int .i64 y0.f0).wf = true) ∧ ((Lit.int .i64 y0.f1).wf = true)) → ((Lit.int .i64 a1).wf = true) → ∃ k, dropperlaw01_MastRests.f k l0 a1 = some true
end Go.Proofs.YtcmdcgghpkcchaaDoor.XMast

/- The rest of a lay, and one that is moved: program and reference answer the same. -/
namespace Go.Proofs.YtcmdcgghpkcchaaDoor.Pure
set_option linter.unusedVariables false
set_option linter.unusedSimpArgs false
open Go.RowKit Go.Proofs.YtcmdcgghpkcchaaDoor.XMast Go.Proofs.YtcmdcgghpkcchaaDoorW.PrintWords Go.Proofs.YtcmdcgghpkcchaaDoorW.PrintLast Go.Proofs.YtcmdcgghpkcchaaDoorW.PrintMore
open Go.Proofs.YtcmdcgghpkcchaaDoor.Lay
theorem movF_len (n : Int) : ∀ (l out : List St), (movF n l out).1.length ≤ out.length + l.length
 | [], out => by simp [movF]
 | s :: t, out => by
  rw [movF]
  by_cases h : n < -s.f0 ∨ n > 100000 - s.f1
  ·
   rw [if_pos h]; exact Nat.zero_le _
  ·
   rw [if_neg h]
   have := movF_len n t (out ++ [⟨s.f0 + n, s.f1 + n⟩])
   simp at this ⊢
   omega
theorem MastRests : dropperlaw01_MastRests.Pure := by
 intro l n _ _
 refine Ev.rounds (r := true) (g := fun k => dropperlaw01_MastRests.f k l n) ?_
 unfold dropperlaw01_MastRests.f
 by_cases h : (l.length : Int) > 220
 ·
  exact ev_val (by unfold dropperlaw01_Long.f; rw [if_pos h]) (ev_pos rfl (Ev.bind first_ev (Ev.now _)))
 refine ev_val (by unfold dropperlaw01_Long.f; rw [if_neg h]) (ev_neg (by decide) ?_)
 obtain ⟨r, r1, r2, r3⟩ := Rest_both l (by omega)
 have hm : ∃ s, Ev (fun k => mast_Moved.f k l n) s ∧ Ev (fun k => dropperref01_Moved.f k l n) s ∧ s.1.length ≤ 1000 := by
  by_cases h1 : okB l = true
  ·
   have h' := (okB_iff l).1 h1
   exact ⟨_, moved_m l h' n, moved_r l h' n, by have := movF_len n l []; simp at this; omega⟩
  ·
   unfold mast_Moved.f dropperref01_Moved.f
   exact ⟨_, Ev.bind (mvalid l (by omega)) (ev_neg h1 (Ev.now _)), Ev.bind (rvalid l (by omega)) (ev_neg h1 (Ev.now _)), Nat.zero_le _⟩
 obtain ⟨s, s1, s2, s3⟩ := hm
 exact Ev.bind r1 (Ev.bind r2 (Ev.bind s1 (Ev.bind s2 (Ev.bind (same_refl r.1 (by omega)) (ev_pos rfl (ev_pos rfl (Ev.bind (same_refl s.1 (by omega)) (ev_pos rfl (ev_pos rfl (Ev.bind first_ev (Ev.now _)))))))))))
end Go.Proofs.YtcmdcgghpkcchaaDoor.Pure

-- Written by wip/xprint.py of this repo, over the kit's print.py: out of the translation; the oracles in it are by hand. Not trusted: Lean checks it.
namespace Go.Proofs.YtcmdcgghpkcchaaDoor.mastRests
open Go.ChangeShapes Go.WideShapes Go.ChangeAt Go.RowKit Go.Proofs.YtcmdcgghpkcchaaDoor.Open Go.Proofs.YtcmdcgghpkcchaaDoor.XMast Go.Proofs.YtcmdcgghpkcchaaDoorW.PrintWords Go.Proofs.YtcmdcgghpkcchaaDoorW.PrintLast Go.Proofs.YtcmdcgghpkcchaaDoorW.PrintMore
open Go.ChangeMaps (open_string shut_string)
set_option linter.unusedVariables false
set_option linter.unusedSimpArgs false
theorem own : ownKnob Tryd.prog.godebug = none := by kernel_rfl
theorem laidOut : laidOutB Tryd.prog = true := by kernel_rfl
set_option maxRecDepth 100000 in
theorem lifted (os : Os) (started : os.Started) (H : Type) (enc : TypeId × Value → H) :
  ReturnsInHanded {} Tryd.checked os 5 .any (fun w args => (Rows.mastRestsSpec.pre enc Tryd.prog Tryd.f5 [] false w args ∧ laidMetH Tryd.prog Laid.laid2 w) ∧ sizedMet enc Tryd.prog Tryd.f5 (OpenSpec.ofChange Rows.mastRestsSpec) false w args) (Rows.mastRestsSpec.post enc Tryd.prog Tryd.f5 false true false false) := by
 refine returnsInHanded_of_change_and (C := Tryd.checked) (X := fun w _ => laidMetH Tryd.prog Laid.laid2 w) (fun _ _ _ hh h => h.of_heap hh) own started (by kernel_rfl) Tryd.func5
  (ChangeSpec.witness_shaped (enc := enc) (C := Tryd.checked) (os := os) (X := fun w _ => laidMetH Tryd.prog Laid.laid2 w) false (World.doorLaid Tryd.prog 4000 os) #[.slice none 0 0, .int .i64 0] 8 rfl (World.shaped_of_RefB (by kernel_rfl) (by kernel_rfl)) (by kernel_rfl) (by kernel_rfl) (by kernel_rfl) (Laid.door_met os _)) ?_
 intro W base args ds gs before hval0 hW hcnd hsz0 hL _
 have hval : ∀ (j : Nat) t v, Tryd.f5.params[j]? = some t → args[j]? = some v → Value.okWide Tryd.prog W .any base t v := hval0
 have hW' := hW
 obtain ⟨p, q, hA0, hV, rfl, hfz, hnd⟩ := hW
 have hA : DataW.TrodAll enc Tryd.prog W 0 (fun _ => true) true Tryd.f5.params.toList args.toList ds p := hA0
 rw [Tryd.params5] at hA hval
 obtain ⟨v0, vs0, d0, ds0, p0, q0, hargs, rfl, rfl, h0, r0⟩ := trodAll_cons hA
 obtain ⟨v1, vs1, d1, ds1, p1, q1, rfl, rfl, rfl, h1, r1⟩ := trodAll_cons r0
 obtain ⟨rfl, rfl, rfl⟩ := trodAll_nil r1
 obtain rfl : args = #[v0, v1] := by cases args; simp_all
 obtain ⟨rfl, rfl⟩ := trodVars_none hV
 obtain ⟨b0, len0, cap0, rfl⟩ := okWide_slice Tryd.underlying22 (hval 0 22 v0 rfl rfl)
 have k0 := h0
 have lt0 : ∀ x ∈ p0, x.block < W.heap.size := by obtain ⟨m, hm⟩ := k0; exact DataW.trod_lt m _ _ _ hm
 obtain ⟨fuel0, hf0⟩ := h0
 obtain ⟨l0, ⟨A0, c0, hcs0, hc0, hr0⟩, hg0⟩ := (opens_slice Tryd.underlying22 (opens_iso (f := fun x : S46 => (x.f0, x.f1)) (fun p => ⟨p.1, p.2⟩) (fun _ => rfl) (opens_struct Tryd.underlying46 (by kernel_rfl) (opensF_cons rfl (by kernel_rfl) (opens_int Tryd.underlying3) (opensF_one rfl (by kernel_rfl) (opens_int Tryd.underlying3))))) (by kernel_rfl)) H enc W fuel0 _ _ hf0
 simp [Value.cells] at hcs0
 obtain ⟨rfl, rfl, rfl⟩ := hcs0
 obtain ⟨a1, rfl, rfl, rfl, w1⟩ := open_int Tryd.underlying3 (hval 1 3 v1 rfl rfl) h1
 clear hA0 hval0 hsz0
 obtain ⟨k, h⟩ := Pure.MastRests l0 a1 hg0 w1
 refine (dropperlaw01_MastRests.calls k _ _ l0 a1 true W hr0 hc0 (Laid.tabs_of hL) h).mono fun e W' ⟨he, bel0⟩ => ?_
 have bel : Below W.heap.size W W' := bel0
 subst he
 exact ⟨_, rfl, _, _, _, [], _, [], hW', trodAll_mk1 (shut_bool Tryd.underlying4 _), (trodAll_cons_mk (Below.trod laidOut (by kernel_rfl) (of_decide_eq_true (by kernel_rfl)) k0 bel lt0) (trodAll_cons_mk (shut_int Tryd.underlying3 w1) trodAll_mk0)), rfl, bel.frame _, fun h => by cases h⟩
theorem over : Rows.mastRestsRow.holds Tryd.pinned (OpenSpec.ofChange Rows.mastRestsSpec) :=
 OpenClaim.holds_of_wide 5 Tryd.f5 rfl rfl rfl rfl rfl rfl rfl ⟨rfl, rfl, rfl, rfl, rfl⟩ rfl rfl rfl rfl rfl (by kernel_rfl) Tryd.func5 (by kernel_rfl)
  (of_decide_eq_true (by kernel_rfl)) (by unfold Func.isWrapper; first | (rw [if_pos (by decide +kernel)]; kernel_rfl) | (rw [if_neg (by decide +kernel)]; exact ⟨rfl, rfl⟩))
  (fun os started H enc _ => lifted os started H enc)
theorem card_holds : Rows.MastRestsCardSaid :=
 Claim7.holds_tied_plain_at .later [] [.data, .data, .data] true (true, "d919e17aca2791b8c412353f2b117ae8d034433952b93dc40eac1d6d377e885d") false
  over (fun _ h => by cases h) (by kernel_rfl) (fun _ h => by cases h) mastRests_row_tie rfl ⟨rfl, rfl⟩ (by kernel_rfl) rfl
  (fun f fn hf hfn => by
   obtain rfl : f = 5 := Option.some.inj ((show Tryd.prog.funcNamed "dropper/dropperlaw01.MastRests" = some 5 by kernel_rfl).symm.trans hf) |>.symm
   obtain rfl : fn = Tryd.f5 := (Option.some.inj (Tryd.func5.symm.trans hfn)).symm
   exact ⟨by kernel_rfl, fun j t ht => by
    rw [Tryd.params5] at ht
    have hall : ∀ t ∈ (#[22, 3] : Array TypeId), Tryd.prog.wantsStandIn t = false := by decide +kernel
    exact hall t (Array.mem_of_getElem? ht)⟩)
  (by kernel_rfl)
#print axioms card_holds
end Go.Proofs.YtcmdcgghpkcchaaDoor.mastRests
namespace Go.Proofs.YtcmdcgghpkcchaaDoor
theorem mastRests_holds : Rows.MastRestsCardSaid := mastRests.card_holds
end Go.Proofs.YtcmdcgghpkcchaaDoor
