-- Written by wip/pack.py of this repo: texts of this claim, put together.
import Derived.Test.YtcmdcgghpkcchaaGreatDoorRows
import Derived.Test.YtcmdcgghpkcchaaGreatDoorTie
import Derived.Test.YtcmdcgghpkcchaaGreatDoorCards
import Derived.SevenTiedAt
import Derived.LaidMore
import Derived.Stop.Joined
import Derived.WalkKit
import Derived.ProofKit
import Derived.OpenShut
import Derived.ShutString
import Derived.ChangeOld
import Derived.Below
import Derived.SizedLaws
import Derived.Test.YtcmdcgghpkcchaaGreatDoorKMastZe
namespace Go.Proofs.YtcmdcgghpkcchaaGreatDoor.XMast
open Go.RowKit Go.Proofs.YtcmdcgghpkcchaaGreatDoorW.PrintWords Go.Proofs.YtcmdcgghpkcchaaGreatDoorW.PrintLast Go.Proofs.YtcmdcgghpkcchaaGreatDoorW.PrintMore
attribute [local go_sem] max2_int min2_int max_two min_two max_three min_three max_four min_four   -- for this text's walks alone
set_option linter.unusedVariables false
set_option linter.unusedSimpArgs false
/-! ### dropperlaw01_MastParses: function 5 -/
def dropperlaw01_MastParses.f (k : Nat) (a0 : ByteArray) : Option (Bool) := if (a0.size : Int) > 1200 then ((dropperlaw01_First.f k).bind fun t204 => (some t204)) else ((mast_Parse.f k a0).bind fun bt205 => ((dropperref01_Parse.f k a0).bind fun bt209 => ((dropperlaw01_Same.f k bt205.1 bt209.1).bind fun t213 => (if t213 = true then (if bt205.2 = bt209.2 then ((dropperlaw01_First.f k).bind fun t214 => (some t214)) else (none)) else (none)))))
set_option maxHeartbeats 8000000 in
set_option maxRecDepth 100000 in
theorem dropperlaw01_MastParses.calls (k : Nat) (a0 : ByteArray) (r : Bool) (w : World) (hT : Tab.Tabs w) (h : dropperlaw01_MastParses.f k a0 = some r) :
  Calls Tryz.prog 5 #[.string a0] w fun e w' => e = .returned (.bool r) ∧ Below w.heap.size w w' := by
 have HT := Aside0.mk hT
 clear hT
 have HB := Aside0.mk (Below.refl w.heap.size w)
 have H : (if (a0.size : Int) > 1200 then ((dropperlaw01_First.f k).bind fun t204 => (some t204)) else ((mast_Parse.f k a0).bind fun bt205 => ((dropperref01_Parse.f k a0).bind fun bt209 => ((dropperlaw01_Same.f k bt205.1 bt209.1).bind fun t213 => (if t213 = true then (if bt205.2 = bt209.2 then ((dropperlaw01_First.f k).bind fun t214 => (some t214)) else (none)) else (none)))))) = some r := h
 clear h
 by_cases c2 : (a0.size : Int) > 1200
 ·
  rw [if_pos c2] at H
  have c2b0 : decide (1200 < (a0.size : Int)) = true := decide_eq_true c2
  have c2b1 : decide (1200 < a0.size) = true := decide_eq_true (by omega)
  clear c2
  replace H := Option.bind_eq_some_iff.mp H
  obtain ⟨t204, A30, H⟩ := H
  try dsimp only at H
  have A3 := Aside0.mk A30
  clear A30
  obtain rfl := Option.some.inj H
  go_enter Tryz.func5, Tryz.ntmps5
  go_wp2_with (first | ((with_reducible refine gate_callee (f := 6) rfl ?_); refine goesL_ (some 10) rfl rfl Tryz.func6 (by kernel_rfl) rfl #[] rfl mapz ?_; (with_reducible refine (dropperlaw01_First.calls k  t204 _ (tbz HT) A3.out).mono ?_); rintro e w4 ⟨rfl, hb⟩; refine ⟨_, rfl, ?_⟩; replace HB := Aside0.mk (below_step bel hb); clear hb))
  go_ret
  exact ⟨ezz, bel⟩
 ·
  rw [if_neg c2] at H
  have c2b0 : decide (1200 < (a0.size : Int)) = false := decide_eq_false c2
  have c2b1 : decide (1200 < a0.size) = false := decide_eq_false (by omega)
  clear c2
  replace H := Option.bind_eq_some_iff.mp H
  obtain ⟨⟨t205, t206⟩, A50, H⟩ := H
  try dsimp only at H
  have A5 := Aside0.mk A50
  clear A50
  replace H := Option.bind_eq_some_iff.mp H
  obtain ⟨⟨t209, t210⟩, A60, H⟩ := H
  try dsimp only at H
  have A6 := Aside0.mk A60
  clear A60
  replace H := Option.bind_eq_some_iff.mp H
  obtain ⟨t213, A70, H⟩ := H
  try dsimp only at H
  have A7 := Aside0.mk A70
  clear A70
  by_cases c8 : t213 = true
  ·
   subst c8
   rw [if_pos rfl] at H
   by_cases c9 : t206 = t210
   ·
    rw [if_pos c9] at H
    have c9b0 : (t206 == t210) = true := beq_iff_eq.mpr c9
    have c9b1 : (t206 != t210) = false := bne_eq_false_iff_eq.mpr c9
    clear c9
    replace H := Option.bind_eq_some_iff.mp H
    obtain ⟨t214, A100, H⟩ := H
    try dsimp only at H
    have A10 := Aside0.mk A100
    clear A100
    obtain rfl := Option.some.inj H
    go_enter Tryz.func5, Tryz.ntmps5
    go_wp2_with (first | ((with_reducible refine gate_callee (f := 16) rfl ?_); refine goesL_ (some 13) rfl rfl Tryz.func16 (by kernel_rfl) rfl #[.string a0] rfl mapz ?_; (with_reducible refine (mast_Parse.calls k a0 t205 t206 _ (tbz HT) A5.out).mono ?_); rintro e w11 ⟨v207, rfl, ho0, hb⟩; refine ⟨_, rfl, ?_⟩; have HO208 := Aside0.mk (Kd.R_lower ho0 (below_size bel)); replace HB := Aside0.mk (below_step bel hb); (try clear hb); (try clear hb2); (try clear hk); (try clear hi); (try clear ho0)) | ((with_reducible refine gate_callee (f := 18) rfl ?_); refine goesL_ (some 18) rfl rfl Tryz.func18 (by kernel_rfl) rfl #[.string a0] rfl mapz ?_; (with_reducible refine (dropperref01_Parse.calls k a0 t209 t210 _ A6.out).mono ?_); rintro e w12 ⟨v211, rfl, ho0, hb⟩; refine ⟨_, rfl, ?_⟩; have HO212 := Aside0.mk (Kd.R_lower (Kd.R_new' ho0 (Kd.R_lt (ownx HO208))) (below_size bel)); replace HO208 := Aside0.mk (Kd.R_elder' (ownx HO208) (Kd.R_base ho0) hb); replace HB := Aside0.mk (below_step bel hb); (try clear hb); (try clear hb2); (try clear hk); (try clear hi); (try clear ho0); obtain ⟨Ao13, co13, eo13⟩ := Kd.R_slice HO208.out; subst eo13; obtain ⟨Ao14, co14, eo14⟩ := Kd.R_slice HO212.out; subst eo14) | ((with_reducible refine gate_callee (f := 17) rfl ?_); refine goesL_ (some 23) rfl rfl Tryz.func17 (by kernel_rfl) rfl #[.slice Ao13 t205.length co13, .slice Ao14 t209.length co14] rfl mapz ?_; (with_reducible refine (dropperlaw01_Same.calls k _ _ t205 _ _ t209 true _ ?side1 ?side2 ?side3 ?side4 A7.out).mono ?_); (case side1 => repeat (first | exact (Kd.R_reads' HO208.out).2.2 | (with_reducible refine Kd.C_alloc ?_ _) | (with_reducible refine Kd.C_drewN ?_ _) | (with_reducible refine Kd.C_drew ?_))); (case side2 => exact (Kd.R_reads' HO208.out).2.1); (case side3 => repeat (first | exact (Kd.R_reads' HO212.out).2.2 | (with_reducible refine Kd.C_alloc ?_ _) | (with_reducible refine Kd.C_drewN ?_ _) | (with_reducible refine Kd.C_drew ?_))); (case side4 => exact (Kd.R_reads' HO212.out).2.1); rintro e w' ⟨rfl, ⟨nd, rfl⟩⟩; refine ⟨_, rfl, ?_⟩) | (go_at_call 6; (with_reducible refine (dropperlaw01_First.calls k  t214 _ (tbz HT) A10.out).mono ?_); rintro e w15 ⟨rfl, hb⟩; replace HO208 := Aside0.mk (Kd.R_below (ownx HO208) hb); replace HO212 := Aside0.mk (Kd.R_below (ownx HO212) hb); replace HB := Aside0.mk (below_step bel hb); clear hb))
    go_ret
    exact ⟨ezz, bel⟩
   ·
    rw [if_neg c9] at H
    exact absurd H (by simp)
  ·
   replace c8 := Bool.eq_false_iff.mpr c8
   subst c8
   rw [if_neg (show ¬ (false = true) by decide)] at H
   exact absurd H (by simp)


end Go.Proofs.YtcmdcgghpkcchaaGreatDoor.XMast
-- Written by wip/xprint.py of this repo, over the kit's print.py: out of the translation; the oracles in it are by hand. Not trusted: Lean checks it.
namespace Go.Proofs.YtcmdcgghpkcchaaGreatDoor.XMast
open Go.RowKit Go.Proofs.YtcmdcgghpkcchaaGreatDoor.XMast Go.Proofs.YtcmdcgghpkcchaaGreatDoorW.PrintWords Go.Proofs.YtcmdcgghpkcchaaGreatDoorW.PrintLast Go.Proofs.YtcmdcgghpkcchaaGreatDoorW.PrintMore
def dropperlaw01_MastParses.Pure : Prop := ∀ (a0 : ByteArray), (a0.size ≤ maxLen) → ∃ k, dropperlaw01_MastParses.f k a0 = some true
end Go.Proofs.YtcmdcgghpkcchaaGreatDoor.XMast


/- The lay of any text: program and reference answer the same. -/
namespace Go.Proofs.YtcmdcgghpkcchaaGreatDoor.Pure
set_option linter.unusedVariables false
set_option linter.unusedSimpArgs false
open Go.RowKit Go.Proofs.YtcmdcgghpkcchaaGreatDoor.XMast Go.Proofs.YtcmdcgghpkcchaaGreatDoorW.PrintWords Go.Proofs.YtcmdcgghpkcchaaGreatDoorW.PrintLast Go.Proofs.YtcmdcgghpkcchaaGreatDoorW.PrintMore
open Go.Proofs.YtcmdcgghpkcchaaGreatDoor.Lay
theorem same_self (l : List St) (hl : l.length ≤ 100000) : Ev (fun k => dropperlaw01_Same.f k l l) true := by
 have H : ∀ (d i : Nat), i + d = l.length → Ev (fun k => dropperlaw01_Same.l0 k l l (i : Int)) true := by
  intro d
  induction d with
  | zero =>
   intro i hi
   exact Ev.step (fun k => by rw [dropperlaw01_Same.l0]) (ev_neg (by omega) (Ev.now _))
  | succ d ih =>
   intro i hi
   refine Ev.step (fun k => by rw [dropperlaw01_Same.l0]) (ev_pos (by omega) (ev_pos (by omega) (ev_pos (by omega) (ev_neg (by simp) ?_))))
   rw [Segs.wrap_suc i (by omega)]
   exact ih (i + 1) (by omega)
 unfold dropperlaw01_Same.f
 exact ev_pos rfl (H l.length 0 (by omega))
theorem par_short {s : List UInt8} {r : List St × Int} (h : Segs.Par s r) : r.1.length ≤ 100000 := by
 rcases h with ⟨l, h, rfl⟩ | ⟨_, rfl⟩
 ·
  have := h.2.2.2
  show l.length ≤ _
  omega
 ·
  exact Nat.zero_le _
theorem MastParses : dropperlaw01_MastParses.Pure := by
 intro s _
 refine Ev.rounds (r := true) (g := fun k => dropperlaw01_MastParses.f k s) ?_
 unfold dropperlaw01_MastParses.f
 by_cases h : (s.size : Int) > 1200
 ·
  exact ev_pos h (Ev.bind first_ev (Ev.now _))
 obtain ⟨r, r1, r2⟩ := Segs.mast_par s (by omega)
 obtain ⟨q, q1, q2⟩ := Segs.ref_par s (by omega)
 obtain rfl := r2.unique q2
 exact ev_neg h (Ev.bind r1 (Ev.bind q1 (Ev.bind (same_self r.1 (par_short r2)) (ev_pos rfl (ev_pos rfl (Ev.bind first_ev (Ev.now _)))))))
end Go.Proofs.YtcmdcgghpkcchaaGreatDoor.Pure

-- Written by wip/xprint.py of this repo, over the kit's print.py: out of the translation; the oracles in it are by hand. Not trusted: Lean checks it.
namespace Go.Proofs.YtcmdcgghpkcchaaGreatDoor.mastParses
open Go.ChangeShapes Go.WideShapes Go.ChangeAt Go.RowKit Go.Proofs.YtcmdcgghpkcchaaGreatDoor.Open Go.Proofs.YtcmdcgghpkcchaaGreatDoor.XMast Go.Proofs.YtcmdcgghpkcchaaGreatDoorW.PrintWords Go.Proofs.YtcmdcgghpkcchaaGreatDoorW.PrintLast Go.Proofs.YtcmdcgghpkcchaaGreatDoorW.PrintMore
open Go.ChangeMaps (open_string shut_string)
set_option linter.unusedVariables false
set_option linter.unusedSimpArgs false
theorem own : ownKnob Tryz.prog.godebug = none := by kernel_rfl
theorem laidOut : laidOutB Tryz.prog = true := by kernel_rfl
set_option maxRecDepth 100000 in
theorem lifted (os : Os) (started : os.Started) (H : Type) (enc : TypeId × Value → H) :
  ReturnsInHanded {} Tryz.checked os 5 .any (fun w args => (Rows.mastParsesSpec.pre enc Tryz.prog Tryz.f5 [] false w args ∧ laidMetH Tryz.prog Laid7.laid2 w) ∧ sizedMet enc Tryz.prog Tryz.f5 (OpenSpec.ofChange Rows.mastParsesSpec) false w args) (Rows.mastParsesSpec.post enc Tryz.prog Tryz.f5 false true false false) := by
 refine Laid.and_shaped (C := Tryz.checked) (X := fun w _ => laidMetH Tryz.prog Laid7.laid2 w) (fun _ _ _ hh h => h.of_heap hh) own started (by kernel_rfl) Tryz.func5
  (ChangeSpec.witness_shaped (enc := enc) (C := Tryz.checked) (os := os) (X := fun w _ => laidMetH Tryz.prog Laid7.laid2 w) false (World.laidAll Tryz.prog os Laid7.laid2) #[.string ByteArray.empty] 8 (World.laidAll_os _ _ _) (World.shaped_of_ZipB (by kernel_rfl) (by kernel_rfl)) (by kernel_rfl) (by kernel_rfl) (by kernel_rfl) (Laid7.door_met os _)) ?_
 intro W base args ds gs before hval0 hW hcnd hsz0 hL hSh _
 have hval : ∀ (j : Nat) t v, Tryz.f5.params[j]? = some t → args[j]? = some v → Value.okWide Tryz.prog W .any base t v := hval0
 have hW' := hW
 obtain ⟨p, q, hA0, hV, rfl, hfz, hnd⟩ := hW
 have hA : DataW.TrodAll enc Tryz.prog W 0 (fun _ => true) true Tryz.f5.params.toList args.toList ds p := hA0
 rw [Tryz.params5] at hA hval
 obtain ⟨v0, vs0, d0, ds0, p0, q0, hargs, rfl, rfl, h0, r0⟩ := trodAll_cons hA
 obtain ⟨rfl, rfl, rfl⟩ := trodAll_nil r0
 obtain rfl : args = #[v0] := by cases args; simp_all
 obtain ⟨rfl, rfl⟩ := trodVars_none hV
 obtain ⟨a0, rfl, rfl, rfl, y0⟩ := open_string Tryz.underlying9 (hval 0 9 v0 rfl rfl) h0
 clear hA0 hval0 hsz0
 obtain ⟨k, h⟩ := Pure.MastParses a0 y0
 refine (dropperlaw01_MastParses.calls k a0 true W  (Laid7.tabs_of hL hSh) h).mono fun e W' ⟨he, bel0⟩ => ?_
 have bel : Below W.heap.size W W' := bel0
 subst he
 exact ⟨_, rfl, _, _, _, [], _, [], hW', trodAll_mk1 (shut_bool Tryz.underlying4 _), (trodAll_cons_mk (shut_string Tryz.underlying9 y0) trodAll_mk0), rfl, bel.frame _, fun h => by cases h⟩
theorem over : Rows.mastParsesRow.holds Tryz.pinned (OpenSpec.ofChange Rows.mastParsesSpec) :=
 OpenClaim.holds_of_wide 5 Tryz.f5 rfl rfl rfl rfl rfl rfl rfl ⟨rfl, rfl, rfl, rfl, rfl⟩ rfl rfl rfl rfl rfl (by kernel_rfl) Tryz.func5 (by kernel_rfl)
  (of_decide_eq_true (by kernel_rfl)) (by unfold Func.isWrapper; first | (rw [if_pos (by decide +kernel)]; kernel_rfl) | (rw [if_neg (by decide +kernel)]; exact ⟨rfl, rfl⟩))
  (fun os started H enc _ => lifted os started H enc)
theorem card_holds : Rows.MastParsesCardSaid :=
 Claim7.holds_tied_plain_at .later [] [.data, .data, .data, .data, .sentinel, .sentinel, .pinned] true (true, "79c178ec4cbd16cc474998518bff8e1aad91fae56a706dab5ef249d6464d663d") true
  over (fun _ h => by cases h) (by kernel_rfl) (fun _ h => by cases h) mastParses_row_tie rfl ⟨rfl, rfl⟩ (by kernel_rfl) rfl
  (fun f fn hf hfn => by
   obtain rfl : f = 5 := Option.some.inj ((show Tryz.prog.funcNamed "dropper/dropperlaw01.MastParses" = some 5 by kernel_rfl).symm.trans hf) |>.symm
   obtain rfl : fn = Tryz.f5 := (Option.some.inj (Tryz.func5.symm.trans hfn)).symm
   exact ⟨by kernel_rfl, fun j t ht => by
    rw [Tryz.params5] at ht
    have hall : ∀ t ∈ (#[9] : Array TypeId), Tryz.prog.wantsStandIn t = false := by decide +kernel
    exact hall t (Array.mem_of_getElem? ht)⟩)
  (by kernel_rfl)
#print axioms card_holds
end Go.Proofs.YtcmdcgghpkcchaaGreatDoor.mastParses
namespace Go.Proofs.YtcmdcgghpkcchaaGreatDoor
theorem mastParses_holds : Rows.MastParsesCardSaid := mastParses.card_holds
end Go.Proofs.YtcmdcgghpkcchaaGreatDoor
