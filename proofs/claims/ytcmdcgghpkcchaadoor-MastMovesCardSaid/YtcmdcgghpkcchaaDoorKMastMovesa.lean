-- Written by wip/pack.py of this repo: texts of this claim, put together.
import Derived.Test.YtcmdcgghpkcchaaDoorRows
import Derived.Test.YtcmdcgghpkcchaaDoorTie
import Derived.Test.YtcmdcgghpkcchaaDoorCards
import Derived.SevenTiedAt
import Derived.LaidMore
import Derived.Stop.Joined
import Derived.WalkKit
import Derived.ProofKit
import Derived.OpenShut
import Derived.ShutString
import Derived.ChangeOld
import Derived.Below
import Derived.SizedLaws
import Derived.Test.YtcmdcgghpkcchaaDoorKMastf
namespace Go.Proofs.YtcmdcgghpkcchaaDoor.XMast
open Go.RowKit Go.Proofs.YtcmdcgghpkcchaaDoorW.PrintWords Go.Proofs.YtcmdcgghpkcchaaDoorW.PrintLast Go.Proofs.YtcmdcgghpkcchaaDoorW.PrintMore
attribute [local go_sem] max2_int min2_int max_two min_two max_three min_three max_four min_four   -- for this text's walks alone
set_option linter.unusedVariables false
set_option linter.unusedSimpArgs false
/-! ### dropperlaw01_MastMoves: function 7 -/
def dropperlaw01_MastMoves.f (k : Nat) (l0 : List (S46)) (a1 : Int) : Option (Bool) := (dropperref01_Valid.f k l0).bind fun t411 => (if t411 = true then ((mast_Moved.f k l0 (wrap64 (a1))).bind fun bt413 => (if bt413.2 = 0 then ((mast_Moved.f k bt413.1 (wrap64 (-(wrap64 (a1))))).bind fun bt418 => ((mast_Length.f k l0).bind fun bt422 => ((mast_Length.f k bt413.1).bind fun bt424 => (if bt418.2 = 0 then (if bt422.2 = 0 then (if bt424.2 = 0 then ((dropperlaw01_Same.f k bt418.1 l0).bind fun t426 => (if t426 = true then (if bt422.1 = bt424.1 then ((dropperlaw01_First.f k).bind fun t427 => (some t427)) else (none)) else (none))) else (none)) else (none)) else (none))))) else (if bt413.2 = 2 then (if (bt413.1.length : Int) = 0 then ((dropperlaw01_First.f k).bind fun t417 => (some t417)) else (none)) else (none)))) else ((dropperlaw01_First.f k).bind fun t412 => (some t412)))
set_option maxHeartbeats 8000000 in
set_option maxRecDepth 100000 in
theorem dropperlaw01_MastMoves.calls (k : Nat) (A0 : Option Addr) (c0 : Nat) (l0 : List (S46)) (a1 : Int) (r : Bool) (w : World) (hr0 : Kd.C k46 w A0 l0.length l0) (hc0 : l0.length ≤ c0) (hT : Tab.Tabs w) (h : dropperlaw01_MastMoves.f k l0 a1 = some r) :
  Calls Tryd.prog 7 #[.slice A0 l0.length c0, .int .i32 a1] w fun e w' => e = .returned (.bool r) ∧ Below w.heap.size w w' := by
 have HT := Aside0.mk hT
 clear hT
 have HR0 := Aside0.mk hr0
 have HC0 := Aside0.mk hc0
 clear hr0 hc0
 have HB := Aside0.mk (Below.refl w.heap.size w)
 have H : ((dropperref01_Valid.f k l0).bind fun t411 => (if t411 = true then ((mast_Moved.f k l0 (wrap64 (a1))).bind fun bt413 => (if bt413.2 = 0 then ((mast_Moved.f k bt413.1 (wrap64 (-(wrap64 (a1))))).bind fun bt418 => ((mast_Length.f k l0).bind fun bt422 => ((mast_Length.f k bt413.1).bind fun bt424 => (if bt418.2 = 0 then (if bt422.2 = 0 then (if bt424.2 = 0 then ((dropperlaw01_Same.f k bt418.1 l0).bind fun t426 => (if t426 = true then (if bt422.1 = bt424.1 then ((dropperlaw01_First.f k).bind fun t427 => (some t427)) else (none)) else (none))) else (none)) else (none)) else (none))))) else (if bt413.2 = 2 then (if (bt413.1.length : Int) = 0 then ((dropperlaw01_First.f k).bind fun t417 => (some t417)) else (none)) else (none)))) else ((dropperlaw01_First.f k).bind fun t412 => (some t412)))) = some r := h
 clear h
 replace H := Option.bind_eq_some_iff.mp H
 obtain ⟨t411, A30, H⟩ := H
 try dsimp only at H
 have A3 := Aside0.mk A30
 clear A30
 by_cases c4 : t411 = true
 ·
  subst c4
  rw [if_pos rfl] at H
  replace H := Option.bind_eq_some_iff.mp H
  obtain ⟨⟨t413, t414⟩, A50, H⟩ := H
  try dsimp only at H
  have A5 := Aside0.mk A50
  clear A50
  by_cases c6 : t414 = 0
  ·
   rw [if_pos c6] at H
   have c6b0 : (t414 == 0) = true := beq_iff_eq.mpr c6
   have c6b1 : (t414 != 0) = false := bne_eq_false_iff_eq.mpr c6
   clear c6
   replace H := Option.bind_eq_some_iff.mp H
   obtain ⟨⟨t418, t419⟩, A70, H⟩ := H
   try dsimp only at H
   have A7 := Aside0.mk A70
   clear A70
   replace H := Option.bind_eq_some_iff.mp H
   obtain ⟨⟨t422, t423⟩, A80, H⟩ := H
   try dsimp only at H
   have A8 := Aside0.mk A80
   clear A80
   replace H := Option.bind_eq_some_iff.mp H
   obtain ⟨⟨t424, t425⟩, A90, H⟩ := H
   try dsimp only at H
   have A9 := Aside0.mk A90
   clear A90
   by_cases c10 : t419 = 0
   ·
    rw [if_pos c10] at H
    have c10b0 : (t419 == 0) = true := beq_iff_eq.mpr c10
    have c10b1 : (t419 != 0) = false := bne_eq_false_iff_eq.mpr c10
    clear c10
    by_cases c11 : t423 = 0
    ·
     rw [if_pos c11] at H
     have c11b0 : (t423 == 0) = true := beq_iff_eq.mpr c11
     have c11b1 : (t423 != 0) = false := bne_eq_false_iff_eq.mpr c11
     clear c11
     by_cases c12 : t425 = 0
     ·
      rw [if_pos c12] at H
      have c12b0 : (t425 == 0) = true := beq_iff_eq.mpr c12
      have c12b1 : (t425 != 0) = false := bne_eq_false_iff_eq.mpr c12
      clear c12
      replace H := Option.bind_eq_some_iff.mp H
      obtain ⟨t426, A130, H⟩ := H
      try dsimp only at H
      have A13 := Aside0.mk A130
      clear A130
      by_cases c14 : t426 = true
      ·
       subst c14
       rw [if_pos rfl] at H
       by_cases c15 : t422 = t424
       ·
        rw [if_pos c15] at H
        have c15b0 : (t422 == t424) = true := beq_iff_eq.mpr c15
        have c15b1 : (t422 != t424) = false := bne_eq_false_iff_eq.mpr c15
        clear c15
        replace H := Option.bind_eq_some_iff.mp H
        obtain ⟨t427, A160, H⟩ := H
        try dsimp only at H
        have A16 := Aside0.mk A160
        clear A160
        obtain rfl := Option.some.inj H
        go_enter Tryd.func7, Tryd.ntmps7
        go_wp2_with (first | ((with_reducible refine gate_callee (f := 37) rfl ?_); refine goesL_ (some 14) rfl rfl Tryd.func37 (by kernel_rfl) rfl #[.slice A0 l0.length c0] rfl mapz ?_; (with_reducible refine (dropperref01_Valid.calls k _ _ l0 true _ ?side1 HC0.out A3.out).mono ?_); (case side1 => repeat (first | exact HR0.out | (with_reducible refine Kd.C_alloc ?_ _) | (with_reducible refine Kd.C_drewN ?_ _) | (with_reducible refine Kd.C_drew ?_))); rintro e w17 ⟨rfl, hb⟩; refine ⟨_, rfl, ?_⟩; replace HB := Aside0.mk (below_step bel hb); clear hb) | ((with_reducible refine gate_callee (f := 27) rfl ?_); refine goesL_ (some 22) rfl rfl Tryd.func27 (by kernel_rfl) rfl #[.slice A0 l0.length c0, .int .i64 (wrap64 (a1))] rfl mapz ?_; (with_reducible refine (mast_Moved.calls k _ _ l0 (wrap64 (a1)) t413 t414 _ (cbz HR0) HC0.out A5.out).mono ?_); rintro e w18 ⟨v415, rfl, ho0, hb⟩; refine ⟨_, rfl, ?_⟩; have HO416 := Aside0.mk (Kd.R_lower ho0 (below_size bel)); replace HB := Aside0.mk (below_step bel hb); (try clear hb); (try clear hb2); (try clear hk); (try clear hi); (try clear ho0); obtain ⟨Ao19, co19, eo19⟩ := Kd.R_slice HO416.out; subst eo19) | ((with_reducible refine gate_callee (f := 27) rfl ?_); refine goesL_ (some 41) rfl rfl Tryd.func27 (by kernel_rfl) rfl #[.slice Ao19 t413.length co19, .int .i64 (wrap64 (-(wrap64 (a1))))] rfl mapz ?_; (with_reducible refine (mast_Moved.calls k _ _ t413 (wrap64 (-(wrap64 (a1)))) t418 t419 _ ?side1 ?side2 A7.out).mono ?_); (case side1 => repeat (first | exact (Kd.R_reads' HO416.out).2.2 | (with_reducible refine Kd.C_alloc ?_ _) | (with_reducible refine Kd.C_drewN ?_ _) | (with_reducible refine Kd.C_drew ?_))); (case side2 => exact (Kd.R_reads' HO416.out).2.1); rintro e w20 ⟨v420, rfl, ho0, hb⟩; refine ⟨_, rfl, ?_⟩; have HO421 := Aside0.mk (Kd.R_lower (Kd.R_new' ho0 (Kd.R_lt (ownx HO416))) (below_size bel)); replace HO416 := Aside0.mk (Kd.R_elder' (ownx HO416) (Kd.R_base ho0) hb); replace HB := Aside0.mk (below_step bel hb); (try clear hb); (try clear hb2); (try clear hk); (try clear hi); (try clear ho0)) | ((with_reducible refine gate_callee (f := 19) rfl ?_); refine goesL_ (some 46) rfl rfl Tryd.func19 (by kernel_rfl) rfl #[.slice A0 l0.length c0] rfl mapz ?_; (with_reducible refine (mast_Length.calls k _ _ l0 t422 t423 _ (cbz HR0) HC0.out A8.out).mono ?_); rintro e w21 ⟨rfl, hb⟩; refine ⟨_, rfl, ?_⟩; replace HO416 := Aside0.mk (Kd.R_below (ownx HO416) hb); replace HO421 := Aside0.mk (Kd.R_below (ownx HO421) hb); replace HB := Aside0.mk (below_step bel hb); clear hb) | ((with_reducible refine gate_callee (f := 19) rfl ?_); refine goesL_ (some 51) rfl rfl Tryd.func19 (by kernel_rfl) rfl #[.slice Ao19 t413.length co19] rfl mapz ?_; (with_reducible refine (mast_Length.calls k _ _ t413 t424 t425 _ ?side1 ?side2 A9.out).mono ?_); (case side1 => repeat (first | exact (Kd.R_reads' HO416.out).2.2 | (with_reducible refine Kd.C_alloc ?_ _) | (with_reducible refine Kd.C_drewN ?_ _) | (with_reducible refine Kd.C_drew ?_))); (case side2 => exact (Kd.R_reads' HO416.out).2.1); rintro e w22 ⟨rfl, hb⟩; refine ⟨_, rfl, ?_⟩; replace HO416 := Aside0.mk (Kd.R_below (ownx HO416) hb); replace HO421 := Aside0.mk (Kd.R_below (ownx HO421) hb); replace HB := Aside0.mk (below_step bel hb); clear hb; obtain ⟨Ao23, co23, eo23⟩ := Kd.R_slice HO421.out; subst eo23) | (go_at_call 16; (with_reducible refine (dropperlaw01_Same.calls k _ _ t418 _ _ l0 true _ ?side1 ?side2 (cbz HR0) HC0.out A13.out).mono ?_); (case side1 => repeat (first | exact (Kd.R_reads' HO421.out).2.2 | (with_reducible refine Kd.C_alloc ?_ _) | (with_reducible refine Kd.C_drewN ?_ _) | (with_reducible refine Kd.C_drew ?_))); (case side2 => exact (Kd.R_reads' HO421.out).2.1); rintro e w' ⟨rfl, ⟨nd, rfl⟩⟩) | (go_at_call 11; (with_reducible refine (dropperlaw01_First.calls k  t427 _ (tbz HT) A16.out).mono ?_); rintro e w24 ⟨rfl, hb⟩; replace HO416 := Aside0.mk (Kd.R_below (ownx HO416) hb); replace HO421 := Aside0.mk (Kd.R_below (ownx HO421) hb); replace HB := Aside0.mk (below_step bel hb); clear hb))
        go_ret
        exact ⟨ezz, bel⟩
       ·
        rw [if_neg c15] at H
        exact absurd H (by simp)
      ·
       replace c14 := Bool.eq_false_iff.mpr c14
       subst c14
       rw [if_neg (show ¬ (false = true) by decide)] at H
       exact absurd H (by simp)
     ·
      rw [if_neg c12] at H
      exact absurd H (by simp)
    ·
     rw [if_neg c11] at H
     exact absurd H (by simp)
   ·
    rw [if_neg c10] at H
    exact absurd H (by simp)
  ·
   rw [if_neg c6] at H
   have c6b0 : (t414 == 0) = false := beq_eq_false_iff_ne.mpr c6
   have c6b1 : (t414 != 0) = true := bne_iff_ne.mpr c6
   by_cases c25 : t414 = 2
   ·
    rw [if_pos c25] at H
    have c25b0 : (t414 == 2) = true := beq_iff_eq.mpr c25
    have c25b1 : (t414 != 2) = false := bne_eq_false_iff_eq.mpr c25
    clear c25
    by_cases c26 : (t413.length : Int) = 0
    ·
     rw [if_pos c26] at H
     have c26b0 : ((t413.length : Int) == 0) = true := beq_iff_eq.mpr c26
     have c26b1 : ((t413.length : Int) != 0) = false := bne_eq_false_iff_eq.mpr c26
     clear c26
     replace H := Option.bind_eq_some_iff.mp H
     obtain ⟨t417, A270, H⟩ := H
     try dsimp only at H
     have A27 := Aside0.mk A270
     clear A270
     obtain rfl := Option.some.inj H
     go_enter Tryd.func7, Tryd.ntmps7
     go_wp2_with (first | ((with_reducible refine gate_callee (f := 37) rfl ?_); refine goesL_ (some 14) rfl rfl Tryd.func37 (by kernel_rfl) rfl #[.slice A0 l0.length c0] rfl mapz ?_; (with_reducible refine (dropperref01_Valid.calls k _ _ l0 true _ ?side1 HC0.out A3.out).mono ?_); (case side1 => repeat (first | exact HR0.out | (with_reducible refine Kd.C_alloc ?_ _) | (with_reducible refine Kd.C_drewN ?_ _) | (with_reducible refine Kd.C_drew ?_))); rintro e w28 ⟨rfl, hb⟩; refine ⟨_, rfl, ?_⟩; replace HB := Aside0.mk (below_step bel hb); clear hb) | ((with_reducible refine gate_callee (f := 27) rfl ?_); refine goesL_ (some 22) rfl rfl Tryd.func27 (by kernel_rfl) rfl #[.slice A0 l0.length c0, .int .i64 (wrap64 (a1))] rfl mapz ?_; (with_reducible refine (mast_Moved.calls k _ _ l0 (wrap64 (a1)) t413 t414 _ (cbz HR0) HC0.out A5.out).mono ?_); rintro e w29 ⟨v415, rfl, ho0, hb⟩; refine ⟨_, rfl, ?_⟩; have HO416 := Aside0.mk (Kd.R_lower ho0 (below_size bel)); replace HB := Aside0.mk (below_step bel hb); (try clear hb); (try clear hb2); (try clear hk); (try clear hi); (try clear ho0); obtain ⟨Ao30, co30, eo30⟩ := Kd.R_slice HO416.out; subst eo30) | (go_at_call 11; (with_reducible refine (dropperlaw01_First.calls k  t417 _ (tbz HT) A27.out).mono ?_); rintro e w31 ⟨rfl, hb⟩; replace HO416 := Aside0.mk (Kd.R_below (ownx HO416) hb); replace HB := Aside0.mk (below_step bel hb); clear hb))
     go_ret
     exact ⟨ezz, bel⟩
    ·
     rw [if_neg c26] at H
     exact absurd H (by simp)
   ·
    rw [if_neg c25] at H
    exact absurd H (by simp)
 ·
  replace c4 := Bool.eq_false_iff.mpr c4
  subst c4
  rw [if_neg (show ¬ (false = true) by decide)] at H
  replace H := Option.bind_eq_some_iff.mp H
  obtain ⟨t412, A320, H⟩ := H
  try dsimp only at H
  have A32 := Aside0.mk A320
  clear A320
  obtain rfl := Option.some.inj H
  go_enter Tryd.func7, Tryd.ntmps7
  go_wp2_with (first | ((with_reducible refine gate_callee (f := 37) rfl ?_); refine goesL_ (some 14) rfl rfl Tryd.func37 (by kernel_rfl) rfl #[.slice A0 l0.length c0] rfl mapz ?_; (with_reducible refine (dropperref01_Valid.calls k _ _ l0 false _ ?side1 HC0.out A3.out).mono ?_); (case side1 => repeat (first | exact HR0.out | (with_reducible refine Kd.C_alloc ?_ _) | (with_reducible refine Kd.C_drewN ?_ _) | (with_reducible refine Kd.C_drew ?_))); rintro e w33 ⟨rfl, hb⟩; refine ⟨_, rfl, ?_⟩; replace HB := Aside0.mk (below_step bel hb); clear hb) | ((with_reducible refine gate_callee (f := 11) rfl ?_); refine goesL_ (some 16) rfl rfl Tryd.func11 (by kernel_rfl) rfl #[] rfl mapz ?_; (with_reducible refine (dropperlaw01_First.calls k  t412 _ (tbz HT) A32.out).mono ?_); rintro e w34 ⟨rfl, hb⟩; refine ⟨_, rfl, ?_⟩; replace HB := Aside0.mk (below_step bel hb); clear hb))
  go_ret
  exact ⟨ezz, bel⟩

end Go.Proofs.YtcmdcgghpkcchaaDoor.XMast
-- Written by wip/xprint.py of this repo, over the kit's print.py: out of the translation; the oracles in it are by hand. Not trusted: Lean checks it.
namespace Go.Proofs.YtcmdcgghpkcchaaDoor.XMast
open Go.RowKit Go.Proofs.YtcmdcgghpkcchaaDoor.XMast Go.Proofs.YtcmdcgghpkcchaaDoorW.PrintWords Go.Proofs.YtcmdcgghpkcchaaDoorW.PrintLast Go.Proofs.YtcmdcgghpkcchaaDoorW.PrintMore
def dropperlaw01_MastMoves.Pure : Prop := ∀ (l0 : List (S46)) (a1 : Int), (l0.length ≤ 9223372036854775807 ∧ ∀ y0 ∈ l0, ((Lit.int .i64 y0.f0).wf = true) ∧ ((Lit.int .i64 y0.f1).wf = true)) → ((Lit.int .i32 a1).wf = true) → ∃ k, dropperlaw01_MastMoves.f k l0 a1 = some true
end Go.Proofs.YtcmdcgghpkcchaaDoor.XMast

/- Valid of the reference, for a list of whatever length. -/
namespace Go.Proofs.YtcmdcgghpkcchaaDoor.Lay
set_option linter.unusedVariables false
set_option linter.unusedSimpArgs false
open Go.RowKit Go.Proofs.YtcmdcgghpkcchaaDoor.XMast Go.Proofs.YtcmdcgghpkcchaaDoorW.PrintWords Go.Proofs.YtcmdcgghpkcchaaDoorW.PrintLast Go.Proofs.YtcmdcgghpkcchaaDoorW.PrintMore
theorem rvalid7 (l : List St) (hl : l.length ≤ 9223372036854775807) : Ev (fun k => dropperref01_Valid.f k l) (okB l) := by
 have H : ∀ (d i : Nat), i + d = l.length → Norm (l.take i) → Ev (fun k => dropperref01_Valid.l0 k l (i : Int)) (okB l) := by
  intro d
  induction d with
  | zero =>
   intro i hi hn
   refine Ev.step (fun k => by rw [dropperref01_Valid.l0]) ?_
   refine ev_neg (by omega) (ev_const ?_)
   rw [List.take_of_length_le (by omega)] at hn
   rw [okB_len hn]
  | succ d ih =>
   intro i hi hn
   have hil : i < l.length := by omega
   refine Ev.step (fun k => by rw [dropperref01_Valid.l0]) ?_
   refine ev_pos (by omega) (ev_pos (by omega) ?_)
   rw [rdSt l i hil, rst]
   refine ev_some ?_
   by_cases hs : isSt l[i]
   ·
    refine ev_pos (by simpa using hs) ?_
    have hw := wrap_succ hil (by omega)
    by_cases hi0 : 0 < i
    ·
     have e : wrap64 ((i : Int) - 1) = ((i - 1 : Nat) : Int) := by rw [wrap_id] <;> omega
     rw [e, hw, rdSt l (i - 1) (by omega)]
     refine ev_pos (by omega) (ev_pos (by omega) (ev_pos (by omega) ?_))
     by_cases hg : l[i].f0 ≤ l[i - 1].f1
     ·
      refine ev_pos hg (ev_const ?_)
      rw [okB_no]
      intro h
      have h2 := h.gap (i - 1) (by omega)
      have h3 : l[i - 1 + 1] = l[i] := by congr 1; omega
      rw [h3] at h2
      omega
     ·
      exact ev_neg hg (ih (i + 1) (by omega) (norm_step hil hn hs (fun _ => by omega)))
    ·
     refine ev_neg (by omega) ?_
     rw [hw]
     exact ih (i + 1) (by omega) (norm_step hil hn hs (fun h => absurd h hi0))
   ·
    refine ev_neg (by simpa using hs) (ev_const ?_)
    rw [okB_no]
    intro h
    exact hs (h.at_ i hil)
 exact H l.length 0 (by omega) (by simpa using Norm.nil)
end Go.Proofs.YtcmdcgghpkcchaaDoor.Lay

/- There and back: a lay that is moved and moved back is the same, and as long. -/
namespace Go.Proofs.YtcmdcgghpkcchaaDoor.Pure
set_option linter.unusedVariables false
set_option linter.unusedSimpArgs false
open Go.RowKit Go.Proofs.YtcmdcgghpkcchaaDoor.XMast Go.Proofs.YtcmdcgghpkcchaaDoorW.PrintWords Go.Proofs.YtcmdcgghpkcchaaDoorW.PrintLast Go.Proofs.YtcmdcgghpkcchaaDoorW.PrintMore
open Go.Proofs.YtcmdcgghpkcchaaDoor.Lay
theorem MastMoves : dropperlaw01_MastMoves.Pure := by
 intro l n hl hn
 refine Ev.rounds (r := true) (g := fun k => dropperlaw01_MastMoves.f k l n) ?_
 unfold dropperlaw01_MastMoves.f
 have hn2 : -2147483648 ≤ n ∧ n ≤ 2147483647 := by
  have h1 := hn
  simp [Lit.wf, IntKind.min, IntKind.max, IntKind.signed, IntKind.bits] at h1
  omega
 have hv := rvalid7 l hl.1
 by_cases h : okB l = true
 ·
  have h' := (okB_iff l).1 h
  refine Ev.bind hv (ev_pos h ?_)
  rw [wrap_id (x := n) (by omega) (by omega), wrap_id (x := -n) (by omega) (by omega)]
  refine Ev.bind (moved_m l h' n) ?_
  rcases movF_spec n l [] with e | ⟨h1, e⟩
  ·
   rw [e]
   exact ev_neg (by decide) (ev_pos rfl (ev_pos rfl (Ev.bind first_ev (Ev.now _))))
  ·
   rw [e]
   refine ev_pos rfl ?_
   show Ev (fun k => (mast_Moved.f k (shift n l) (-n)).bind _) true
   have h2 : Norm (shift n l) ∧ (shift n l).length ≤ 60 := ⟨shift_norm h'.1 h1, by unfold shift; rw [List.length_map]; exact h'.2⟩
   have h3 : movF (-n) (shift n l) [] = (l, 0) := by
    rw [movF_ok (-n) (shift n l) [] (fun u hu => ?_), shift_back]
    ·
     rfl
    ·
     obtain ⟨s, hs, rfl⟩ := List.mem_map.1 hu
     have := h'.1.2 s hs
     show 0 ≤ s.f0 + n + -n ∧ s.f1 + n + -n ≤ 100000
     omega
   have h4 := moved_m _ h2 (-n)
   rw [h3] at h4
   have h5 := Length_ _ h2
   rw [tot_shift] at h5
   exact Ev.bind h4 (Ev.bind (Length_ l h') (Ev.bind h5 (ev_pos rfl (ev_pos rfl (ev_pos rfl (Ev.bind (same_refl l (by omega)) (ev_pos rfl (ev_pos rfl (Ev.bind first_ev (Ev.now _))))))))))
 ·
  exact Ev.bind hv (ev_neg h (Ev.bind first_ev (Ev.now _)))
end Go.Proofs.YtcmdcgghpkcchaaDoor.Pure

-- Written by wip/xprint.py of this repo, over the kit's print.py: out of the translation; the oracles in it are by hand. Not trusted: Lean checks it.
namespace Go.Proofs.YtcmdcgghpkcchaaDoor.mastMoves
open Go.ChangeShapes Go.WideShapes Go.ChangeAt Go.RowKit Go.Proofs.YtcmdcgghpkcchaaDoor.Open Go.Proofs.YtcmdcgghpkcchaaDoor.XMast Go.Proofs.YtcmdcgghpkcchaaDoorW.PrintWords Go.Proofs.YtcmdcgghpkcchaaDoorW.PrintLast Go.Proofs.YtcmdcgghpkcchaaDoorW.PrintMore
open Go.ChangeMaps (open_string shut_string)
set_option linter.unusedVariables false
set_option linter.unusedSimpArgs false
theorem own : ownKnob Tryd.prog.godebug = none := by kernel_rfl
theorem laidOut : laidOutB Tryd.prog = true := by kernel_rfl
set_option maxRecDepth 100000 in
theorem lifted (os : Os) (started : os.Started) (H : Type) (enc : TypeId × Value → H) :
  ReturnsInHanded {} Tryd.checked os 7 .any (fun w args => (Rows.mastMovesSpec.pre enc Tryd.prog Tryd.f7 [] false w args ∧ laidMetH Tryd.prog Laid.laid2 w) ∧ sizedMet enc Tryd.prog Tryd.f7 (OpenSpec.ofChange Rows.mastMovesSpec) false w args) (Rows.mastMovesSpec.post enc Tryd.prog Tryd.f7 false true false false) := by
 refine returnsInHanded_of_change_and (C := Tryd.checked) (X := fun w _ => laidMetH Tryd.prog Laid.laid2 w) (fun _ _ _ hh h => h.of_heap hh) own started (by kernel_rfl) Tryd.func7
  (ChangeSpec.witness_shaped (enc := enc) (C := Tryd.checked) (os := os) (X := fun w _ => laidMetH Tryd.prog Laid.laid2 w) false (World.doorLaid Tryd.prog 4000 os) #[.slice none 0 0, .int .i32 0] 8 rfl (World.shaped_of_RefB (by kernel_rfl) (by kernel_rfl)) (by kernel_rfl) (by kernel_rfl) (by kernel_rfl) (Laid.door_met os _)) ?_
 intro W base args ds gs before hval0 hW hcnd hsz0 hL _
 have hval : ∀ (j : Nat) t v, Tryd.f7.params[j]? = some t → args[j]? = some v → Value.okWide Tryd.prog W .any base t v := hval0
 have hW' := hW
 obtain ⟨p, q, hA0, hV, rfl, hfz, hnd⟩ := hW
 have hA : DataW.TrodAll enc Tryd.prog W 0 (fun _ => true) true Tryd.f7.params.toList args.toList ds p := hA0
 rw [Tryd.params7] at hA hval
 obtain ⟨v0, vs0, d0, ds0, p0, q0, hargs, rfl, rfl, h0, r0⟩ := trodAll_cons hA
 obtain ⟨v1, vs1, d1, ds1, p1, q1, rfl, rfl, rfl, h1, r1⟩ := trodAll_cons r0
 obtain ⟨rfl, rfl, rfl⟩ := trodAll_nil r1
 obtain rfl : args = #[v0, v1] := by cases args; simp_all
 obtain ⟨rfl, rfl⟩ := trodVars_none hV
 obtain ⟨b0, len0, cap0, rfl⟩ := okWide_slice Tryd.underlying22 (hval 0 22 v0 rfl rfl)
 have k0 := h0
 have lt0 : ∀ x ∈ p0, x.block < W.heap.size := by obtain ⟨m, hm⟩ := k0; exact DataW.trod_lt m _ _ _ hm
 obtain ⟨fuel0, hf0⟩ := h0
 obtain ⟨l0, ⟨A0, c0, hcs0, hc0, hr0⟩, hg0⟩ := (opens_slice Tryd.underlying22 (opens_iso (f := fun x : S46 => (x.f0, x.f1)) (fun p => ⟨p.1, p.2⟩) (fun _ => rfl) (opens_struct Tryd.underlying46 (by kernel_rfl) (opensF_cons rfl (by kernel_rfl) (opens_int Tryd.underlying3) (opensF_one rfl (by kernel_rfl) (opens_int Tryd.underlying3))))) (by kernel_rfl)) H enc W fuel0 _ _ hf0
 simp [Value.cells] at hcs0
 obtain ⟨rfl, rfl, rfl⟩ := hcs0
 obtain ⟨a1, rfl, rfl, rfl, w1⟩ := open_int Tryd.underlying21 (hval 1 21 v1 rfl rfl) h1
 clear hA0 hval0 hsz0
 obtain ⟨k, h⟩ := Pure.MastMoves l0 a1 hg0 w1
 refine (dropperlaw01_MastMoves.calls k _ _ l0 a1 true W hr0 hc0 (Laid.tabs_of hL) h).mono fun e W' ⟨he, bel0⟩ => ?_
 have bel : Below W.heap.size W W' := bel0
 subst he
 exact ⟨_, rfl, _, _, _, [], _, [], hW', trodAll_mk1 (shut_bool Tryd.underlying4 _), (trodAll_cons_mk (Below.trod laidOut (by kernel_rfl) (of_decide_eq_true (by kernel_rfl)) k0 bel lt0) (trodAll_cons_mk (shut_int Tryd.underlying21 w1) trodAll_mk0)), rfl, bel.frame _, fun h => by cases h⟩
theorem over : Rows.mastMovesRow.holds Tryd.pinned (OpenSpec.ofChange Rows.mastMovesSpec) :=
 OpenClaim.holds_of_wide 7 Tryd.f7 rfl rfl rfl rfl rfl rfl rfl ⟨rfl, rfl, rfl, rfl, rfl⟩ rfl rfl rfl rfl rfl (by kernel_rfl) Tryd.func7 (by kernel_rfl)
  (of_decide_eq_true (by kernel_rfl)) (by unfold Func.isWrapper; first | (rw [if_pos (by decide +kernel)]; kernel_rfl) | (rw [if_neg (by decide +kernel)]; exact ⟨rfl, rfl⟩))
  (fun os started H enc _ => lifted os started H enc)
theorem card_holds : Rows.MastMovesCardSaid :=
 Claim7.holds_tied_plain_at .later [] [.data, .data, .data] true (true, "d919e17aca2791b8c412353f2b117ae8d034433952b93dc40eac1d6d377e885d") false
  over (fun _ h => by cases h) (by kernel_rfl) (fun _ h => by cases h) mastMoves_row_tie rfl ⟨rfl, rfl⟩ (by kernel_rfl) rfl
  (fun f fn hf hfn => by
   obtain rfl : f = 7 := Option.some.inj ((show Tryd.prog.funcNamed "dropper/dropperlaw01.MastMoves" = some 7 by kernel_rfl).symm.trans hf) |>.symm
   obtain rfl : fn = Tryd.f7 := (Option.some.inj (Tryd.func7.symm.trans hfn)).symm
   exact ⟨by kernel_rfl, fun j t ht => by
    rw [Tryd.params7] at ht
    have hall : ∀ t ∈ (#[22, 21] : Array TypeId), Tryd.prog.wantsStandIn t = false := by decide +kernel
    exact hall t (Array.mem_of_getElem? ht)⟩)
  (by kernel_rfl)
#print axioms card_holds
end Go.Proofs.YtcmdcgghpkcchaaDoor.mastMoves
namespace Go.Proofs.YtcmdcgghpkcchaaDoor
theorem mastMoves_holds : Rows.MastMovesCardSaid := mastMoves.card_holds
end Go.Proofs.YtcmdcgghpkcchaaDoor
