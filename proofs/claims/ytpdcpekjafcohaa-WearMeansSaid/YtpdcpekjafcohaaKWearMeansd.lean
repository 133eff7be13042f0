-- Written by wip/pack.py of this repo: texts of this claim, put together.
import Derived.Test.YtpdcpekjafcohaaRows
import Derived.Test.YtpdcpekjafcohaaOpen
import Derived.WalkKit
import Derived.ProofKit
import Derived.OpenShut
import Derived.ShutString
import Derived.ChangeOld
import Derived.Below
import Derived.SizedLaws
import Derived.Test.YtpdcpekjafcohaaKWearMeansc
-- Written by wip/xprint.py of this repo, over the kit's print.py: out of the translation; the oracles in it are by hand. Not trusted: Lean checks it.
namespace Go.Proofs.Ytpdcpekjafcohaa.XWear
open Go.RowKit Go.Proofs.YtpdcpekjafcohaaW.PrintWords Go.Proofs.YtpdcpekjafcohaaW.PrintLast Go.Proofs.YtpdcpekjafcohaaW.PrintMore
attribute [local go_sem] max2_int min2_int max_two min_two max_three min_three max_four min_four   -- for this text's walks alone
set_option linter.unusedVariables false
set_option linter.unusedSimpArgs false

attribute [local go_sem high] eqA35
/-! ### dropperlaw07_WearMeans: function 12 -/
def dropperlaw07_WearMeans.f (k : Nat) (l0 : List Int) (a1_0 : Int) (a1_1 : Int) (a2 : Int) : Option (Bool) := (dropperlaw07_Long.f l0 ([] : List (S35))).bind fun t518 => (if t518 = true then ((dropperlaw07_First.f k).bind fun t519 => (some t519)) else ((wear_Mean.f k l0 a1_0 a1_1).bind fun bt520 => ((dropperref07_Mean.f k l0 a1_0 a1_1).bind fun bt524 => ((wear_Between.f k l0 a2).bind fun bt528 => ((dropperref07_Between.f k l0 a2).bind fun bt532 => ((wear_Falls.f k l0).bind fun bt536 => ((dropperref07_Falls.f k l0).bind fun bt538 => (if (bt520.1 == bt524.1 && (bt520.2.1 == bt524.2.1)) = true then (if bt520.2.2 = bt524.2.2 then (if (bt528.1 == bt532.1 && (bt528.2.1 == bt532.2.1)) = true then (if bt528.2.2 = bt532.2.2 then (if bt536.1 = bt538.1 then (if bt536.2 = bt538.2 then ((dropperlaw07_First.f k).bind fun t540 => (some t540)) else (none)) else (none)) else (none)) else (none)) else (none)) else (none)))))))))
theorem dropperlaw07_WearMeans.mono : ∀ a0 a1 a2 a3 k, LeO (dropperlaw07_WearMeans.f k a0 a1 a2 a3) (dropperlaw07_WearMeans.f (k + 1) a0 a1 a2 a3) := by
  intro a0 a1 a2 a3 k
  unfold dropperlaw07_WearMeans.f
  repeat' first
      | (with_reducible exact dropperlaw07_First.mono _)
      | (with_reducible exact dropperref07_Between.mono _ _ _)
      | (with_reducible exact dropperref07_Falls.mono _ _)
      | (with_reducible exact dropperref07_Mean.mono _ _ _ _)
      | (with_reducible exact wear_Between.mono _ _ _)
      | (with_reducible exact wear_Falls.mono _ _)
      | (with_reducible exact wear_Mean.mono _ _ _ _)
      | (with_reducible exact LeO.refl _)
      | (with_reducible exact LeO.none _)
      | (with_reducible refine LeO.ite ?_ ?_)
      | (with_reducible refine LeO.bind ?_ (fun _ => ?_))
      | exact dropperlaw07_First.mono _
      | exact dropperref07_Between.mono _ _ _
      | exact dropperref07_Falls.mono _ _
      | exact dropperref07_Mean.mono _ _ _ _
      | exact wear_Between.mono _ _ _
      | exact wear_Falls.mono _ _
      | exact wear_Mean.mono _ _ _ _
      | exact LeO.none _
      | refine LeO.ite ?_ ?_
      | refine LeO.bind ?_ (fun _ => ?_)
set_option maxHeartbeats 8000000 in
set_option maxRecDepth 100000 in
theorem dropperlaw07_WearMeans.calls (k : Nat) (A0 : Option Addr) (c0 : Nat) (l0 : List Int) (a1_0 : Int) (a1_1 : Int) (a2 : Int) (r : Bool) (w : World) (hr0 : Kd.C (Kd.int .i64) w A0 l0.length l0) (hc0 : l0.length ≤ c0) (h : dropperlaw07_WearMeans.f k l0 a1_0 a1_1 a2 = some r) :
    Calls Try.prog 12 #[.slice A0 l0.length c0, .agg #[.int .i64 a1_0, .int .i64 a1_1], .int .i64 a2] w fun e w' => e = .returned (.bool r) ∧ Below w.heap.size w w' := by
  have hu57 := Try.underlying57
  have hu35 := Try.underlying35
  have HR0 := Aside0.mk hr0
  have HC0 := Aside0.mk hc0
  clear hr0 hc0
  have HB := Aside0.mk (Below.refl w.heap.size w)
  have H : ((dropperlaw07_Long.f l0 ([] : List (S35))).bind fun t518 => (if t518 = true then ((dropperlaw07_First.f k).bind fun t519 => (some t519)) else ((wear_Mean.f k l0 a1_0 a1_1).bind fun bt520 => ((dropperref07_Mean.f k l0 a1_0 a1_1).bind fun bt524 => ((wear_Between.f k l0 a2).bind fun bt528 => ((dropperref07_Between.f k l0 a2).bind fun bt532 => ((wear_Falls.f k l0).bind fun bt536 => ((dropperref07_Falls.f k l0).bind fun bt538 => (if (bt520.1 == bt524.1 && (bt520.2.1 == bt524.2.1)) = true then (if bt520.2.2 = bt524.2.2 then (if (bt528.1 == bt532.1 && (bt528.2.1 == bt532.2.1)) = true then (if bt528.2.2 = bt532.2.2 then (if bt536.1 = bt538.1 then (if bt536.2 = bt538.2 then ((dropperlaw07_First.f k).bind fun t540 => (some t540)) else (none)) else (none)) else (none)) else (none)) else (none)) else (none)))))))))) = some r := h
  clear h
  replace H := Option.bind_eq_some_iff.mp H
  obtain ⟨t518, A40, H⟩ := H
  replace H : (if t518 = true then ((dropperlaw07_First.f k).bind fun t519 => (some t519)) else ((wear_Mean.f k l0 a1_0 a1_1).bind fun bt520 => ((dropperref07_Mean.f k l0 a1_0 a1_1).bind fun bt524 => ((wear_Between.f k l0 a2).bind fun bt528 => ((dropperref07_Between.f k l0 a2).bind fun bt532 => ((wear_Falls.f k l0).bind fun bt536 => ((dropperref07_Falls.f k l0).bind fun bt538 => (if (bt520.1 == bt524.1 && (bt520.2.1 == bt524.2.1)) = true then (if bt520.2.2 = bt524.2.2 then (if (bt528.1 == bt532.1 && (bt528.2.1 == bt532.2.1)) = true then (if bt528.2.2 = bt532.2.2 then (if bt536.1 = bt538.1 then (if bt536.2 = bt538.2 then ((dropperlaw07_First.f k).bind fun t540 => (some t540)) else (none)) else (none)) else (none)) else (none)) else (none)) else (none))))))))) = some r := H
  have A4 := Aside0.mk A40
  clear A40
  by_cases c5 : t518 = true
  · subst c5
    have H1 : ((dropperlaw07_First.f k).bind fun t519 => (some t519)) = some r := by rw [if_pos rfl] at H; exact H
    clear H
    have H := H1
    clear H1
    replace H := Option.bind_eq_some_iff.mp H
    obtain ⟨t519, A60, H⟩ := H
    replace H : (some t519) = some r := H
    have A6 := Aside0.mk A60
    clear A60
    obtain rfl := Option.some.inj H
    go_enter Try.func12, Try.ntmps12
    go_wp2_with (first | ((with_reducible refine gate_dst (N := 4) rfl ?_); refine box_event ?hg (N := 4) ?hd (cs := #[.int .i64 a1_0, .int .i64 a1_1]) (t := 57) ?hr ?_; (case hd => rfl); (case hg => rfl); (case hr => first | (go_simp; done) | (go_simp; rfl)); intro gb517 hg w7 hbox hb; have n0_ := Aside0.mk (below_step (by repeat (first | (with_reducible first | exact HB.out | apply below_alloc | apply pw_below_drewN | apply below_drew1) | exact HB.out)) hb); have n1_ := Aside0.mk (hbox); have n2_ := Aside0.mk ((by rw [hg]; exact (below_size (by repeat (first | (with_reducible first | exact HB.out | apply below_alloc | apply pw_below_drewN | apply below_drew1) | exact HB.out))) : w.heap.size ≤ gb517)); have n3_ := Aside0.mk ((by rw [hg]; exact (below_size (by repeat (first | (with_reducible first | exact HB.out | apply below_alloc | apply pw_below_drewN | apply below_drew1) | exact HB.out))) : w.heap.size ≤ gb517)); clear HB; have HB := n0_; have BK517 := n1_; have GW517 := n2_; have GE517 := n3_; clear n0_ n1_ n2_ n3_; clear hb hbox hg) | ((with_reducible refine gate_callee (f := 14) rfl ?_); refine goesL_ (some 20) rfl rfl Try.func14 (by kernel_rfl) rfl #[.slice A0 l0.length c0, .slice none 0 0] rfl (by (try simp only [List.map_toArray, List.map_cons, List.map_nil]); first | done | rfl | (simp only [List.length_drop, List.length_take]; rfl)) ?_; (refine (dropperlaw07_Long.calls _ _ l0 _ _ ([] : List (S35)) true _ ?side1 ?side2 ?side3 ?side4 A4.out).mono ?_); (case side1 => repeat (first | exact (Kd.C_below HR0.out HB.out) | (with_reducible refine Kd.C_alloc ?_ _) | (with_reducible refine Kd.C_drewN ?_ _) | (with_reducible refine Kd.C_drew ?_))); (case side2 => exact HC0.out); (case side3 => exact Kd.C_nil _ _); (case side4 => exact Nat.le_refl _); rintro e w' ⟨rfl, ⟨nd, rfl⟩⟩; refine ⟨_, rfl, ?_⟩) | ((with_reducible refine gate_callee (f := 15) rfl ?_); refine goesL_ (some 21) rfl rfl Try.func15 (by kernel_rfl) rfl #[] rfl (by (try simp only [List.map_toArray, List.map_cons, List.map_nil]); first | done | rfl | (simp only [List.length_drop, List.length_take]; rfl)) ?_; (with_reducible refine (dropperlaw07_First.calls k  t519 _ A6.out).mono ?_); rintro e w8 ⟨rfl, hb⟩; refine ⟨_, rfl, ?_⟩; have n0_ := Aside0.mk (blk_below (g := gb517) (o := .cells #[.int .i64 a1_0, .int .i64 a1_1] 57 (0, 0)) (by (with_reducible repeat (first | refine blk_drewN ?_ _ | refine blk_drew ?_ | refine blk_alloc ?_ _)); exact BK517.out) hb); have n1_ := Aside0.mk (below_step (by repeat (first | (with_reducible first | exact HB.out | apply below_alloc | apply pw_below_drewN | apply below_drew1 | refine below_set ?_ GE517.out) | exact HB.out)) hb); clear BK517; clear HB; have BK517 := n0_; have HB := n1_; clear n0_ n1_; (try clear hb); (try clear hb2); (try clear hk); (try clear hi)))
    go_ret
    exact ⟨by first | rfl | (simp [errW_none, errW_some] <;> rfl) | (simp [*, errW_none, errW_some] <;> rfl), by repeat (first | (with_reducible first | exact HB.out | apply below_alloc | apply pw_below_drewN | apply below_drew1 | refine below_set ?_ GE517.out) | exact HB.out)⟩
  · replace c5 := Bool.eq_false_iff.mpr c5
    subst c5
    have H1 : ((wear_Mean.f k l0 a1_0 a1_1).bind fun bt520 => ((dropperref07_Mean.f k l0 a1_0 a1_1).bind fun bt524 => ((wear_Between.f k l0 a2).bind fun bt528 => ((dropperref07_Between.f k l0 a2).bind fun bt532 => ((wear_Falls.f k l0).bind fun bt536 => ((dropperref07_Falls.f k l0).bind fun bt538 => (if (bt520.1 == bt524.1 && (bt520.2.1 == bt524.2.1)) = true then (if bt520.2.2 = bt524.2.2 then (if (bt528.1 == bt532.1 && (bt528.2.1 == bt532.2.1)) = true then (if bt528.2.2 = bt532.2.2 then (if bt536.1 = bt538.1 then (if bt536.2 = bt538.2 then ((dropperlaw07_First.f k).bind fun t540 => (some t540)) else (none)) else (none)) else (none)) else (none)) else (none)) else (none)))))))) = some r := by rw [if_neg (show ¬ (false = true) by decide)] at H; exact H
    clear H
    have H := H1
    clear H1
    replace H := Option.bind_eq_some_iff.mp H
    obtain ⟨⟨t520, t521, t522⟩, A90, H⟩ := H
    replace H : ((dropperref07_Mean.f k l0 a1_0 a1_1).bind fun bt524 => ((wear_Between.f k l0 a2).bind fun bt528 => ((dropperref07_Between.f k l0 a2).bind fun bt532 => ((wear_Falls.f k l0).bind fun bt536 => ((dropperref07_Falls.f k l0).bind fun bt538 => (if (t520 == bt524.1 && (t521 == bt524.2.1)) = true then (if t522 = bt524.2.2 then (if (bt528.1 == bt532.1 && (bt528.2.1 == bt532.2.1)) = true then (if bt528.2.2 = bt532.2.2 then (if bt536.1 = bt538.1 then (if bt536.2 = bt538.2 then ((dropperlaw07_First.f k).bind fun t540 => (some t540)) else (none)) else (none)) else (none)) else (none)) else (none)) else (none))))))) = some r := H
    have A9 := Aside0.mk A90
    clear A90
    replace H := Option.bind_eq_some_iff.mp H
    obtain ⟨⟨t524, t525, t526⟩, A100, H⟩ := H
    replace H : ((wear_Between.f k l0 a2).bind fun bt528 => ((dropperref07_Between.f k l0 a2).bind fun bt532 => ((wear_Falls.f k l0).bind fun bt536 => ((dropperref07_Falls.f k l0).bind fun bt538 => (if (t520 == t524 && (t521 == t525)) = true then (if t522 = t526 then (if (bt528.1 == bt532.1 && (bt528.2.1 == bt532.2.1)) = true then (if bt528.2.2 = bt532.2.2 then (if bt536.1 = bt538.1 then (if bt536.2 = bt538.2 then ((dropperlaw07_First.f k).bind fun t540 => (some t540)) else (none)) else (none)) else (none)) else (none)) else (none)) else (none)))))) = some r := H
    have A10 := Aside0.mk A100
    clear A100
    replace H := Option.bind_eq_some_iff.mp H
    obtain ⟨⟨t528, t529, t530⟩, A110, H⟩ := H
    replace H : ((dropperref07_Between.f k l0 a2).bind fun bt532 => ((wear_Falls.f k l0).bind fun bt536 => ((dropperref07_Falls.f k l0).bind fun bt538 => (if (t520 == t524 && (t521 == t525)) = true then (if t522 = t526 then (if (t528 == bt532.1 && (t529 == bt532.2.1)) = true then (if t530 = bt532.2.2 then (if bt536.1 = bt538.1 then (if bt536.2 = bt538.2 then ((dropperlaw07_First.f k).bind fun t540 => (some t540)) else (none)) else (none)) else (none)) else (none)) else (none)) else (none))))) = some r := H
    have A11 := Aside0.mk A110
    clear A110
    replace H := Option.bind_eq_some_iff.mp H
    obtain ⟨⟨t532, t533, t534⟩, A120, H⟩ := H
    replace H : ((wear_Falls.f k l0).bind fun bt536 => ((dropperref07_Falls.f k l0).bind fun bt538 => (if (t520 == t524 && (t521 == t525)) = true then (if t522 = t526 then (if (t528 == t532 && (t529 == t533)) = true then (if t530 = t534 then (if bt536.1 = bt538.1 then (if bt536.2 = bt538.2 then ((dropperlaw07_First.f k).bind fun t540 => (some t540)) else (none)) else (none)) else (none)) else (none)) else (none)) else (none)))) = some r := H
    have A12 := Aside0.mk A120
    clear A120
    replace H := Option.bind_eq_some_iff.mp H
    obtain ⟨⟨t536, t537⟩, A130, H⟩ := H
    replace H : ((dropperref07_Falls.f k l0).bind fun bt538 => (if (t520 == t524 && (t521 == t525)) = true then (if t522 = t526 then (if (t528 == t532 && (t529 == t533)) = true then (if t530 = t534 then (if t536 = bt538.1 then (if t537 = bt538.2 then ((dropperlaw07_First.f k).bind fun t540 => (some t540)) else (none)) else (none)) else (none)) else (none)) else (none)) else (none))) = some r := H
    have A13 := Aside0.mk A130
    clear A130
    replace H := Option.bind_eq_some_iff.mp H
    obtain ⟨⟨t538, t539⟩, A140, H⟩ := H
    replace H : (if (t520 == t524 && (t521 == t525)) = true then (if t522 = t526 then (if (t528 == t532 && (t529 == t533)) = true then (if t530 = t534 then (if t536 = t538 then (if t537 = t539 then ((dropperlaw07_First.f k).bind fun t540 => (some t540)) else (none)) else (none)) else (none)) else (none)) else (none)) else (none)) = some r := H
    have A14 := Aside0.mk A140
    clear A140
    by_cases c15 : (t520 == t524 && (t521 == t525)) = true
    · rw [if_pos c15] at H
      have c15b0 : (t520 == t524 && (t521 == t525)) = true := c15
      (try (have c15b1 : decide (t520 = t524 && (t521 == t525)) = true := by simpa using c15))
      (try (have c15b2 : (t520 == t524 && (t521 == t525)) = true := by simpa using c15))
      clear c15
      by_cases c16 : t522 = t526
      · rw [if_pos c16] at H
        have c16b0 : (t522 == t526) = true := beq_iff_eq.mpr c16
        have c16b1 : (t522 != t526) = false := bne_eq_false_iff_eq.mpr c16
        clear c16
        by_cases c17 : (t528 == t532 && (t529 == t533)) = true
        · rw [if_pos c17] at H
          have c17b0 : (t528 == t532 && (t529 == t533)) = true := c17
          (try (have c17b1 : decide (t528 = t532 && (t529 == t533)) = true := by simpa using c17))
          (try (have c17b2 : (t528 == t532 && (t529 == t533)) = true := by simpa using c17))
          clear c17
          by_cases c18 : t530 = t534
          · rw [if_pos c18] at H
            have c18b0 : (t530 == t534) = true := beq_iff_eq.mpr c18
            have c18b1 : (t530 != t534) = false := bne_eq_false_iff_eq.mpr c18
            clear c18
            by_cases c19 : t536 = t538
            · rw [if_pos c19] at H
              have c19b0 : (t536 == t538) = true := beq_iff_eq.mpr c19
              have c19b1 : (t536 != t538) = false := bne_eq_false_iff_eq.mpr c19
              clear c19
              by_cases c20 : t537 = t539
              · rw [if_pos c20] at H
                have c20b0 : (t537 == t539) = true := beq_iff_eq.mpr c20
                have c20b1 : (t537 != t539) = false := bne_eq_false_iff_eq.mpr c20
                clear c20
                replace H := Option.bind_eq_some_iff.mp H
                obtain ⟨t540, A210, H⟩ := H
                replace H : (some t540) = some r := H
                have A21 := Aside0.mk A210
                clear A210
                obtain rfl := Option.some.inj H
                go_enter Try.func12, Try.ntmps12
                go_wp2_with (first | ((with_reducible refine gate_dst (N := 4) rfl ?_); refine box_event ?hg (N := 4) ?hd (cs := #[.int .i64 a1_0, .int .i64 a1_1]) (t := 57) ?hr ?_; (case hd => rfl); (case hg => rfl); (case hr => first | (go_simp; done) | (go_simp; rfl)); intro gb517 hg w22 hbox hb; have n0_ := Aside0.mk (below_step (by repeat (first | (with_reducible first | exact HB.out | apply below_alloc | apply pw_below_drewN | apply below_drew1) | exact HB.out)) hb); have n1_ := Aside0.mk (hbox); have n2_ := Aside0.mk ((by rw [hg]; exact (below_size (by repeat (first | (with_reducible first | exact HB.out | apply below_alloc | apply pw_below_drewN | apply below_drew1) | exact HB.out))) : w.heap.size ≤ gb517)); have n3_ := Aside0.mk ((by rw [hg]; exact (below_size (by repeat (first | (with_reducible first | exact HB.out | apply below_alloc | apply pw_below_drewN | apply below_drew1) | exact HB.out))) : w.heap.size ≤ gb517)); clear HB; have HB := n0_; have BK517 := n1_; have GW517 := n2_; have GE517 := n3_; clear n0_ n1_ n2_ n3_; clear hb hbox hg) | ((with_reducible refine gate_callee (f := 14) rfl ?_); refine goesL_ (some 20) rfl rfl Try.func14 (by kernel_rfl) rfl #[.slice A0 l0.length c0, .slice none 0 0] rfl (by (try simp only [List.map_toArray, List.map_cons, List.map_nil]); first | done | rfl | (simp only [List.length_drop, List.length_take]; rfl)) ?_; (refine (dropperlaw07_Long.calls _ _ l0 _ _ ([] : List (S35)) false _ ?side1 ?side2 ?side3 ?side4 A4.out).mono ?_); (case side1 => repeat (first | exact (Kd.C_below HR0.out HB.out) | (with_reducible refine Kd.C_alloc ?_ _) | (with_reducible refine Kd.C_drewN ?_ _) | (with_reducible refine Kd.C_drew ?_))); (case side2 => exact HC0.out); (case side3 => exact Kd.C_nil _ _); (case side4 => exact Nat.le_refl _); rintro e w' ⟨rfl, ⟨nd, rfl⟩⟩; refine ⟨_, rfl, ?_⟩; (try (rw [drewN_self w22]; generalize hq_ : World.drewN w22 _ = w22; have n0_ : Aside0 (w22.heap[gb517]? = some (.cells #[.int .i64 a1_0, .int .i64 a1_1] 57 (0, 0))) := ⟨by rw [← hq_]; exact (by (with_reducible repeat (first | refine blk_drewN ?_ _ | refine blk_drew ?_ | refine blk_alloc ?_ _)); exact BK517.out)⟩; have n1_ : Aside0 (Below w.heap.size w w22) := ⟨by rw [← hq_]; exact (by repeat (first | (with_reducible first | exact HB.out | apply below_alloc | apply pw_below_drewN | apply below_drew1 | refine below_set ?_ GE517.out) | exact HB.out))⟩; clear BK517 HB hq_; have BK517 := n0_; have HB := n1_; clear n0_ n1_)); have hcz23_0 : w22.cell? ⟨gb517, 0, none⟩ = some (.int .i64 a1_0) := (blk_cell BK517.out 0).trans rfl; have hcz23_1 : w22.cell? ⟨gb517, 1, none⟩ = some (.int .i64 a1_1) := (blk_cell BK517.out 1).trans rfl; have hfz23_0 := blk_frozen BK517.out 0; have hfz23_1 := blk_frozen BK517.out 1) | ((with_reducible refine gate_callee (f := 41) rfl ?_); refine goesL_ (some 28) rfl rfl Try.func41 (by kernel_rfl) rfl #[.slice A0 l0.length c0, .int .i64 a1_0, .int .i64 a1_1] rfl (by (try simp only [List.map_toArray, List.map_cons, List.map_nil]); first | done | rfl | (simp only [List.length_drop, List.length_take]; rfl)) ?_; (with_reducible refine (wear_Mean.calls k _ _ l0 a1_0 a1_1 t520 t521 t522 _ ?side1 ?side2 A9.out).mono ?_); (case side1 => repeat (first | exact (Kd.C_below HR0.out HB.out) | (with_reducible refine Kd.C_alloc ?_ _) | (with_reducible refine Kd.C_drewN ?_ _) | (with_reducible refine Kd.C_drew ?_))); (case side2 => exact HC0.out); rintro e w24 ⟨rfl, hb⟩; refine ⟨_, rfl, ?_⟩; have n0_ := Aside0.mk (blk_below (g := gb517) (o := .cells #[.int .i64 a1_0, .int .i64 a1_1] 57 (0, 0)) (by (with_reducible repeat (first | refine blk_drewN ?_ _ | refine blk_drew ?_ | refine blk_alloc ?_ _)); exact BK517.out) hb); have n1_ := Aside0.mk (below_step (by repeat (first | (with_reducible first | exact HB.out | apply below_alloc | apply pw_below_drewN | apply below_drew1 | refine below_set ?_ GE517.out) | exact HB.out)) hb); clear BK517; clear HB; have BK517 := n0_; have HB := n1_; clear n0_ n1_; (try clear hb); (try clear hb2); (try clear hk); (try clear hi)) | ((with_reducible refine gate_dst (N := 7) rfl ?_); refine box_event ?hg (N := 7) ?hd (cs := #[.int .i64 0, .int .i64 0]) (t := 35) ?hr ?_; (case hd => rfl); (case hg => rfl); (case hr => first | (go_simp; done) | (go_simp; rfl)); intro gb523 hg w25 hbox hb; have n0_ := Aside0.mk (blk_below (g := gb517) (o := .cells #[.int .i64 a1_0, .int .i64 a1_1] 57 (0, 0)) (by (with_reducible repeat (first | refine blk_drewN ?_ _ | refine blk_drew ?_ | refine blk_alloc ?_ _)); exact BK517.out) hb); have n1_ := Aside0.mk (below_step (by repeat (first | (with_reducible first | exact HB.out | apply below_alloc | apply pw_below_drewN | apply below_drew1 | refine below_set ?_ GE517.out) | exact HB.out)) hb); have n2_ := Aside0.mk (hbox); have n3_ := Aside0.mk ((by rw [hg]; exact (below_size (by repeat (first | (with_reducible first | exact HB.out | apply below_alloc | apply pw_below_drewN | apply below_drew1 | refine below_set ?_ GE517.out) | exact HB.out))) : w.heap.size ≤ gb523)); have n4_ := Aside0.mk ((by rw [hg]; exact (below_size (by repeat (first | (with_reducible first | exact HB.out | apply below_alloc | apply pw_below_drewN | apply below_drew1 | refine below_set ?_ GE517.out) | exact HB.out))) : w.heap.size ≤ gb523)); have n5_ := Aside0.mk ((by rw [hg]; exact Nat.ne_of_lt (blk_lt (g := gb517) (o := .cells #[.int .i64 a1_0, .int .i64 a1_1] 57 (0, 0)) (by (with_reducible repeat (first | refine blk_drewN ?_ _ | refine blk_drew ?_ | refine blk_alloc ?_ _)); exact BK517.out)) : gb517 ≠ gb523)); have n6_ := Aside0.mk ((by rw [hg]; exact Nat.ne_of_gt (blk_lt (g := gb517) (o := .cells #[.int .i64 a1_0, .int .i64 a1_1] 57 (0, 0)) (by (with_reducible repeat (first | refine blk_drewN ?_ _ | refine blk_drew ?_ | refine blk_alloc ?_ _)); exact BK517.out)) : gb523 ≠ gb517)); clear BK517; clear HB; have BK517 := n0_; have HB := n1_; have BK523 := n2_; have GW523 := n3_; have GE523 := n4_; have NB517_523 := n5_; have NB523_517 := n6_; clear n0_ n1_ n2_ n3_ n4_ n5_ n6_; clear hb hbox hg; have hnb26 := NB523_517.out; have hnc26 := NB517_523.out; have hcz27_0 : w25.cell? ⟨gb523, 0, none⟩ = some (.int .i64 0) := (blk_cell BK523.out 0).trans rfl; have hcz27_1 : w25.cell? ⟨gb523, 1, none⟩ = some (.int .i64 0) := (blk_cell BK523.out 1).trans rfl; have hfz27_0 := blk_frozen BK523.out 0; have hfz27_1 := blk_frozen BK523.out 1; have hcz28_0 : w25.cell? ⟨gb517, 0, none⟩ = some (.int .i64 a1_0) := (blk_cell BK517.out 0).trans rfl; have hcz28_1 : w25.cell? ⟨gb517, 1, none⟩ = some (.int .i64 a1_1) := (blk_cell BK517.out 1).trans rfl; have hfz28_0 := blk_frozen BK517.out 0; have hfz28_1 := blk_frozen BK517.out 1) | ((with_reducible refine gate_callee (f := 42) rfl ?_); refine goesL_ (some 37) rfl rfl Try.func42 (by kernel_rfl) rfl #[.slice A0 l0.length c0, .int .i64 a1_0, .int .i64 a1_1] rfl (by (try simp only [List.map_toArray, List.map_cons, List.map_nil]); first | done | rfl | (simp only [List.length_drop, List.length_take]; rfl)) ?_; (with_reducible refine (dropperref07_Mean.calls k _ _ l0 a1_0 a1_1 t524 t525 t526 _ ?side1 ?side2 A10.out).mono ?_); (case side1 => exact Kd.C_below HR0.out (by repeat (first | (with_reducible first | exact HB.out | apply below_alloc | apply pw_below_drewN | apply below_drew1 | refine below_set ?_ GE517.out | refine below_set ?_ GE523.out) | exact HB.out))); (case side2 => exact HC0.out); rintro e w29 ⟨rfl, hb⟩; refine ⟨_, rfl, ?_⟩; have n0_ := Aside0.mk (blk_below (g := gb517) (o := .cells #[.int .i64 a1_0, .int .i64 a1_1] 57 (0, 0)) (by (with_reducible repeat (first | refine blk_drewN ?_ _ | refine blk_drew ?_ | refine blk_alloc ?_ _)); refine blk_far ?_ NB517_523.out _; (with_reducible repeat (first | refine blk_drewN ?_ _ | refine blk_drew ?_ | refine blk_alloc ?_ _)); refine blk_far ?_ NB517_523.out _; (with_reducible repeat (first | refine blk_drewN ?_ _ | refine blk_drew ?_ | refine blk_alloc ?_ _)); exact BK517.out) hb); have n1_ := Aside0.mk (blk_below (g := gb523) (o := .cells #[.int .i64 t520, .int .i64 t521] 35 (0, 0)) (by (with_reducible repeat (first | refine blk_drewN ?_ _ | refine blk_drew ?_ | refine blk_alloc ?_ _)); refine blk_put (cs := #[.int .i64 t520, .int .i64 0]) ?_ 1 _ rfl; (with_reducible repeat (first | refine blk_drewN ?_ _ | refine blk_drew ?_ | refine blk_alloc ?_ _)); refine blk_put (cs := #[.int .i64 0, .int .i64 0]) ?_ 0 _ rfl; (with_reducible repeat (first | refine blk_drewN ?_ _ | refine blk_drew ?_ | refine blk_alloc ?_ _)); exact BK523.out) hb); have n2_ := Aside0.mk (below_step (by repeat (first | (with_reducible first | exact HB.out | apply below_alloc | apply pw_below_drewN | apply below_drew1 | refine below_set ?_ GE517.out | refine below_set ?_ GE523.out) | exact HB.out)) hb); clear BK517; clear BK523; clear HB; have BK517 := n0_; have BK523 := n1_; have HB := n2_; clear n0_ n1_ n2_; (try clear hb); (try clear hb2); (try clear hk); (try clear hi)) | ((with_reducible refine gate_dst (N := 9) rfl ?_); refine box_event ?hg (N := 9) ?hd (cs := #[.int .i64 0, .int .i64 0]) (t := 35) ?hr ?_; (case hd => rfl); (case hg => rfl); (case hr => first | (go_simp; done) | (go_simp; rfl)); intro gb527 hg w30 hbox hb; have n0_ := Aside0.mk (blk_below (g := gb517) (o := .cells #[.int .i64 a1_0, .int .i64 a1_1] 57 (0, 0)) (by (with_reducible repeat (first | refine blk_drewN ?_ _ | refine blk_drew ?_ | refine blk_alloc ?_ _)); exact BK517.out) hb); have n1_ := Aside0.mk (blk_below (g := gb523) (o := .cells #[.int .i64 t520, .int .i64 t521] 35 (0, 0)) (by (with_reducible repeat (first | refine blk_drewN ?_ _ | refine blk_drew ?_ | refine blk_alloc ?_ _)); exact BK523.out) hb); have n2_ := Aside0.mk (below_step (by repeat (first | (with_reducible first | exact HB.out | apply below_alloc | apply pw_below_drewN | apply below_drew1 | refine below_set ?_ GE517.out | refine below_set ?_ GE523.out) | exact HB.out)) hb); have n3_ := Aside0.mk (hbox); have n4_ := Aside0.mk ((by rw [hg]; exact (below_size (by repeat (first | (with_reducible first | exact HB.out | apply below_alloc | apply pw_below_drewN | apply below_drew1 | refine below_set ?_ GE517.out | refine below_set ?_ GE523.out) | exact HB.out))) : w.heap.size ≤ gb527)); have n5_ := Aside0.mk ((by rw [hg]; exact (below_size (by repeat (first | (with_reducible first | exact HB.out | apply below_alloc | apply pw_below_drewN | apply below_drew1 | refine below_set ?_ GE517.out | refine below_set ?_ GE523.out) | exact HB.out))) : w.heap.size ≤ gb527)); have n6_ := Aside0.mk ((by rw [hg]; exact Nat.ne_of_lt (blk_lt (g := gb517) (o := .cells #[.int .i64 a1_0, .int .i64 a1_1] 57 (0, 0)) (by (with_reducible repeat (first | refine blk_drewN ?_ _ | refine blk_drew ?_ | refine blk_alloc ?_ _)); exact BK517.out)) : gb517 ≠ gb527)); have n7_ := Aside0.mk ((by rw [hg]; exact Nat.ne_of_gt (blk_lt (g := gb517) (o := .cells #[.int .i64 a1_0, .int .i64 a1_1] 57 (0, 0)) (by (with_reducible repeat (first | refine blk_drewN ?_ _ | refine blk_drew ?_ | refine blk_alloc ?_ _)); exact BK517.out)) : gb527 ≠ gb517)); have n8_ := Aside0.mk ((by rw [hg]; exact Nat.ne_of_lt (blk_lt (g := gb523) (o := .cells #[.int .i64 t520, .int .i64 t521] 35 (0, 0)) (by (with_reducible repeat (first | refine blk_drewN ?_ _ | refine blk_drew ?_ | refine blk_alloc ?_ _)); exact BK523.out)) : gb523 ≠ gb527)); have n9_ := Aside0.mk ((by rw [hg]; exact Nat.ne_of_gt (blk_lt (g := gb523) (o := .cells #[.int .i64 t520, .int .i64 t521] 35 (0, 0)) (by (with_reducible repeat (first | refine blk_drewN ?_ _ | refine blk_drew ?_ | refine blk_alloc ?_ _)); exact BK523.out)) : gb527 ≠ gb523)); clear BK517; clear BK523; clear HB; have BK517 := n0_; have BK523 := n1_; have HB := n2_; have BK527 := n3_; have GW527 := n4_; have GE527 := n5_; have NB517_527 := n6_; have NB527_517 := n7_; have NB523_527 := n8_; have NB527_523 := n9_; clear n0_ n1_ n2_ n3_ n4_ n5_ n6_ n7_ n8_ n9_; clear hb hbox hg; have hnb31 := NB527_517.out; have hnc31 := NB517_527.out; have hnb32 := NB527_523.out; have hnc32 := NB523_527.out; have hcz33_0 : w30.cell? ⟨gb527, 0, none⟩ = some (.int .i64 0) := (blk_cell BK527.out 0).trans rfl; have hcz33_1 : w30.cell? ⟨gb527, 1, none⟩ = some (.int .i64 0) := (blk_cell BK527.out 1).trans rfl; have hfz33_0 := blk_frozen BK527.out 0; have hfz33_1 := blk_frozen BK527.out 1) | ((with_reducible refine gate_callee (f := 43) rfl ?_); refine goesL_ (some 43) rfl rfl Try.func43 (by kernel_rfl) rfl #[.slice A0 l0.length c0, .int .i64 a2] rfl (by (try simp only [List.map_toArray, List.map_cons, List.map_nil]); first | done | rfl | (simp only [List.length_drop, List.length_take]; rfl)) ?_; (with_reducible refine (wear_Between.calls k _ _ l0 a2 t528 t529 t530 _ ?side1 ?side2 A11.out).mono ?_); (case side1 => exact Kd.C_below HR0.out (by repeat (first | (with_reducible first | exact HB.out | apply below_alloc | apply pw_below_drewN | apply below_drew1 | refine below_set ?_ GE517.out | refine below_set ?_ GE523.out | refine below_set ?_ GE527.out) | exact HB.out))); (case side2 => exact HC0.out); rintro e w34 ⟨rfl, hb⟩; refine ⟨_, rfl, ?_⟩; have n0_ := Aside0.mk (blk_below (g := gb517) (o := .cells #[.int .i64 a1_0, .int .i64 a1_1] 57 (0, 0)) (by (with_reducible repeat (first | refine blk_drewN ?_ _ | refine blk_drew ?_ | refine blk_alloc ?_ _)); refine blk_far ?_ NB517_527.out _; (with_reducible repeat (first | refine blk_drewN ?_ _ | refine blk_drew ?_ | refine blk_alloc ?_ _)); refine blk_far ?_ NB517_527.out _; (with_reducible repeat (first | refine blk_drewN ?_ _ | refine blk_drew ?_ | refine blk_alloc ?_ _)); exact BK517.out) hb); have n1_ := Aside0.mk (blk_below (g := gb523) (o := .cells #[.int .i64 t520, .int .i64 t521] 35 (0, 0)) (by (with_reducible repeat (first | refine blk_drewN ?_ _ | refine blk_drew ?_ | refine blk_alloc ?_ _)); refine blk_far ?_ NB523_527.out _; (with_reducible repeat (first | refine blk_drewN ?_ _ | refine blk_drew ?_ | refine blk_alloc ?_ _)); refine blk_far ?_ NB523_527.out _; (with_reducible repeat (first | refine blk_drewN ?_ _ | refine blk_drew ?_ | refine blk_alloc ?_ _)); exact BK523.out) hb); have n2_ := Aside0.mk (blk_below (g := gb527) (o := .cells #[.int .i64 t524, .int .i64 t525] 35 (0, 0)) (by (with_reducible repeat (first | refine blk_drewN ?_ _ | refine blk_drew ?_ | refine blk_alloc ?_ _)); refine blk_put (cs := #[.int .i64 t524, .int .i64 0]) ?_ 1 _ rfl; (with_reducible repeat (first | refine blk_drewN ?_ _ | refine blk_drew ?_ | refine blk_alloc ?_ _)); refine blk_put (cs := #[.int .i64 0, .int .i64 0]) ?_ 0 _ rfl; (with_reducible repeat (first | refine blk_drewN ?_ _ | refine blk_drew ?_ | refine blk_alloc ?_ _)); exact BK527.out) hb); have n3_ := Aside0.mk (below_step (by repeat (first | (with_reducible first | exact HB.out | apply below_alloc | apply pw_below_drewN | apply below_drew1 | refine below_set ?_ GE517.out | refine below_set ?_ GE523.out | refine below_set ?_ GE527.out) | exact HB.out)) hb); clear BK517; clear BK523; clear BK527; clear HB; have BK517 := n0_; have BK523 := n1_; have BK527 := n2_; have HB := n3_; clear n0_ n1_ n2_ n3_; (try clear hb); (try clear hb2); (try clear hk); (try clear hi)) | ((with_reducible refine gate_dst (N := 11) rfl ?_); refine box_event ?hg (N := 11) ?hd (cs := #[.int .i64 0, .int .i64 0]) (t := 35) ?hr ?_; (case hd => rfl); (case hg => rfl); (case hr => first | (go_simp; done) | (go_simp; rfl)); intro gb531 hg w35 hbox hb; have n0_ := Aside0.mk (blk_below (g := gb517) (o := .cells #[.int .i64 a1_0, .int .i64 a1_1] 57 (0, 0)) (by (with_reducible repeat (first | refine blk_drewN ?_ _ | refine blk_drew ?_ | refine blk_alloc ?_ _)); exact BK517.out) hb); have n1_ := Aside0.mk (blk_below (g := gb523) (o := .cells #[.int .i64 t520, .int .i64 t521] 35 (0, 0)) (by (with_reducible repeat (first | refine blk_drewN ?_ _ | refine blk_drew ?_ | refine blk_alloc ?_ _)); exact BK523.out) hb); have n2_ := Aside0.mk (blk_below (g := gb527) (o := .cells #[.int .i64 t524, .int .i64 t525] 35 (0, 0)) (by (with_reducible repeat (first | refine blk_drewN ?_ _ | refine blk_drew ?_ | refine blk_alloc ?_ _)); exact BK527.out) hb); have n3_ := Aside0.mk (below_step (by repeat (first | (with_reducible first | exact HB.out | apply below_alloc | apply pw_below_drewN | apply below_drew1 | refine below_set ?_ GE517.out | refine below_set ?_ GE523.out | refine below_set ?_ GE527.out) | exact HB.out)) hb); have n4_ := Aside0.mk (hbox); have n5_ := Aside0.mk ((by rw [hg]; exact (below_size (by repeat (first | (with_reducible first | exact HB.out | apply below_alloc | apply pw_below_drewN | apply below_drew1 | refine below_set ?_ GE517.out | refine below_set ?_ GE523.out | refine below_set ?_ GE527.out) | exact HB.out))) : w.heap.size ≤ gb531)); have n6_ := Aside0.mk ((by rw [hg]; exact (below_size (by repeat (first | (with_reducible first | exact HB.out | apply below_alloc | apply pw_below_drewN | apply below_drew1 | refine below_set ?_ GE517.out | refine below_set ?_ GE523.out | refine below_set ?_ GE527.out) | exact HB.out))) : w.heap.size ≤ gb531)); have n7_ := Aside0.mk ((by rw [hg]; exact Nat.ne_of_lt (blk_lt (g := gb517) (o := .cells #[.int .i64 a1_0, .int .i64 a1_1] 57 (0, 0)) (by (with_reducible repeat (first | refine blk_drewN ?_ _ | refine blk_drew ?_ | refine blk_alloc ?_ _)); exact BK517.out)) : gb517 ≠ gb531)); have n8_ := Aside0.mk ((by rw [hg]; exact Nat.ne_of_gt (blk_lt (g := gb517) (o := .cells #[.int .i64 a1_0, .int .i64 a1_1] 57 (0, 0)) (by (with_reducible repeat (first | refine blk_drewN ?_ _ | refine blk_drew ?_ | refine blk_alloc ?_ _)); exact BK517.out)) : gb531 ≠ gb517)); have n9_ := Aside0.mk ((by rw [hg]; exact Nat.ne_of_lt (blk_lt (g := gb523) (o := .cells #[.int .i64 t520, .int .i64 t521] 35 (0, 0)) (by (with_reducible repeat (first | refine blk_drewN ?_ _ | refine blk_drew ?_ | refine blk_alloc ?_ _)); exact BK523.out)) : gb523 ≠ gb531)); have n10_ := Aside0.mk ((by rw [hg]; exact Nat.ne_of_gt (blk_lt (g := gb523) (o := .cells #[.int .i64 t520, .int .i64 t521] 35 (0, 0)) (by (with_reducible repeat (first | refine blk_drewN ?_ _ | refine blk_drew ?_ | refine blk_alloc ?_ _)); exact BK523.out)) : gb531 ≠ gb523)); have n11_ := Aside0.mk ((by rw [hg]; exact Nat.ne_of_lt (blk_lt (g := gb527) (o := .cells #[.int .i64 t524, .int .i64 t525] 35 (0, 0)) (by (with_reducible repeat (first | refine blk_drewN ?_ _ | refine blk_drew ?_ | refine blk_alloc ?_ _)); exact BK527.out)) : gb527 ≠ gb531)); have n12_ := Aside0.mk ((by rw [hg]; exact Nat.ne_of_gt (blk_lt (g := gb527) (o := .cells #[.int .i64 t524, .int .i64 t525] 35 (0, 0)) (by (with_reducible repeat (first | refine blk_drewN ?_ _ | refine blk_drew ?_ | refine blk_alloc ?_ _)); exact BK527.out)) : gb531 ≠ gb527)); clear BK517; clear BK523; clear BK527; clear HB; have BK517 := n0_; have BK523 := n1_; have BK527 := n2_; have HB := n3_; have BK531 := n4_; have GW531 := n5_; have GE531 := n6_; have NB517_531 := n7_; have NB531_517 := n8_; have NB523_531 := n9_; have NB531_523 := n10_; have NB527_531 := n11_; have NB531_527 := n12_; clear n0_ n1_ n2_ n3_ n4_ n5_ n6_ n7_ n8_ n9_ n10_ n11_ n12_; clear hb hbox hg; have hnb36 := NB531_517.out; have hnc36 := NB517_531.out; have hnb37 := NB531_523.out; have hnc37 := NB523_531.out; have hnb38 := NB531_527.out; have hnc38 := NB527_531.out; have hcz39_0 : w35.cell? ⟨gb531, 0, none⟩ = some (.int .i64 0) := (blk_cell BK531.out 0).trans rfl; have hcz39_1 : w35.cell? ⟨gb531, 1, none⟩ = some (.int .i64 0) := (blk_cell BK531.out 1).trans rfl; have hfz39_0 := blk_frozen BK531.out 0; have hfz39_1 := blk_frozen BK531.out 1) | ((with_reducible refine gate_callee (f := 44) rfl ?_); refine goesL_ (some 49) rfl rfl Try.func44 (by kernel_rfl) rfl #[.slice A0 l0.length c0, .int .i64 a2] rfl (by (try simp only [List.map_toArray, List.map_cons, List.map_nil]); first | done | rfl | (simp only [List.length_drop, List.length_take]; rfl)) ?_; (with_reducible refine (dropperref07_Between.calls k _ _ l0 a2 t532 t533 t534 _ ?side1 ?side2 A12.out).mono ?_); (case side1 => exact Kd.C_below HR0.out (by repeat (first | (with_reducible first | exact HB.out | apply below_alloc | apply pw_below_drewN | apply below_drew1 | refine below_set ?_ GE517.out | refine below_set ?_ GE523.out | refine below_set ?_ GE527.out | refine below_set ?_ GE531.out) | exact HB.out))); (case side2 => exact HC0.out); rintro e w40 ⟨rfl, hb⟩; refine ⟨_, rfl, ?_⟩; have n0_ := Aside0.mk (blk_below (g := gb517) (o := .cells #[.int .i64 a1_0, .int .i64 a1_1] 57 (0, 0)) (by (with_reducible repeat (first | refine blk_drewN ?_ _ | refine blk_drew ?_ | refine blk_alloc ?_ _)); refine blk_far ?_ NB517_531.out _; (with_reducible repeat (first | refine blk_drewN ?_ _ | refine blk_drew ?_ | refine blk_alloc ?_ _)); refine blk_far ?_ NB517_531.out _; (with_reducible repeat (first | refine blk_drewN ?_ _ | refine blk_drew ?_ | refine blk_alloc ?_ _)); exact BK517.out) hb); have n1_ := Aside0.mk (blk_below (g := gb523) (o := .cells #[.int .i64 t520, .int .i64 t521] 35 (0, 0)) (by (with_reducible repeat (first | refine blk_drewN ?_ _ | refine blk_drew ?_ | refine blk_alloc ?_ _)); refine blk_far ?_ NB523_531.out _; (with_reducible repeat (first | refine blk_drewN ?_ _ | refine blk_drew ?_ | refine blk_alloc ?_ _)); refine blk_far ?_ NB523_531.out _; (with_reducible repeat (first | refine blk_drewN ?_ _ | refine blk_drew ?_ | refine blk_alloc ?_ _)); exact BK523.out) hb); have n2_ := Aside0.mk (blk_below (g := gb527) (o := .cells #[.int .i64 t524, .int .i64 t525] 35 (0, 0)) (by (with_reducible repeat (first | refine blk_drewN ?_ _ | refine blk_drew ?_ | refine blk_alloc ?_ _)); refine blk_far ?_ NB527_531.out _; (with_reducible repeat (first | refine blk_drewN ?_ _ | refine blk_drew ?_ | refine blk_alloc ?_ _)); refine blk_far ?_ NB527_531.out _; (with_reducible repeat (first | refine blk_drewN ?_ _ | refine blk_drew ?_ | refine blk_alloc ?_ _)); exact BK527.out) hb); have n3_ := Aside0.mk (blk_below (g := gb531) (o := .cells #[.int .i64 t528, .int .i64 t529] 35 (0, 0)) (by (with_reducible repeat (first | refine blk_drewN ?_ _ | refine blk_drew ?_ | refine blk_alloc ?_ _)); refine blk_put (cs := #[.int .i64 t528, .int .i64 0]) ?_ 1 _ rfl; (with_reducible repeat (first | refine blk_drewN ?_ _ | refine blk_drew ?_ | refine blk_alloc ?_ _)); refine blk_put (cs := #[.int .i64 0, .int .i64 0]) ?_ 0 _ rfl; (with_reducible repeat (first | refine blk_drewN ?_ _ | refine blk_drew ?_ | refine blk_alloc ?_ _)); exact BK531.out) hb); have n4_ := Aside0.mk (below_step (by repeat (first | (with_reducible first | exact HB.out | apply below_alloc | apply pw_below_drewN | apply below_drew1 | refine below_set ?_ GE517.out | refine below_set ?_ GE523.out | refine below_set ?_ GE527.out | refine below_set ?_ GE531.out) | exact HB.out)) hb); clear BK517; clear BK523; clear BK527; clear BK531; clear HB; have BK517 := n0_; have BK523 := n1_; have BK527 := n2_; have BK531 := n3_; have HB := n4_; clear n0_ n1_ n2_ n3_ n4_; (try clear hb); (try clear hb2); (try clear hk); (try clear hi)) | ((with_reducible refine gate_dst (N := 13) rfl ?_); refine box_event ?hg (N := 13) ?hd (cs := #[.int .i64 0, .int .i64 0]) (t := 35) ?hr ?_; (case hd => rfl); (case hg => rfl); (case hr => first | (go_simp; done) | (go_simp; rfl)); intro gb535 hg w41 hbox hb; have n0_ := Aside0.mk (blk_below (g := gb517) (o := .cells #[.int .i64 a1_0, .int .i64 a1_1] 57 (0, 0)) (by (with_reducible repeat (first | refine blk_drewN ?_ _ | refine blk_drew ?_ | refine blk_alloc ?_ _)); exact BK517.out) hb); have n1_ := Aside0.mk (blk_below (g := gb523) (o := .cells #[.int .i64 t520, .int .i64 t521] 35 (0, 0)) (by (with_reducible repeat (first | refine blk_drewN ?_ _ | refine blk_drew ?_ | refine blk_alloc ?_ _)); exact BK523.out) hb); have n2_ := Aside0.mk (blk_below (g := gb527) (o := .cells #[.int .i64 t524, .int .i64 t525] 35 (0, 0)) (by (with_reducible repeat (first | refine blk_drewN ?_ _ | refine blk_drew ?_ | refine blk_alloc ?_ _)); exact BK527.out) hb); have n3_ := Aside0.mk (blk_below (g := gb531) (o := .cells #[.int .i64 t528, .int .i64 t529] 35 (0, 0)) (by (with_reducible repeat (first | refine blk_drewN ?_ _ | refine blk_drew ?_ | refine blk_alloc ?_ _)); exact BK531.out) hb); have n4_ := Aside0.mk (below_step (by repeat (first | (with_reducible first | exact HB.out | apply below_alloc | apply pw_below_drewN | apply below_drew1 | refine below_set ?_ GE517.out | refine below_set ?_ GE523.out | refine below_set ?_ GE527.out | refine below_set ?_ GE531.out) | exact HB.out)) hb); have n5_ := Aside0.mk (hbox); have n6_ := Aside0.mk ((by rw [hg]; exact (below_size (by repeat (first | (with_reducible first | exact HB.out | apply below_alloc | apply pw_below_drewN | apply below_drew1 | refine below_set ?_ GE517.out | refine below_set ?_ GE523.out | refine below_set ?_ GE527.out | refine below_set ?_ GE531.out) | exact HB.out))) : w.heap.size ≤ gb535)); have n7_ := Aside0.mk ((by rw [hg]; exact (below_size (by repeat (first | (with_reducible first | exact HB.out | apply below_alloc | apply pw_below_drewN | apply below_drew1 | refine below_set ?_ GE517.out | refine below_set ?_ GE523.out | refine below_set ?_ GE527.out | refine below_set ?_ GE531.out) | exact HB.out))) : w.heap.size ≤ gb535)); have n8_ := Aside0.mk ((by rw [hg]; exact Nat.ne_of_lt (blk_lt (g := gb517) (o := .cells #[.int .i64 a1_0, .int .i64 a1_1] 57 (0, 0)) (by (with_reducible repeat (first | refine blk_drewN ?_ _ | refine blk_drew ?_ | refine blk_alloc ?_ _)); exact BK517.out)) : gb517 ≠ gb535)); have n9_ := Aside0.mk ((by rw [hg]; exact Nat.ne_of_gt (blk_lt (g := gb517) (o := .cells #[.int .i64 a1_0, .int .i64 a1_1] 57 (0, 0)) (by (with_reducible repeat (first | refine blk_drewN ?_ _ | refine blk_drew ?_ | refine blk_alloc ?_ _)); exact BK517.out)) : gb535 ≠ gb517)); have n10_ := Aside0.mk ((by rw [hg]; exact Nat.ne_of_lt (blk_lt (g := gb523) (o := .cells #[.int .i64 t520, .int .i64 t521] 35 (0, 0)) (by (with_reducible repeat (first | refine blk_drewN ?_ _ | refine blk_drew ?_ | refine blk_alloc ?_ _)); exact BK523.out)) : gb523 ≠ gb535)); have n11_ := Aside0.mk ((by rw [hg]; exact Nat.ne_of_gt (blk_lt (g := gb523) (o := .cells #[.int .i64 t520, .int .i64 t521] 35 (0, 0)) (by (with_reducible repeat (first | refine blk_drewN ?_ _ | refine blk_drew ?_ | refine blk_alloc ?_ _)); exact BK523.out)) : gb535 ≠ gb523)); have n12_ := Aside0.mk ((by rw [hg]; exact Nat.ne_of_lt (blk_lt (g := gb527) (o := .cells #[.int .i64 t524, .int .i64 t525] 35 (0, 0)) (by (with_reducible repeat (first | refine blk_drewN ?_ _ | refine blk_drew ?_ | refine blk_alloc ?_ _)); exact BK527.out)) : gb527 ≠ gb535)); have n13_ := Aside0.mk ((by rw [hg]; exact Nat.ne_of_gt (blk_lt (g := gb527) (o := .cells #[.int .i64 t524, .int .i64 t525] 35 (0, 0)) (by (with_reducible repeat (first | refine blk_drewN ?_ _ | refine blk_drew ?_ | refine blk_alloc ?_ _)); exact BK527.out)) : gb535 ≠ gb527)); have n14_ := Aside0.mk ((by rw [hg]; exact Nat.ne_of_lt (blk_lt (g := gb531) (o := .cells #[.int .i64 t528, .int .i64 t529] 35 (0, 0)) (by (with_reducible repeat (first | refine blk_drewN ?_ _ | refine blk_drew ?_ | refine blk_alloc ?_ _)); exact BK531.out)) : gb531 ≠ gb535)); have n15_ := Aside0.mk ((by rw [hg]; exact Nat.ne_of_gt (blk_lt (g := gb531) (o := .cells #[.int .i64 t528, .int .i64 t529] 35 (0, 0)) (by (with_reducible repeat (first | refine blk_drewN ?_ _ | refine blk_drew ?_ | refine blk_alloc ?_ _)); exact BK531.out)) : gb535 ≠ gb531)); clear BK517; clear BK523; clear BK527; clear BK531; clear HB; have BK517 := n0_; have BK523 := n1_; have BK527 := n2_; have BK531 := n3_; have HB := n4_; have BK535 := n5_; have GW535 := n6_; have GE535 := n7_; have NB517_535 := n8_; have NB535_517 := n9_; have NB523_535 := n10_; have NB535_523 := n11_; have NB527_535 := n12_; have NB535_527 := n13_; have NB531_535 := n14_; have NB535_531 := n15_; clear n0_ n1_ n2_ n3_ n4_ n5_ n6_ n7_ n8_ n9_ n10_ n11_ n12_ n13_ n14_ n15_; clear hb hbox hg; have hnb42 := NB535_517.out; have hnc42 := NB517_535.out; have hnb43 := NB535_523.out; have hnc43 := NB523_535.out; have hnb44 := NB535_527.out; have hnc44 := NB527_535.out; have hnb45 := NB535_531.out; have hnc45 := NB531_535.out; have hcz46_0 : w41.cell? ⟨gb535, 0, none⟩ = some (.int .i64 0) := (blk_cell BK535.out 0).trans rfl; have hcz46_1 : w41.cell? ⟨gb535, 1, none⟩ = some (.int .i64 0) := (blk_cell BK535.out 1).trans rfl; have hfz46_0 := blk_frozen BK535.out 0; have hfz46_1 := blk_frozen BK535.out 1) | ((with_reducible refine gate_callee (f := 45) rfl ?_); refine goesL_ (some 54) rfl rfl Try.func45 (by kernel_rfl) rfl #[.slice A0 l0.length c0] rfl (by (try simp only [List.map_toArray, List.map_cons, List.map_nil]); first | done | rfl | (simp only [List.length_drop, List.length_take]; rfl)) ?_; (with_reducible refine (wear_Falls.calls k _ _ l0 t536 t537 _ ?side1 ?side2 A13.out).mono ?_); (case side1 => exact Kd.C_below HR0.out (by repeat (first | (with_reducible first | exact HB.out | apply below_alloc | apply pw_below_drewN | apply below_drew1 | refine below_set ?_ GE517.out | refine below_set ?_ GE523.out | refine below_set ?_ GE527.out | refine below_set ?_ GE531.out | refine below_set ?_ GE535.out) | exact HB.out))); (case side2 => exact HC0.out); rintro e w' ⟨rfl, ⟨nd, rfl⟩⟩; refine ⟨_, rfl, ?_⟩) | ((with_reducible refine gate_callee (f := 46) rfl ?_); refine goesL_ (some 59) rfl rfl Try.func46 (by kernel_rfl) rfl #[.slice A0 l0.length c0] rfl (by (try simp only [List.map_toArray, List.map_cons, List.map_nil]); first | done | rfl | (simp only [List.length_drop, List.length_take]; rfl)) ?_; (with_reducible refine (dropperref07_Falls.calls k _ _ l0 t538 t539 _ ?side1 ?side2 A14.out).mono ?_); (case side1 => exact Kd.C_below HR0.out (by repeat (first | (with_reducible first | exact HB.out | apply below_alloc | apply pw_below_drewN | apply below_drew1 | refine below_set ?_ GE517.out | refine below_set ?_ GE523.out | refine below_set ?_ GE527.out | refine below_set ?_ GE531.out | refine below_set ?_ GE535.out) | exact HB.out))); (case side2 => exact HC0.out); rintro e w' ⟨rfl, ⟨nd, rfl⟩⟩; refine ⟨_, rfl, ?_⟩; have hcz47_0 : w41.cell? ⟨gb523, 0, none⟩ = some (.int .i64 t520) := (blk_cell BK523.out 0).trans rfl; have hcz47_1 : w41.cell? ⟨gb523, 1, none⟩ = some (.int .i64 t521) := (blk_cell BK523.out 1).trans rfl; have hfz47_0 := blk_frozen BK523.out 0; have hfz47_1 := blk_frozen BK523.out 1; have hcz48_0 : w41.cell? ⟨gb527, 0, none⟩ = some (.int .i64 t524) := (blk_cell BK527.out 0).trans rfl; have hcz48_1 : w41.cell? ⟨gb527, 1, none⟩ = some (.int .i64 t525) := (blk_cell BK527.out 1).trans rfl; have hfz48_0 := blk_frozen BK527.out 0; have hfz48_1 := blk_frozen BK527.out 1; have hcz49_0 : w41.cell? ⟨gb531, 0, none⟩ = some (.int .i64 t528) := (blk_cell BK531.out 0).trans rfl; have hcz49_1 : w41.cell? ⟨gb531, 1, none⟩ = some (.int .i64 t529) := (blk_cell BK531.out 1).trans rfl; have hfz49_0 := blk_frozen BK531.out 0; have hfz49_1 := blk_frozen BK531.out 1) | (go_at_call 15; (with_reducible refine (dropperlaw07_First.calls k  t540 _ A21.out).mono ?_); rintro e w50 ⟨rfl, hb⟩; have n0_ := Aside0.mk (blk_below (g := gb517) (o := .cells #[.int .i64 a1_0, .int .i64 a1_1] 57 (0, 0)) (by (with_reducible repeat (first | refine blk_drewN ?_ _ | refine blk_drew ?_ | refine blk_alloc ?_ _)); refine blk_far ?_ NB517_535.out _; (with_reducible repeat (first | refine blk_drewN ?_ _ | refine blk_drew ?_ | refine blk_alloc ?_ _)); refine blk_far ?_ NB517_535.out _; (with_reducible repeat (first | refine blk_drewN ?_ _ | refine blk_drew ?_ | refine blk_alloc ?_ _)); exact BK517.out) hb); have n1_ := Aside0.mk (blk_below (g := gb523) (o := .cells #[.int .i64 t520, .int .i64 t521] 35 (0, 0)) (by (with_reducible repeat (first | refine blk_drewN ?_ _ | refine blk_drew ?_ | refine blk_alloc ?_ _)); refine blk_far ?_ NB523_535.out _; (with_reducible repeat (first | refine blk_drewN ?_ _ | refine blk_drew ?_ | refine blk_alloc ?_ _)); refine blk_far ?_ NB523_535.out _; (with_reducible repeat (first | refine blk_drewN ?_ _ | refine blk_drew ?_ | refine blk_alloc ?_ _)); exact BK523.out) hb); have n2_ := Aside0.mk (blk_below (g := gb527) (o := .cells #[.int .i64 t524, .int .i64 t525] 35 (0, 0)) (by (with_reducible repeat (first | refine blk_drewN ?_ _ | refine blk_drew ?_ | refine blk_alloc ?_ _)); refine blk_far ?_ NB527_535.out _; (with_reducible repeat (first | refine blk_drewN ?_ _ | refine blk_drew ?_ | refine blk_alloc ?_ _)); refine blk_far ?_ NB527_535.out _; (with_reducible repeat (first | refine blk_drewN ?_ _ | refine blk_drew ?_ | refine blk_alloc ?_ _)); exact BK527.out) hb); have n3_ := Aside0.mk (blk_below (g := gb531) (o := .cells #[.int .i64 t528, .int .i64 t529] 35 (0, 0)) (by (with_reducible repeat (first | refine blk_drewN ?_ _ | refine blk_drew ?_ | refine blk_alloc ?_ _)); refine blk_far ?_ NB531_535.out _; (with_reducible repeat (first | refine blk_drewN ?_ _ | refine blk_drew ?_ | refine blk_alloc ?_ _)); refine blk_far ?_ NB531_535.out _; (with_reducible repeat (first | refine blk_drewN ?_ _ | refine blk_drew ?_ | refine blk_alloc ?_ _)); exact BK531.out) hb); have n4_ := Aside0.mk (blk_below (g := gb535) (o := .cells #[.int .i64 t532, .int .i64 t533] 35 (0, 0)) (by (with_reducible repeat (first | refine blk_drewN ?_ _ | refine blk_drew ?_ | refine blk_alloc ?_ _)); refine blk_put (cs := #[.int .i64 t532, .int .i64 0]) ?_ 1 _ rfl; (with_reducible repeat (first | refine blk_drewN ?_ _ | refine blk_drew ?_ | refine blk_alloc ?_ _)); refine blk_put (cs := #[.int .i64 0, .int .i64 0]) ?_ 0 _ rfl; (with_reducible repeat (first | refine blk_drewN ?_ _ | refine blk_drew ?_ | refine blk_alloc ?_ _)); exact BK535.out) hb); have n5_ := Aside0.mk (below_step (by repeat (first | (with_reducible first | exact HB.out | apply below_alloc | apply pw_below_drewN | apply below_drew1 | refine below_set ?_ GE517.out | refine below_set ?_ GE523.out | refine below_set ?_ GE527.out | refine below_set ?_ GE531.out | refine below_set ?_ GE535.out) | exact HB.out)) hb); clear BK517; clear BK523; clear BK527; clear BK531; clear BK535; clear HB; have BK517 := n0_; have BK523 := n1_; have BK527 := n2_; have BK531 := n3_; have BK535 := n4_; have HB := n5_; clear n0_ n1_ n2_ n3_ n4_ n5_; (try clear hb); (try clear hb2); (try clear hk); (try clear hi)))
                go_ret
                exact ⟨by first | rfl | (simp [errW_none, errW_some] <;> rfl) | (simp [*, errW_none, errW_some] <;> rfl), by repeat (first | (with_reducible first | exact HB.out | apply below_alloc | apply pw_below_drewN | apply below_drew1 | refine below_set ?_ GE517.out | refine below_set ?_ GE523.out | refine below_set ?_ GE527.out | refine below_set ?_ GE531.out | refine below_set ?_ GE535.out) | exact HB.out)⟩
              · rw [if_neg c20] at H
                exact absurd H (by simp)
            · rw [if_neg c19] at H
              exact absurd H (by simp)
          · rw [if_neg c18] at H
            exact absurd H (by simp)
        · rw [if_neg c17] at H
          exact absurd H (by simp)
      · rw [if_neg c16] at H
        exact absurd H (by simp)
    · rw [if_neg c15] at H
      exact absurd H (by simp)

end Go.Proofs.Ytpdcpekjafcohaa.XWear

-- Written by wip/xprint.py of this repo, over the kit's print.py: out of the translation; the oracles in it are by hand. Not trusted: Lean checks it.
namespace Go.Proofs.Ytpdcpekjafcohaa.XWear
open Go.RowKit Go.Proofs.Ytpdcpekjafcohaa.XWear Go.Proofs.YtpdcpekjafcohaaW.PrintWords Go.Proofs.YtpdcpekjafcohaaW.PrintLast Go.Proofs.YtpdcpekjafcohaaW.PrintMore
/-- THE ONE PURE STATEMENT of dropperlaw07_WearMeans. -/
def dropperlaw07_WearMeans.Pure : Prop := ∀ (l0 : List Int) (a1_0 : Int) (a1_1 : Int) (a2 : Int), (l0.length ≤ 9223372036854775807 ∧ ∀ y0 ∈ l0, (Lit.int .i64 y0).wf = true) → ((Lit.int .i64 a1_0).wf = true) → ((Lit.int .i64 a1_1).wf = true) → ((Lit.int .i64 a2).wf = true) → ∃ k, dropperlaw07_WearMeans.f k l0 a1_0 a1_1 a2 = some true
end Go.Proofs.Ytpdcpekjafcohaa.XWear

-- Written by wip/xprint.py of this repo, over the kit's print.py: out of the translation; the oracles in it are by hand. Not trusted: Lean checks it.
namespace Go.Proofs.Ytpdcpekjafcohaa.XWear
open Go.RowKit Go.Proofs.YtpdcpekjafcohaaW.PrintWords Go.Proofs.YtpdcpekjafcohaaW.PrintLast Go.Proofs.YtpdcpekjafcohaaW.PrintMore
attribute [local go_sem] max2_int min2_int max_two min_two max_three min_three max_four min_four   -- for this text's walks alone
set_option linter.unusedVariables false
set_option linter.unusedSimpArgs false

/-! ### dropperref07_asked: function 54 -/
def dropperref07_asked.f (k : Nat) (l0 : List Int) (a1 : Int) : Option (Int) := (dropperref07_Valid.f k l0).bind fun t193 => (if t193 = true then (if a1 < 0 then (some 2) else (if a1 > 10 then (some 2) else (some 0))) else (some 70))
theorem dropperref07_asked.mono : ∀ a0 a1 k, LeO (dropperref07_asked.f k a0 a1) (dropperref07_asked.f (k + 1) a0 a1) := by
  intro a0 a1 k
  unfold dropperref07_asked.f
  repeat' first
      | (with_reducible exact dropperref07_Valid.mono _ _)
      | (with_reducible exact LeO.refl _)
      | (with_reducible exact LeO.none _)
      | (with_reducible refine LeO.ite ?_ ?_)
      | (with_reducible refine LeO.bind ?_ (fun _ => ?_))
      | exact dropperref07_Valid.mono _ _
      | exact LeO.none _
      | refine LeO.ite ?_ ?_
      | refine LeO.bind ?_ (fun _ => ?_)
set_option maxHeartbeats 8000000 in
set_option maxRecDepth 100000 in
theorem dropperref07_asked.calls (k : Nat) (A0 : Option Addr) (c0 : Nat) (l0 : List Int) (a1 : Int) (r : Int) (w : World) (hr0 : Kd.C (Kd.int .i64) w A0 l0.length l0) (hc0 : l0.length ≤ c0) (h : dropperref07_asked.f k l0 a1 = some r) :
    Calls Try.prog 54 #[.slice A0 l0.length c0, .int .i64 a1] w fun e w' => e = .returned (.int .i64 r) ∧ Drawn0 w w' := by
  have HR0 := Aside0.mk hr0
  have HC0 := Aside0.mk hc0
  clear hr0 hc0
  have H : ((dropperref07_Valid.f k l0).bind fun t193 => (if t193 = true then (if a1 < 0 then (some 2) else (if a1 > 10 then (some 2) else (some 0))) else (some 70))) = some r := h
  clear h
  replace H := Option.bind_eq_some_iff.mp H
  obtain ⟨t193, A30, H⟩ := H
  replace H : (if t193 = true then (if a1 < 0 then (some 2) else (if a1 > 10 then (some 2) else (some 0))) else (some 70)) = some r := H
  have A3 := Aside0.mk A30
  clear A30
  by_cases c4 : t193 = true
  · subst c4
    have H1 : (if a1 < 0 then (some 2) else (if a1 > 10 then (some 2) else (some 0))) = some r := by rw [if_pos rfl] at H; exact H
    clear H
    have H := H1
    clear H1
    by_cases c5 : a1 < 0
    · rw [if_pos c5] at H
      have c5b0 : decide (a1 < 0) = true := decide_eq_true c5
      clear c5
      obtain rfl := Option.some.inj H
      go_enter Try.func54, Try.ntmps54
      go_wp2_with (first | ((with_reducible refine gate_callee (f := 19) rfl ?_); refine goesL_ (some 7) rfl rfl Try.func19 (by kernel_rfl) rfl #[.slice A0 l0.length c0] rfl (by (try simp only [List.map_toArray, List.map_cons, List.map_nil]); first | done | rfl | (simp only [List.length_drop, List.length_take]; rfl)) ?_; (with_reducible refine (dropperref07_Valid.calls k _ _ l0 true _ ?side1 ?side2 A3.out).mono ?_); (case side1 => repeat (first | exact HR0.out | (with_reducible refine Kd.C_alloc ?_ _) | (with_reducible refine Kd.C_drewN ?_ _) | (with_reducible refine Kd.C_drew ?_))); (case side2 => exact HC0.out); rintro e w' ⟨rfl, ⟨nd, rfl⟩⟩; refine ⟨_, rfl, ?_⟩))
      go_ret
      exact ⟨by first | rfl | (simp; done) | (simp [*]; done), by repeat (first | exact Drawn0.refl _ | apply Drawn0.step)⟩
    · rw [if_neg c5] at H
      have c5b0 : decide (a1 < 0) = false := decide_eq_false c5
      clear c5
      by_cases c6 : a1 > 10
      · rw [if_pos c6] at H
        have c6b0 : decide (10 < a1) = true := decide_eq_true c6
        clear c6
        obtain rfl := Option.some.inj H
        go_enter Try.func54, Try.ntmps54
        go_wp2_with (first | ((with_reducible refine gate_callee (f := 19) rfl ?_); refine goesL_ (some 7) rfl rfl Try.func19 (by kernel_rfl) rfl #[.slice A0 l0.length c0] rfl (by (try simp only [List.map_toArray, List.map_cons, List.map_nil]); first | done | rfl | (simp only [List.length_drop, List.length_take]; rfl)) ?_; (with_reducible refine (dropperref07_Valid.calls k _ _ l0 true _ ?side1 ?side2 A3.out).mono ?_); (case side1 => repeat (first | exact HR0.out | (with_reducible refine Kd.C_alloc ?_ _) | (with_reducible refine Kd.C_drewN ?_ _) | (with_reducible refine Kd.C_drew ?_))); (case side2 => exact HC0.out); rintro e w' ⟨rfl, ⟨nd, rfl⟩⟩; refine ⟨_, rfl, ?_⟩))
        go_ret
        exact ⟨by first | rfl | (simp; done) | (simp [*]; done), by repeat (first | exact Drawn0.refl _ | apply Drawn0.step)⟩
      · rw [if_neg c6] at H
        have c6b0 : decide (10 < a1) = false := decide_eq_false c6
        clear c6
        obtain rfl := Option.some.inj H
        go_enter Try.func54, Try.ntmps54
        go_wp2_with (first | ((with_reducible refine gate_callee (f := 19) rfl ?_); refine goesL_ (some 7) rfl rfl Try.func19 (by kernel_rfl) rfl #[.slice A0 l0.length c0] rfl (by (try simp only [List.map_toArray, List.map_cons, List.map_nil]); first | done | rfl | (simp only [List.length_drop, List.length_take]; rfl)) ?_; (with_reducible refine (dropperref07_Valid.calls k _ _ l0 true _ ?side1 ?side2 A3.out).mono ?_); (case side1 => repeat (first | exact HR0.out | (with_reducible refine Kd.C_alloc ?_ _) | (with_reducible refine Kd.C_drewN ?_ _) | (with_reducible refine Kd.C_drew ?_))); (case side2 => exact HC0.out); rintro e w' ⟨rfl, ⟨nd, rfl⟩⟩; refine ⟨_, rfl, ?_⟩))
        go_ret
        exact ⟨by first | rfl | (simp; done) | (simp [*]; done), by repeat (first | exact Drawn0.refl _ | apply Drawn0.step)⟩
  · replace c4 := Bool.eq_false_iff.mpr c4
    subst c4
    have H1 : (some 70) = some r := by rw [if_neg (show ¬ (false = true) by decide)] at H; exact H
    clear H
    have H := H1
    clear H1
    obtain rfl := Option.some.inj H
    go_enter Try.func54, Try.ntmps54
    go_wp2_with (first | ((with_reducible refine gate_callee (f := 19) rfl ?_); refine goesL_ (some 7) rfl rfl Try.func19 (by kernel_rfl) rfl #[.slice A0 l0.length c0] rfl (by (try simp only [List.map_toArray, List.map_cons, List.map_nil]); first | done | rfl | (simp only [List.length_drop, List.length_take]; rfl)) ?_; (with_reducible refine (dropperref07_Valid.calls k _ _ l0 false _ ?side1 ?side2 A3.out).mono ?_); (case side1 => repeat (first | exact HR0.out | (with_reducible refine Kd.C_alloc ?_ _) | (with_reducible refine Kd.C_drewN ?_ _) | (with_reducible refine Kd.C_drew ?_))); (case side2 => exact HC0.out); rintro e w' ⟨rfl, ⟨nd, rfl⟩⟩; refine ⟨_, rfl, ?_⟩))
    go_ret
    exact ⟨by first | rfl | (simp; done) | (simp [*]; done), by repeat (first | exact Drawn0.refl _ | apply Drawn0.step)⟩

end Go.Proofs.Ytpdcpekjafcohaa.XWear

-- Written by wip/xprint.py of this repo, over the kit's print.py: out of the translation; the oracles in it are by hand. Not trusted: Lean checks it.
namespace Go.Proofs.Ytpdcpekjafcohaa.XWear
open Go.RowKit Go.Proofs.YtpdcpekjafcohaaW.PrintWords Go.Proofs.YtpdcpekjafcohaaW.PrintLast Go.Proofs.YtpdcpekjafcohaaW.PrintMore
attribute [local go_sem] max2_int min2_int max_two min_two max_three min_three max_four min_four   -- for this text's walks alone
set_option linter.unusedVariables false
set_option linter.unusedSimpArgs false

/-! ### dropperref07_middle: function 80 -/
mutual
def dropperref07_middle.l0 : Nat → List Int → Int → Option (Int)
  | 0, _, _ => none
  | k + 1, x0, x3 => if x3 < (x0.length : Int) then (dropperref07_middle.l1 k x0 x3 0 0 0) else (some 0)
def dropperref07_middle.l1 : Nat → List Int → Int → Int → Int → Int → Option (Int)
  | 0, _, _, _, _, _ => none
  | k + 1, x0, x3, x4, x5, x6 => if x6 < (x0.length : Int) then (if 0 ≤ x6 then (if 0 ≤ x3 then (if x3 < (x0.length : Int) then (if (rd x0 x6) < (rd x0 x3) then (if (rd x0 x6) = (rd x0 x3) then (dropperref07_middle.l1 k x0 x3 (wrap64 (x4 + 1)) (wrap64 (x5 + 1)) (wrap64 (x6 + 1))) else (dropperref07_middle.l1 k x0 x3 (wrap64 (x4 + 1)) x5 (wrap64 (x6 + 1)))) else (if (rd x0 x6) = (rd x0 x3) then (dropperref07_middle.l1 k x0 x3 x4 (wrap64 (x5 + 1)) (wrap64 (x6 + 1))) else (dropperref07_middle.l1 k x0 x3 x4 x5 (wrap64 (x6 + 1))))) else (none)) else (none)) else (none)) else (if x4 ≤ (wrap64 ((x0.length : Int) / 2)) then (if (wrap64 ((x0.length : Int) / 2)) < (wrap64 (x4 + x5)) then (if 0 ≤ x3 then (if x3 < (x0.length : Int) then (some (rd x0 x3)) else (none)) else (none)) else (dropperref07_middle.l0 k x0 (wrap64 (x3 + 1)))) else (dropperref07_middle.l0 k x0 (wrap64 (x3 + 1))))
end
def dropperref07_middle.f (k : Nat) (l0 : List Int) : Option (Int) := dropperref07_middle.l0 k l0 0
theorem dropperref07_middle.mono_l : ∀ k, (∀ y0 y1, LeO (dropperref07_middle.l0 k y0 y1) (dropperref07_middle.l0 (k + 1) y0 y1)) ∧ (∀ y0 y1 y2 y3 y4, LeO (dropperref07_middle.l1 k y0 y1 y2 y3 y4) (dropperref07_middle.l1 (k + 1) y0 y1 y2 y3 y4))
  | 0 => ⟨fun _ _ r h => by simp [dropperref07_middle.l0] at h, fun _ _ _ _ _ r h => by simp [dropperref07_middle.l1] at h⟩
  | k + 1 => by
    obtain ⟨ih0, ih1⟩ := dropperref07_middle.mono_l k
    refine ⟨?_, ?_⟩
    · intro y0 y1
      unfold dropperref07_middle.l0
      repeat' first
      | (with_reducible exact ih0 _ _)
      | (with_reducible exact ih1 _ _ _ _ _)
      | (with_reducible exact LeO.refl _)
      | (with_reducible exact LeO.none _)
      | (with_reducible refine LeO.ite ?_ ?_)
      | (with_reducible refine LeO.bind ?_ (fun _ => ?_))
      | exact ih0 _ _
      | exact ih1 _ _ _ _ _
      | exact LeO.none _
      | refine LeO.ite ?_ ?_
      | refine LeO.bind ?_ (fun _ => ?_)
    · intro y0 y1 y2 y3 y4
      unfold dropperref07_middle.l1
      repeat' first
      | (with_reducible exact ih0 _ _)
      | (with_reducible exact ih1 _ _ _ _ _)
      | (with_reducible exact LeO.refl _)
      | (with_reducible exact LeO.none _)
      | (with_reducible refine LeO.ite ?_ ?_)
      | (with_reducible refine LeO.bind ?_ (fun _ => ?_))
      | exact ih0 _ _
      | exact ih1 _ _ _ _ _
      | exact LeO.none _
      | refine LeO.ite ?_ ?_
      | refine LeO.bind ?_ (fun _ => ?_)
theorem dropperref07_middle.mono : ∀ a0 k, LeO (dropperref07_middle.f k a0) (dropperref07_middle.f (k + 1) a0) := by
  intro a0 k
  obtain ⟨ih0, ih1⟩ := dropperref07_middle.mono_l k
  unfold dropperref07_middle.f
  repeat' first
      | (with_reducible exact ih0 _ _)
      | (with_reducible exact ih1 _ _ _ _ _)
      | (with_reducible exact LeO.refl _)
      | (with_reducible exact LeO.none _)
      | (with_reducible refine LeO.ite ?_ ?_)
      | (with_reducible refine LeO.bind ?_ (fun _ => ?_))
      | exact ih0 _ _
      | exact ih1 _ _ _ _ _
      | exact LeO.none _
      | refine LeO.ite ?_ ?_
      | refine LeO.bind ?_ (fun _ => ?_)
set_option maxHeartbeats 8000000 in
set_option maxRecDepth 100000 in
theorem dropperref07_middle.calls (k : Nat) (A0 : Option Addr) (c0 : Nat) (l0 : List Int) (r : Int) (w : World) (hr0 : Kd.C (Kd.int .i64) w A0 l0.length l0) (hc0 : l0.length ≤ c0) (h : dropperref07_middle.f k l0 = some r) :
    Calls Try.prog 80 #[.slice A0 l0.length c0] w fun e w' => e = .returned (.int .i64 r) ∧ Drawn0 w w' := by
  have HR0 := Aside0.mk hr0
  have HC0 := Aside0.mk hc0
  clear hr0 hc0
  have H : (dropperref07_middle.l0 k l0 0) = some r := h
  clear h
  have H' := Aside0.mk H
  clear H
  go_enter Try.func80, Try.ntmps80
  go_wp2
  repeat (go_quiet (fail); try go_wp2)
  go_loopg [3] k (fun kq v3 w' => ∃ (x3_1 : Int), v3 = .int .i64 x3_1 ∧ Aside0 (dropperref07_middle.l0 kq l0 x3_1 = some r) ∧ Aside0 (kq ≤ k) ∧ Drawn0 w w')
  case atStart => exact ⟨(0), (by first | rfl | (simp; done) | (simp [*]; done)), H', ⟨Nat.le_refl _⟩, by repeat (first | exact Drawn0.refl _ | apply Drawn0.step)⟩
  case round =>
    clear H'
    obtain ⟨x3_1, rfl, HA, HK1, ⟨m1, rfl⟩⟩ := hrel
    cases gk with
    | zero => exact absurd HA.out (by simp [dropperref07_middle.l0])
    | succ k1 =>
      have H := HA.out
      clear HA
      simp only [dropperref07_middle.l0] at H
      by_cases c2 : x3_1 < (l0.length : Int)
      · rw [if_pos c2] at H
        have c2b0 : decide (x3_1 < (l0.length : Int)) = true := decide_eq_true c2
        clear c2
        have H' := Aside0.mk H
        clear H
        go_wp2
        repeat (go_quiet (fail); try go_wp2)
        go_loopg [4, 5, 6] k1 (fun kq v4 v5 v6 w' => ∃ (x4_2 : Int) (x5_2 : Int) (x6_2 : Int), v4 = .int .i64 x4_2 ∧ v5 = .int .i64 x5_2 ∧ v6 = .int .i64 x6_2 ∧ Aside0 (dropperref07_middle.l1 kq l0 x3_1 x4_2 x5_2 x6_2 = some r) ∧ Aside0 (kq ≤ k1) ∧ Drawn0 w w')
        case atStart => exact ⟨(0), (0), (0), (by first | rfl | (simp; done) | (simp [*]; done)), (by first | rfl | (simp; done) | (simp [*]; done)), (by first | rfl | (simp; done) | (simp [*]; done)), H', ⟨Nat.le_refl _⟩, by repeat (first | exact Drawn0.refl _ | apply Drawn0.step)⟩
        case round =>
          clear H'
          try clear c2
          try clear c2b0
          try clear p2
          obtain ⟨x4_2, x5_2, x6_2, rfl, rfl, rfl, HA, HK2, ⟨m2, rfl⟩⟩ := hrel
          cases gk with
          | zero => exact absurd HA.out (by simp [dropperref07_middle.l1])
          | succ k2 =>
            have H := HA.out
            clear HA
            simp only [dropperref07_middle.l1] at H
            by_cases c3 : x6_2 < (l0.length : Int)
            · rw [if_pos c3] at H
              have c3b0 : decide (x6_2 < (l0.length : Int)) = true := decide_eq_true c3
              clear c3
              by_cases c4 : 0 ≤ x6_2
              · rw [if_pos c4] at H
                have c4b0 : decide (0 ≤ x6_2) = true := decide_eq_true c4
                clear c4
                by_cases c5 : 0 ≤ x3_1
                · rw [if_pos c5] at H
                  have c5b0 : decide (0 ≤ x3_1) = true := decide_eq_true c5
                  clear c5
                  by_cases c6 : x3_1 < (l0.length : Int)
                  · rw [if_pos c6] at H
                    have c6b0 : decide (x3_1 < (l0.length : Int)) = true := decide_eq_true c6
                    clear c6
                    by_cases c7 : (rd l0 x6_2) < (rd l0 x3_1)
                    · rw [if_pos c7] at H
                      have c7b0 : decide ((rd l0 x6_2) < (rd l0 x3_1)) = true := decide_eq_true c7
                      clear c7
                      by_cases c8 : (rd l0 x6_2) = (rd l0 x3_1)
                      · rw [if_pos c8] at H
                        have c8b0 : ((rd l0 x6_2) == (rd l0 x3_1)) = true := beq_iff_eq.mpr c8
                        have c8b1 : ((rd l0 x6_2) != (rd l0 x3_1)) = false := bne_eq_false_iff_eq.mpr c8
                        clear c8
                        have H' := Aside0.mk H
                        clear H
                        have p195 : 0 ≤ (x6_2 : Int) := of_decide_eq_true (by first | (with_reducible assumption) | assumption)
                        have q195 : x6_2 < (l0.length : Int) := of_decide_eq_true (by first | (with_reducible assumption) | assumption)
                        obtain ⟨ad195, e195, hx195_0⟩ := Kd.at_int HR0.out x6_2 p195 q195
                        cases e195
                        replace p195 := eq_true p195
                        replace q195 := eq_true q195
                        have p196 : 0 ≤ (x3_1 : Int) := of_decide_eq_true (by first | (with_reducible assumption) | assumption)
                        have q196 : x3_1 < (l0.length : Int) := of_decide_eq_true (by first | (with_reducible assumption) | assumption)
                        obtain ⟨ad196, e196, hx196_0⟩ := Kd.at_int HR0.out x3_1 p196 q196
                        obtain rfl : ad195 = ad196 := (by injection e196)
                        replace p196 := eq_true p196
                        replace q196 := eq_true q196
                        have p197 : 0 ≤ (x6_2 : Int) := of_decide_eq_true (by first | (with_reducible assumption) | assumption)
                        have q197 : x6_2 < (l0.length : Int) := of_decide_eq_true (by first | (with_reducible assumption) | assumption)
                        obtain ⟨ad197, e197, hx197_0⟩ := Kd.at_int HR0.out x6_2 p197 q197
                        obtain rfl : ad195 = ad197 := (by injection e197)
                        replace p197 := eq_true p197
                        replace q197 := eq_true q197
                        have p198 : 0 ≤ (x3_1 : Int) := of_decide_eq_true (by first | (with_reducible assumption) | assumption)
                        have q198 : x3_1 < (l0.length : Int) := of_decide_eq_true (by first | (with_reducible assumption) | assumption)
                        obtain ⟨ad198, e198, hx198_0⟩ := Kd.at_int HR0.out x3_1 p198 q198
                        obtain rfl : ad195 = ad198 := (by injection e198)
                        replace p198 := eq_true p198
                        replace q198 := eq_true q198
                        go_wp2
                        repeat (go_quiet (fail); try go_wp2)
                        go_roundg k2
                        case measure => have := HK1.out; have := HK2.out; omega
                        case rel => exact ⟨(wrap64 (x4_2 + 1)), (wrap64 (x5_2 + 1)), (wrap64 (x6_2 + 1)), (by first | rfl | (simp; done) | (simp [*]; done)), (by first | rfl | (simp; done) | (simp [*]; done)), (by first | rfl | (simp; done) | (simp [*]; done)), H', ⟨by have := HK1.out; have := HK2.out; omega⟩, by repeat (first | exact Drawn0.refl _ | apply Drawn0.step)⟩
                      · rw [if_neg c8] at H
                        have c8b0 : ((rd l0 x6_2) == (rd l0 x3_1)) = false := beq_eq_false_iff_ne.mpr c8
                        have c8b1 : ((rd l0 x6_2) != (rd l0 x3_1)) = true := bne_iff_ne.mpr c8
                        have H' := Aside0.mk H
                        clear H
                        have p195 : 0 ≤ (x6_2 : Int) := of_decide_eq_true (by first | (with_reducible assumption) | assumption)
                        have q195 : x6_2 < (l0.length : Int) := of_decide_eq_true (by first | (with_reducible assumption) | assumption)
                        obtain ⟨ad195, e195, hx195_0⟩ := Kd.at_int HR0.out x6_2 p195 q195
                        cases e195
                        replace p195 := eq_true p195
                        replace q195 := eq_true q195
                        have p196 : 0 ≤ (x3_1 : Int) := of_decide_eq_true (by first | (with_reducible assumption) | assumption)
                        have q196 : x3_1 < (l0.length : Int) := of_decide_eq_true (by first | (with_reducible assumption) | assumption)
                        obtain ⟨ad196, e196, hx196_0⟩ := Kd.at_int HR0.out x3_1 p196 q196
                        obtain rfl : ad195 = ad196 := (by injection e196)
                        replace p196 := eq_true p196
                        replace q196 := eq_true q196
                        have p197 : 0 ≤ (x6_2 : Int) := of_decide_eq_true (by first | (with_reducible assumption) | assumption)
                        have q197 : x6_2 < (l0.length : Int) := of_decide_eq_true (by first | (with_reducible assumption) | assumption)
                        obtain ⟨ad197, e197, hx197_0⟩ := Kd.at_int HR0.out x6_2 p197 q197
                        obtain rfl : ad195 = ad197 := (by injection e197)
                        replace p197 := eq_true p197
                        replace q197 := eq_true q197
                        have p198 : 0 ≤ (x3_1 : Int) := of_decide_eq_true (by first | (with_reducible assumption) | assumption)
                        have q198 : x3_1 < (l0.length : Int) := of_decide_eq_true (by first | (with_reducible assumption) | assumption)
                        obtain ⟨ad198, e198, hx198_0⟩ := Kd.at_int HR0.out x3_1 p198 q198
                        obtain rfl : ad195 = ad198 := (by injection e198)
                        replace p198 := eq_true p198
                        replace q198 := eq_true q198
                        go_wp2
                        repeat (go_quiet (fail); try go_wp2)
                        go_roundg k2
                        case measure => have := HK1.out; have := HK2.out; omega
                        case rel => exact ⟨(wrap64 (x4_2 + 1)), (x5_2), (wrap64 (x6_2 + 1)), (by first | rfl | (simp; done) | (simp [*]; done)), (by first | rfl | (simp; done) | (simp [*]; done)), (by first | rfl | (simp; done) | (simp [*]; done)), H', ⟨by have := HK1.out; have := HK2.out; omega⟩, by repeat (first | exact Drawn0.refl _ | apply Drawn0.step)⟩
                    · rw [if_neg c7] at H
                      have c7b0 : decide ((rd l0 x6_2) < (rd l0 x3_1)) = false := decide_eq_false c7
                      clear c7
                      by_cases c9 : (rd l0 x6_2) = (rd l0 x3_1)
                      · rw [if_pos c9] at H
                        have c9b0 : ((rd l0 x6_2) == (rd l0 x3_1)) = true := beq_iff_eq.mpr c9
                        have c9b1 : ((rd l0 x6_2) != (rd l0 x3_1)) = false := bne_eq_false_iff_eq.mpr c9
                        clear c9
                        have H' := Aside0.mk H
                        clear H
                        have p195 : 0 ≤ (x6_2 : Int) := of_decide_eq_true (by first | (with_reducible assumption) | assumption)
                        have q195 : x6_2 < (l0.length : Int) := of_decide_eq_true (by first | (with_reducible assumption) | assumption)
                        obtain ⟨ad195, e195, hx195_0⟩ := Kd.at_int HR0.out x6_2 p195 q195
                        cases e195
                        replace p195 := eq_true p195
                        replace q195 := eq_true q195
                        have p196 : 0 ≤ (x3_1 : Int) := of_decide_eq_true (by first | (with_reducible assumption) | assumption)
                        have q196 : x3_1 < (l0.length : Int) := of_decide_eq_true (by first | (with_reducible assumption) | assumption)
                        obtain ⟨ad196, e196, hx196_0⟩ := Kd.at_int HR0.out x3_1 p196 q196
                        obtain rfl : ad195 = ad196 := (by injection e196)
                        replace p196 := eq_true p196
                        replace q196 := eq_true q196
                        have p199 : 0 ≤ (x6_2 : Int) := of_decide_eq_true (by first | (with_reducible assumption) | assumption)
                        have q199 : x6_2 < (l0.length : Int) := of_decide_eq_true (by first | (with_reducible assumption) | assumption)
                        obtain ⟨ad199, e199, hx199_0⟩ := Kd.at_int HR0.out x6_2 p199 q199
                        obtain rfl : ad195 = ad199 := (by injection e199)
                        replace p199 := eq_true p199
                        replace q199 := eq_true q199
                        have p200 : 0 ≤ (x3_1 : Int) := of_decide_eq_true (by first | (with_reducible assumption) | assumption)
                        have q200 : x3_1 < (l0.length : Int) := of_decide_eq_true (by first | (with_reducible assumption) | assumption)
                        obtain ⟨ad200, e200, hx200_0⟩ := Kd.at_int HR0.out x3_1 p200 q200
                        obtain rfl : ad195 = ad200 := (by injection e200)
                        replace p200 := eq_true p200
                        replace q200 := eq_true q200
                        go_wp2
                        repeat (go_quiet (fail); try go_wp2)
                        go_roundg k2
                        case measure => have := HK1.out; have := HK2.out; omega
                        case rel => exact ⟨(x4_2), (wrap64 (x5_2 + 1)), (wrap64 (x6_2 + 1)), (by first | rfl | (simp; done) | (simp [*]; done)), (by first | rfl | (simp; done) | (simp [*]; done)), (by first | rfl | (simp; done) | (simp [*]; done)), H', ⟨by have := HK1.out; have := HK2.out; omega⟩, by repeat (first | exact Drawn0.refl _ | apply Drawn0.step)⟩
                      · rw [if_neg c9] at H
                        have c9b0 : ((rd l0 x6_2) == (rd l0 x3_1)) = false := beq_eq_false_iff_ne.mpr c9
                        have c9b1 : ((rd l0 x6_2) != (rd l0 x3_1)) = true := bne_iff_ne.mpr c9
                        have H' := Aside0.mk H
                        clear H
                        have p195 : 0 ≤ (x6_2 : Int) := of_decide_eq_true (by first | (with_reducible assumption) | assumption)
                        have q195 : x6_2 < (l0.length : Int) := of_decide_eq_true (by first | (with_reducible assumption) | assumption)
                        obtain ⟨ad195, e195, hx195_0⟩ := Kd.at_int HR0.out x6_2 p195 q195
                        cases e195
                        replace p195 := eq_true p195
                        replace q195 := eq_true q195
                        have p196 : 0 ≤ (x3_1 : Int) := of_decide_eq_true (by first | (with_reducible assumption) | assumption)
                        have q196 : x3_1 < (l0.length : Int) := of_decide_eq_true (by first | (with_reducible assumption) | assumption)
                        obtain ⟨ad196, e196, hx196_0⟩ := Kd.at_int HR0.out x3_1 p196 q196
                        obtain rfl : ad195 = ad196 := (by injection e196)
                        replace p196 := eq_true p196
                        replace q196 := eq_true q196
                        have p199 : 0 ≤ (x6_2 : Int) := of_decide_eq_true (by first | (with_reducible assumption) | assumption)
                        have q199 : x6_2 < (l0.length : Int) := of_decide_eq_true (by first | (with_reducible assumption) | assumption)
                        obtain ⟨ad199, e199, hx199_0⟩ := Kd.at_int HR0.out x6_2 p199 q199
                        obtain rfl : ad195 = ad199 := (by injection e199)
                        replace p199 := eq_true p199
                        replace q199 := eq_true q199
                        have p200 : 0 ≤ (x3_1 : Int) := of_decide_eq_true (by first | (with_reducible assumption) | assumption)
                        have q200 : x3_1 < (l0.length : Int) := of_decide_eq_true (by first | (with_reducible assumption) | assumption)
                        obtain ⟨ad200, e200, hx200_0⟩ := Kd.at_int HR0.out x3_1 p200 q200
                        obtain rfl : ad195 = ad200 := (by injection e200)
                        replace p200 := eq_true p200
                        replace q200 := eq_true q200
                        go_wp2
                        repeat (go_quiet (fail); try go_wp2)
                        go_roundg k2
                        case measure => have := HK1.out; have := HK2.out; omega
                        case rel => exact ⟨(x4_2), (x5_2), (wrap64 (x6_2 + 1)), (by first | rfl | (simp; done) | (simp [*]; done)), (by first | rfl | (simp; done) | (simp [*]; done)), (by first | rfl | (simp; done) | (simp [*]; done)), H', ⟨by have := HK1.out; have := HK2.out; omega⟩, by repeat (first | exact Drawn0.refl _ | apply Drawn0.step)⟩
                  · rw [if_neg c6] at H
                    exact absurd H (by simp)
                · rw [if_neg c5] at H
                  exact absurd H (by simp)
              · rw [if_neg c4] at H
                exact absurd H (by simp)
            · rw [if_neg c3] at H
              have c3b0 : decide (x6_2 < (l0.length : Int)) = false := decide_eq_false c3
              clear c3
              by_cases c10 : x4_2 ≤ (wrap64 ((l0.length : Int) / 2))
              · rw [if_pos c10] at H
                have c10b0 : decide (x4_2 ≤ (wrap64 ((l0.length : Int) / 2))) = true := decide_eq_true c10
                clear c10
                by_cases c11 : (wrap64 ((l0.length : Int) / 2)) < (wrap64 (x4_2 + x5_2))
                · rw [if_pos c11] at H
                  have c11b0 : decide ((wrap64 ((l0.length : Int) / 2)) < (wrap64 (x4_2 + x5_2))) = true := decide_eq_true c11
                  clear c11
                  by_cases c12 : 0 ≤ x3_1
                  · rw [if_pos c12] at H
                    have c12b0 : decide (0 ≤ x3_1) = true := decide_eq_true c12
                    clear c12
                    by_cases c13 : x3_1 < (l0.length : Int)
                    · rw [if_pos c13] at H
                      have c13b0 : decide (x3_1 < (l0.length : Int)) = true := decide_eq_true c13
                      clear c13
                      obtain rfl := Option.some.inj H
                      have p194 : 0 ≤ (x3_1 : Int) := of_decide_eq_true (by first | (with_reducible assumption) | assumption)
                      have q194 : x3_1 < (l0.length : Int) := of_decide_eq_true (by first | (with_reducible assumption) | assumption)
                      obtain ⟨ad194, e194, hx194_0⟩ := Kd.at_int HR0.out x3_1 p194 q194
                      cases e194
                      replace p194 := eq_true p194
                      replace q194 := eq_true q194
                      go_wp2
                      repeat (go_quiet (fail); try go_wp2)
                      go_ret
                      exact ⟨by first | rfl | (simp; done) | (simp [*]; done), by repeat (first | exact Drawn0.refl _ | apply Drawn0.step)⟩
                    · rw [if_neg c13] at H
                      exact absurd H (by simp)
                  · rw [if_neg c12] at H
                    exact absurd H (by simp)
                · rw [if_neg c11] at H
                  have c11b0 : decide ((wrap64 ((l0.length : Int) / 2)) < (wrap64 (x4_2 + x5_2))) = false := decide_eq_false c11
                  clear c11
                  have H' := Aside0.mk H
                  clear H
                  go_wp2
                  repeat (go_quiet (fail); try go_wp2)
                  go_roundg k2
                  case measure => have := HK1.out; have := HK2.out; omega
                  case rel => exact ⟨(wrap64 (x3_1 + 1)), (by first | rfl | (simp; done) | (simp [*]; done)), H', ⟨by have := HK1.out; have := HK2.out; omega⟩, by repeat (first | exact Drawn0.refl _ | apply Drawn0.step)⟩
              · rw [if_neg c10] at H
                have c10b0 : decide (x4_2 ≤ (wrap64 ((l0.length : Int) / 2))) = false := decide_eq_false c10
                clear c10
                have H' := Aside0.mk H
                clear H
                go_wp2
                repeat (go_quiet (fail); try go_wp2)
                go_roundg k2
                case measure => have := HK1.out; have := HK2.out; omega
                case rel => exact ⟨(wrap64 (x3_1 + 1)), (by first | rfl | (simp; done) | (simp [*]; done)), H', ⟨by have := HK1.out; have := HK2.out; omega⟩, by repeat (first | exact Drawn0.refl _ | apply Drawn0.step)⟩
      · rw [if_neg c2] at H
        have c2b0 : decide (x3_1 < (l0.length : Int)) = false := decide_eq_false c2
        clear c2
        obtain rfl := Option.some.inj H
        go_wp2
        repeat (go_quiet (fail); try go_wp2)
        go_ret
        exact ⟨by first | rfl | (simp; done) | (simp [*]; done), by repeat (first | exact Drawn0.refl _ | apply Drawn0.step)⟩

end Go.Proofs.Ytpdcpekjafcohaa.XWear

-- Written by wip/xprint.py of this repo, over the kit's print.py: out of the translation; the oracles in it are by hand. Not trusted: Lean checks it.
namespace Go.Proofs.Ytpdcpekjafcohaa.XWear
open Go.RowKit Go.Proofs.YtpdcpekjafcohaaW.PrintWords Go.Proofs.YtpdcpekjafcohaaW.PrintLast Go.Proofs.YtpdcpekjafcohaaW.PrintMore
attribute [local go_sem] max2_int min2_int max_two min_two max_three min_three max_four min_four   -- for this text's walks alone
set_option linter.unusedVariables false
set_option linter.unusedSimpArgs false

/-! ### dropperref07_median: function 55 -/
mutual
def dropperref07_median.l0 : Nat → List Int → Int → List Int → Int → Option (List Int)
  | 0, _, _, _, _ => none
  | k + 1, x0, x1, x5, x6 => if x6 < (x0.length : Int) then (dropperref07_median.l1 k x0 x1 x5 x6 ([] : List Int) (wrap64 (x6 - x1))) else (some x5)
def dropperref07_median.l1 : Nat → List Int → Int → List Int → Int → List Int → Int → Option (List Int)
  | 0, _, _, _, _, _, _ => none
  | k + 1, x0, x1, x5, x6, x7, x8 => if x8 ≤ (wrap64 (x6 + x1)) then (if 0 ≤ (mn (mx x8 0) (wrap64 ((x0.length : Int) - 1))) then (if (mn (mx x8 0) (wrap64 ((x0.length : Int) - 1))) < (x0.length : Int) then (if x7.length < 17592186044416 then (dropperref07_median.l1 k x0 x1 x5 x6 (x7 ++ [rd x0 (mn (mx x8 0) (wrap64 ((x0.length : Int) - 1)))]) (wrap64 (x8 + 1))) else (none)) else (none)) else (none)) else ((dropperref07_middle.f k x7).bind fun t205 => (if x5.length < 17592186044416 then (dropperref07_median.l0 k x0 x1 (x5 ++ [t205]) (wrap64 (x6 + 1))) else (none)))
end
def dropperref07_median.f (k : Nat) (l0 : List Int) (a1 : Int) : Option (List Int) := dropperref07_median.l0 k l0 a1 ([] : List Int) 0
theorem dropperref07_median.mono_l : ∀ k, (∀ y0 y1 y2 y3, LeO (dropperref07_median.l0 k y0 y1 y2 y3) (dropperref07_median.l0 (k + 1) y0 y1 y2 y3)) ∧ (∀ y0 y1 y2 y3 y4 y5, LeO (dropperref07_median.l1 k y0 y1 y2 y3 y4 y5) (dropperref07_median.l1 (k + 1) y0 y1 y2 y3 y4 y5))
  | 0 => ⟨fun _ _ _ _ r h => by simp [dropperref07_median.l0] at h, fun _ _ _ _ _ _ r h => by simp [dropperref07_median.l1] at h⟩
  | k + 1 => by
    obtain ⟨ih0, ih1⟩ := dropperref07_median.mono_l k
    refine ⟨?_, ?_⟩
    · intro y0 y1 y2 y3
      unfold dropperref07_median.l0
      repeat' first
      | (with_reducible exact ih0 _ _ _ _)
      | (with_reducible exact ih1 _ _ _ _ _ _)
      | (with_reducible exact dropperref07_middle.mono _ _)
      | (with_reducible exact LeO.refl _)
      | (with_reducible exact LeO.none _)
      | (with_reducible refine LeO.ite ?_ ?_)
      | (with_reducible refine LeO.bind ?_ (fun _ => ?_))
      | exact ih0 _ _ _ _
      | exact ih1 _ _ _ _ _ _
      | exact dropperref07_middle.mono _ _
      | exact LeO.none _
      | refine LeO.ite ?_ ?_
      | refine LeO.bind ?_ (fun _ => ?_)
    · intro y0 y1 y2 y3 y4 y5
      unfold dropperref07_median.l1
      repeat' first
      | (with_reducible exact ih0 _ _ _ _)
      | (with_reducible exact ih1 _ _ _ _ _ _)
      | (with_reducible exact dropperref07_middle.mono _ _)
      | (with_reducible exact LeO.refl _)
      | (with_reducible exact LeO.none _)
      | (with_reducible refine LeO.ite ?_ ?_)
      | (with_reducible refine LeO.bind ?_ (fun _ => ?_))
      | exact ih0 _ _ _ _
      | exact ih1 _ _ _ _ _ _
      | exact dropperref07_middle.mono _ _
      | exact LeO.none _
      | refine LeO.ite ?_ ?_
      | refine LeO.bind ?_ (fun _ => ?_)
theorem dropperref07_median.mono : ∀ a0 a1 k, LeO (dropperref07_median.f k a0 a1) (dropperref07_median.f (k + 1) a0 a1) := by
  intro a0 a1 k
  obtain ⟨ih0, ih1⟩ := dropperref07_median.mono_l k
  unfold dropperref07_median.f
  repeat' first
      | (with_reducible exact ih0 _ _ _ _)
      | (with_reducible exact ih1 _ _ _ _ _ _)
      | (with_reducible exact dropperref07_middle.mono _ _)
      | (with_reducible exact LeO.refl _)
      | (with_reducible exact LeO.none _)
      | (with_reducible refine LeO.ite ?_ ?_)
      | (with_reducible refine LeO.bind ?_ (fun _ => ?_))
      | exact ih0 _ _ _ _
      | exact ih1 _ _ _ _ _ _
      | exact dropperref07_middle.mono _ _
      | exact LeO.none _
      | refine LeO.ite ?_ ?_
      | refine LeO.bind ?_ (fun _ => ?_)
set_option maxHeartbeats 8000000 in
set_option maxRecDepth 100000 in
theorem dropperref07_median.calls (k : Nat) (A0 : Option Addr) (c0 : Nat) (l0 : List Int) (a1 : Int) (r : List Int) (w : World) (hr0 : Kd.C (Kd.int .i64) w A0 l0.length l0) (hc0 : l0.length ≤ c0) (h : dropperref07_median.f k l0 a1 = some r) :
    Calls Try.prog 55 #[.slice A0 l0.length c0, .int .i64 a1] w fun e w' => ∃ v0_ : Value, e = .returned (v0_) ∧ Kd.R (Kd.int .i64) 3 w' w.heap.size (fun _ => True) v0_ r ∧ Below w.heap.size w w' := by
  have HR0 := Aside0.mk hr0
  have HC0 := Aside0.mk hc0
  clear hr0 hc0
  have HB := Aside0.mk (Below.refl w.heap.size w)
  have H : (dropperref07_median.l0 k l0 a1 ([] : List Int) 0) = some r := h
  clear h
  have H' := Aside0.mk H
  clear H
  go_enter Try.func55, Try.ntmps55
  go_wp2
  go_loopg [5, 6] k (fun kq v5 v6 w' => ∃ (x5_1 : List Int) (x6_1 : Int), v6 = .int .i64 x6_1 ∧ Aside0 (dropperref07_median.l0 kq l0 a1 x5_1 x6_1 = some r) ∧ Aside0 (kq ≤ k) ∧ Aside0 (Kd.R (Kd.int .i64) 3 w' w.heap.size (fun _ => True) v5 x5_1) ∧ Aside0 (Below w.heap.size w w'))
  case atStart => exact ⟨(([] : List Int)), (0), (by first | rfl | (simp; done) | (simp [*]; done)), H', ⟨Nat.le_refl _⟩, ⟨by first | exact Kd.R_nil _ _ _ _ _ | exact Kd.N_nil _ _ _ _ _ | exact Kd.V_nil _ _ _ _ _ | exact Kd.Q_nil _ _ _ _ _ | exact Kd.S_nil _ _ _ _ _⟩, ⟨by repeat (first | (with_reducible first | exact HB.out | apply below_alloc | apply pw_below_drewN | apply below_drew1) | exact HB.out)⟩⟩
  case round =>
    clear H'
    try clear p2
    obtain ⟨x5_1, x6_1, rfl, HA, HK1, HO_5, HB⟩ := hrel
    cases gk with
    | zero => exact absurd HA.out (by simp [dropperref07_median.l0])
    | succ k1 =>
      have H := HA.out
      clear HA
      simp only [dropperref07_median.l0] at H
      by_cases c3 : x6_1 < (l0.length : Int)
      · rw [if_pos c3] at H
        have c3b0 : decide (x6_1 < (l0.length : Int)) = true := decide_eq_true c3
        clear c3
        have H' := Aside0.mk H
        clear H
        go_wp2
        go_loopg [7, 8] k1 (fun kq v7 v8 w' => ∃ (x7_2 : List Int) (x8_2 : Int), v8 = .int .i64 x8_2 ∧ Aside0 (dropperref07_median.l1 kq l0 a1 x5_1 x6_1 x7_2 x8_2 = some r) ∧ Aside0 (kq ≤ k1) ∧ Aside0 (Kd.R (Kd.int .i64) 3 w' w.heap.size (fun k_ => some k_ ≠ (v7 : Value).ownBlock) u5 x5_1) ∧ Aside0 (Kd.R (Kd.int .i64) 3 w' w.heap.size (fun k_ => some k_ ≠ (u5 : Value).ownBlock) v7 x7_2) ∧ Aside0 (Below w.heap.size w w'))
        case atStart => exact ⟨(([] : List Int)), (wrap64 (x6_1 - a1)), (by first | rfl | (simp; done) | (simp [*]; done)), H', ⟨Nat.le_refl _⟩, ⟨by (with_reducible repeat (first | apply Kd.R_alloc | apply Kd.R_drewN | apply Kd.R_drew)); exact Kd.R_mono HO_5.out (fun _ hk => (by simp [Value.ownBlock]))⟩, ⟨by first | exact Kd.R_nil _ _ _ _ _ | exact Kd.N_nil _ _ _ _ _ | exact Kd.V_nil _ _ _ _ _ | exact Kd.Q_nil _ _ _ _ _ | exact Kd.S_nil _ _ _ _ _⟩, ⟨by repeat (first | (with_reducible first | exact HB.out | apply below_alloc | apply pw_below_drewN | apply below_drew1) | exact HB.out)⟩⟩
        case round =>
          clear H'
          try clear p2
          try clear c3
          try clear c3b0
          try clear p2
          obtain ⟨x7_2, x8_2, rfl, HA, HK2, HO_5, HO_7, HB⟩ := hrel
          cases gk with
          | zero => exact absurd HA.out (by simp [dropperref07_median.l1])
          | succ k2 =>
            have H := HA.out
            clear HA
            simp only [dropperref07_median.l1] at H
            by_cases c4 : x8_2 ≤ (wrap64 (x6_1 + a1))
            · rw [if_pos c4] at H
              have c4b0 : decide (x8_2 ≤ (wrap64 (x6_1 + a1))) = true := decide_eq_true c4
              clear c4
              obtain ⟨ji5, hji5⟩ : ∃ j_ : Int, (mx x8_2 0) = j_ := ⟨_, rfl⟩
              replace H : (if 0 ≤ (mn (ji5) (wrap64 ((l0.length : Int) - 1))) then (if (mn (ji5) (wrap64 ((l0.length : Int) - 1))) < (l0.length : Int) then (if x7_2.length < 17592186044416 then (dropperref07_median.l1 k2 l0 a1 x5_1 x6_1 (x7_2 ++ [rd l0 (mn (ji5) (wrap64 ((l0.length : Int) - 1)))]) (wrap64 (x8_2 + 1))) else (none)) else (none)) else (none)) = some r := by first | (rw [hji5] at H; exact H) | (simp only [hji5] at H ⊢; exact H)
              have hji5_ : (if x8_2 < 0 then 0 else x8_2) = ji5 := hji5
              obtain ⟨ji6, hji6⟩ : ∃ j_ : Int, (mn (ji5) (wrap64 ((l0.length : Int) - 1))) = j_ := ⟨_, rfl⟩
              replace H : (if 0 ≤ (ji6) then (if (ji6) < (l0.length : Int) then (if x7_2.length < 17592186044416 then (dropperref07_median.l1 k2 l0 a1 x5_1 x6_1 (x7_2 ++ [rd l0 (ji6)]) (wrap64 (x8_2 + 1))) else (none)) else (none)) else (none)) = some r := by first | (rw [hji6] at H; exact H) | (simp only [hji6] at H ⊢; exact H)
              have hji6_ : (if (wrap64 ((l0.length : Int) - 1)) < (ji5) then (wrap64 ((l0.length : Int) - 1)) else (ji5)) = ji6 := hji6
              by_cases c7 : 0 ≤ (ji6)
              · rw [if_pos c7] at H
                have c7b0 : decide (0 ≤ (ji6)) = true := decide_eq_true c7
                clear c7
                by_cases c8 : (ji6) < (l0.length : Int)
                · rw [if_pos c8] at H
                  have c8b0 : decide ((ji6) < (l0.length : Int)) = true := decide_eq_true c8
                  clear c8
                  by_cases c9 : x7_2.length < 17592186044416
                  · rw [if_pos c9] at H
                    have LMc9 := Aside0.mk c9
                    clear c9
                    obtain ⟨y202, hy202⟩ : ∃ y_ : List Int, y_ = (x7_2 ++ [rd l0 (ji6)]) := ⟨_, rfl⟩
                    replace H : (dropperref07_median.l1 k2 l0 a1 x5_1 x6_1 y202 (wrap64 (x8_2 + 1))) = some r := by first | (rw [hy202]; with_reducible exact H) | (have H2_ := (Option.bind_some _ _).symm.trans H; rw [hy202]; with_reducible exact H2_) | (have H2_ := (Option.bind_some _ _).symm.trans H; with_reducible exact H2_) | with_reducible exact H | (rw [hy202]; exact H) | exact H
                    have Ny202 := Aside0.mk hy202
                    clear hy202
                    have H' := Aside0.mk H
                    clear H
                    have p201 : 0 ≤ ((ji6) : Int) := of_decide_eq_true (by first | (with_reducible assumption) | assumption)
                    have q201 : (ji6) < (l0.length : Int) := of_decide_eq_true (by first | (with_reducible assumption) | assumption)
                    obtain ⟨ad201, e201, hx201_0⟩ := Kd.at_int HR0.out (ji6) p201 q201
                    cases e201
                    replace hx201_0 := (HB.out.cell (World.block_lt_of_cell? w _ hx201_0)).trans hx201_0
                    replace p201 := eq_true p201
                    replace q201 := eq_true q201
                    go_wp2_with (first | ((with_reducible refine gate_builtin (b := .append) (xs := #[.tmp 25, .tmp 35]) rfl ?_); at_builtin; refine Kd.R_append (Kd.int .i64) (w0 := w) w.heap.size rfl (.tmp 25) (.tmp 35) 22 3 (.int .i64 0) 8 rfl Try.underlying22 info3 rfl (by decide) (by omega) u7 x7_2 (rd l0 (ji6)) [.int .i64 (rd l0 (ji6))] (fun k_ => some k_ ≠ (u5 : Value).ownBlock) (fun _ => False) rfl rfl ?aP (fun _ hk => hk.elim) ?aF ?aO ?aB ?aS ?aL ?_; (case aP => exact rfl); (case aB => exact (by repeat (first | (with_reducible first | exact HB.out | apply below_alloc | apply pw_below_drewN | apply below_drew1) | exact HB.out))); (case aF => exact (fun k_ hk => Kd.fresh' (Kd.R_lt (by (with_reducible repeat (first | apply Kd.R_alloc | apply Kd.R_drewN | apply Kd.R_drew)); exact HO_5.out)) k_ hk)); (case aO => exact (by (with_reducible repeat (first | apply Kd.R_alloc | apply Kd.R_drewN | apply Kd.R_drew)); exact HO_7.out)); (case aS => exact (below_size (by repeat (first | (with_reducible first | exact HB.out | apply below_alloc | apply pw_below_drewN | apply below_drew1) | exact HB.out)))); (case aL => have := LMc9.out; omega); intro v203 w10 ho hb hg hat; rw [← Ny202.out] at ho; have n0_ := Aside0.mk (Kd.R_after (ok := (fun _ => True)) (by (with_reducible repeat (first | apply Kd.R_alloc | apply Kd.R_drewN | apply Kd.R_drew)); exact Kd.R_mono HO_5.out (fun _ hk => ⟨trivial, hk⟩)) hg hat); have n1_ := Aside0.mk (hb); have n2_ := Aside0.mk (ho); clear HO_5; clear HB; clear HO_7; have HO_5 := n0_; have HB := n1_; have HO204 := n2_; clear n0_ n1_ n2_; clear ho hb hg hat))
                    go_roundg k2
                    case measure => have := HK1.out; have := HK2.out; omega
                    case rel => exact ⟨(y202), (wrap64 (x8_2 + 1)), (by first | rfl | (simp; done) | (simp [*]; done)), H', ⟨by have := HK1.out; have := HK2.out; omega⟩, ⟨by (with_reducible repeat (first | apply Kd.R_alloc | apply Kd.R_drewN | apply Kd.R_drew)); exact Kd.R_mono HO_5.out (fun _ hk => hk.2)⟩, ⟨by (with_reducible repeat (first | apply Kd.R_alloc | apply Kd.R_drewN | apply Kd.R_drew)); exact HO204.out⟩, ⟨by repeat (first | (with_reducible first | exact HB.out | apply below_alloc | apply pw_below_drewN | apply below_drew1) | exact HB.out)⟩⟩
                  · rw [if_neg c9] at H
                    exact absurd H (by simp)
                · rw [if_neg c8] at H
                  exact absurd H (by simp)
              · rw [if_neg c7] at H
                exact absurd H (by simp)
            · rw [if_neg c4] at H
              have c4b0 : decide (x8_2 ≤ (wrap64 (x6_1 + a1))) = false := decide_eq_false c4
              clear c4
              replace H := Option.bind_eq_some_iff.mp H
              obtain ⟨t205, A110, H⟩ := H
              replace H : (if x5_1.length < 17592186044416 then (dropperref07_median.l0 k2 l0 a1 (x5_1 ++ [t205]) (wrap64 (x6_1 + 1))) else (none)) = some r := H
              have A11 := Aside0.mk A110
              clear A110
              by_cases c12 : x5_1.length < 17592186044416
              · rw [if_pos c12] at H
                have LMc12 := Aside0.mk c12
                clear c12
                obtain ⟨y206, hy206⟩ : ∃ y_ : List Int, y_ = (x5_1 ++ [t205]) := ⟨_, rfl⟩
                replace H : (dropperref07_median.l0 k2 l0 a1 y206 (wrap64 (x6_1 + 1))) = some r := by first | (rw [hy206]; with_reducible exact H) | (have H2_ := (Option.bind_some _ _).symm.trans H; rw [hy206]; with_reducible exact H2_) | (have H2_ := (Option.bind_some _ _).symm.trans H; with_reducible exact H2_) | with_reducible exact H | (rw [hy206]; exact H) | exact H
                have Ny206 := Aside0.mk hy206
                clear hy206
                have H' := Aside0.mk H
                clear H
                obtain ⟨Ao13, co13, eo13⟩ := Kd.R_slice HO_7.out
                subst eo13
                go_wp2_with (first | ((with_reducible refine gate_callee (f := 80) rfl ?_); refine goesL_ (some 39) rfl rfl Try.func80 (by kernel_rfl) rfl #[.slice Ao13 x7_2.length co13] rfl (by (try simp only [List.map_toArray, List.map_cons, List.map_nil]); first | done | rfl | (simp only [List.length_drop, List.length_take]; rfl)) ?_; (with_reducible refine (dropperref07_middle.calls k2 _ _ x7_2 t205 _ ?side1 ?side2 A11.out).mono ?_); (case side1 => repeat (first | exact (Kd.R_reads' HO_7.out).2.2 | (with_reducible refine Kd.C_alloc ?_ _) | (with_reducible refine Kd.C_drewN ?_ _) | (with_reducible refine Kd.C_drew ?_))); (case side2 => exact (Kd.R_reads' HO_7.out).2.1); rintro e w' ⟨rfl, ⟨nd, rfl⟩⟩; refine ⟨_, rfl, ?_⟩) | ((with_reducible refine gate_builtin (b := .append) (xs := #[.tmp 37, .tmp 40]) rfl ?_); at_builtin; refine Kd.R_append (Kd.int .i64) (w0 := w) w.heap.size rfl (.tmp 37) (.tmp 40) 22 3 (.int .i64 0) 8 rfl Try.underlying22 info3 rfl (by decide) (by omega) u5 x5_1 t205 [.int .i64 t205] (fun k_ => some k_ ≠ (.slice Ao13 x7_2.length co13 : Value).ownBlock) (fun _ => False) rfl rfl ?aP (fun _ hk => hk.elim) ?aF ?aO ?aB ?aS ?aL ?_; (case aP => exact rfl); (case aB => exact (by repeat (first | (with_reducible first | exact HB.out | apply below_alloc | apply pw_below_drewN | apply below_drew1) | exact HB.out))); (case aF => exact (fun k_ hk => Kd.fresh' (Kd.R_lt (by (with_reducible repeat (first | apply Kd.R_alloc | apply Kd.R_drewN | apply Kd.R_drew)); exact HO_7.out)) k_ hk)); (case aO => exact (by (with_reducible repeat (first | apply Kd.R_alloc | apply Kd.R_drewN | apply Kd.R_drew)); exact HO_5.out)); (case aS => exact (below_size (by repeat (first | (with_reducible first | exact HB.out | apply below_alloc | apply pw_below_drewN | apply below_drew1) | exact HB.out)))); (case aL => have := LMc12.out; omega); intro v207 w14 ho hb hg hat; rw [← Ny206.out] at ho; have n0_ := Aside0.mk (Kd.R_after (ok := (fun _ => True)) (by (with_reducible repeat (first | apply Kd.R_alloc | apply Kd.R_drewN | apply Kd.R_drew)); exact Kd.R_mono HO_7.out (fun _ hk => ⟨trivial, hk⟩)) hg hat); have n1_ := Aside0.mk (hb); have n2_ := Aside0.mk (ho); clear HO_7; clear HB; clear HO_5; have HO_7 := n0_; have HB := n1_; have HO208 := n2_; clear n0_ n1_ n2_; clear ho hb hg hat))
                go_roundg k2
                case measure => have := HK1.out; have := HK2.out; omega
                case rel => exact ⟨(y206), (wrap64 (x6_1 + 1)), (by first | rfl | (simp; done) | (simp [*]; done)), H', ⟨by have := HK1.out; have := HK2.out; omega⟩, ⟨by (with_reducible repeat (first | apply Kd.R_alloc | apply Kd.R_drewN | apply Kd.R_drew)); exact Kd.R_mono HO208.out (fun _ hk => trivial)⟩, ⟨by repeat (first | (with_reducible first | exact HB.out | apply below_alloc | apply pw_below_drewN | apply below_drew1) | exact HB.out)⟩⟩
              · rw [if_neg c12] at H
                exact absurd H (by simp)
      · rw [if_neg c3] at H
        have c3b0 : decide (x6_1 < (l0.length : Int)) = false := decide_eq_false c3
        clear c3
        obtain rfl := Option.some.inj H
        go_wp2
        go_ret
        exact ⟨_, by first | rfl | (simp [errW_none, errW_some] <;> rfl) | (simp [*, errW_none, errW_some] <;> rfl), by (with_reducible repeat (first | apply Kd.R_alloc | apply Kd.R_drewN | apply Kd.R_drew)); exact HO_5.out, by repeat (first | (with_reducible first | exact HB.out | apply below_alloc | apply pw_below_drewN | apply below_drew1) | exact HB.out)⟩

end Go.Proofs.Ytpdcpekjafcohaa.XWear

-- Written by wip/xprint.py of this repo, over the kit's print.py: out of the translation; the oracles in it are by hand. Not trusted: Lean checks it.
namespace Go.Proofs.Ytpdcpekjafcohaa.XWear
open Go.RowKit Go.Proofs.YtpdcpekjafcohaaW.PrintWords Go.Proofs.YtpdcpekjafcohaaW.PrintLast Go.Proofs.YtpdcpekjafcohaaW.PrintMore
attribute [local go_sem] max2_int min2_int max_two min_two max_three min_three max_four min_four   -- for this text's walks alone
set_option linter.unusedVariables false
set_option linter.unusedSimpArgs false

/-! ### dropperref07_Median: function 17 -/
def dropperref07_Median.f (k : Nat) (l0 : List Int) (a1 : Int) : Option (List Int × Int) := (dropperref07_asked.f k l0 a1).bind fun t209 => (if t209 = 0 then ((dropperref07_median.f k l0 a1).bind fun t210 => (some (t210, 0))) else (some (([] : List Int), t209)))
theorem dropperref07_Median.mono : ∀ a0 a1 k, LeO (dropperref07_Median.f k a0 a1) (dropperref07_Median.f (k + 1) a0 a1) := by
  intro a0 a1 k
  unfold dropperref07_Median.f
  repeat' first
      | (with_reducible exact dropperref07_asked.mono _ _ _)
      | (with_reducible exact dropperref07_median.mono _ _ _)
      | (with_reducible exact LeO.refl _)
      | (with_reducible exact LeO.none _)
      | (with_reducible refine LeO.ite ?_ ?_)
      | (with_reducible refine LeO.bind ?_ (fun _ => ?_))
      | exact dropperref07_asked.mono _ _ _
      | exact dropperref07_median.mono _ _ _
      | exact LeO.none _
      | refine LeO.ite ?_ ?_
      | refine LeO.bind ?_ (fun _ => ?_)
set_option maxHeartbeats 8000000 in
set_option maxRecDepth 100000 in
theorem dropperref07_Median.calls (k : Nat) (A0 : Option Addr) (c0 : Nat) (l0 : List Int) (a1 : Int) (r1 : List Int) (r2 : Int) (w : World) (hr0 : Kd.C (Kd.int .i64) w A0 l0.length l0) (hc0 : l0.length ≤ c0) (h : dropperref07_Median.f k l0 a1 = some (r1, r2)) :
    Calls Try.prog 17 #[.slice A0 l0.length c0, .int .i64 a1] w fun e w' => ∃ v0_ : Value, e = .returned (.tuple #[v0_, .int .i64 r2]) ∧ Kd.R (Kd.int .i64) 3 w' w.heap.size (fun _ => True) v0_ r1 ∧ Below w.heap.size w w' := by
  have HR0 := Aside0.mk hr0
  have HC0 := Aside0.mk hc0
  clear hr0 hc0
  have HB := Aside0.mk (Below.refl w.heap.size w)
  have H : ((dropperref07_asked.f k l0 a1).bind fun t209 => (if t209 = 0 then ((dropperref07_median.f k l0 a1).bind fun t210 => (some (t210, 0))) else (some (([] : List Int), t209)))) = some (r1, r2) := h
  clear h
  replace H := Option.bind_eq_some_iff.mp H
  obtain ⟨t209, A30, H⟩ := H
  replace H : (if t209 = 0 then ((dropperref07_median.f k l0 a1).bind fun t210 => (some (t210, 0))) else (some (([] : List Int), t209))) = some (r1, r2) := H
  have A3 := Aside0.mk A30
  clear A30
  by_cases c4 : t209 = 0
  · rw [if_pos c4] at H
    have c4b0 : (t209 == 0) = true := beq_iff_eq.mpr c4
    have c4b1 : (t209 != 0) = false := bne_eq_false_iff_eq.mpr c4
    clear c4
    replace H := Option.bind_eq_some_iff.mp H
    obtain ⟨t210, A50, H⟩ := H
    replace H : (some (t210, 0)) = some (r1, r2) := H
    have A5 := Aside0.mk A50
    clear A50
    simp only [Option.some.injEq, Prod.mk.injEq] at H
    obtain ⟨rfl, rfl⟩ := H
    go_enter Try.func17, Try.ntmps17
    go_wp2_with (first | ((with_reducible refine gate_callee (f := 54) rfl ?_); refine goesL_ (some 9) rfl rfl Try.func54 (by kernel_rfl) rfl #[.slice A0 l0.length c0, .int .i64 a1] rfl (by (try simp only [List.map_toArray, List.map_cons, List.map_nil]); first | done | rfl | (simp only [List.length_drop, List.length_take]; rfl)) ?_; (with_reducible refine (dropperref07_asked.calls k _ _ l0 a1 t209 _ ?side1 ?side2 A3.out).mono ?_); (case side1 => repeat (first | exact HR0.out | (with_reducible refine Kd.C_alloc ?_ _) | (with_reducible refine Kd.C_drewN ?_ _) | (with_reducible refine Kd.C_drew ?_))); (case side2 => exact HC0.out); rintro e w' ⟨rfl, ⟨nd, rfl⟩⟩; refine ⟨_, rfl, ?_⟩) | ((with_reducible refine gate_callee (f := 55) rfl ?_); refine goesL_ (some 15) rfl rfl Try.func55 (by kernel_rfl) rfl #[.slice A0 l0.length c0, .int .i64 a1] rfl (by (try simp only [List.map_toArray, List.map_cons, List.map_nil]); first | done | rfl | (simp only [List.length_drop, List.length_take]; rfl)) ?_; (with_reducible refine (dropperref07_median.calls k _ _ l0 a1 t210 _ ?side1 ?side2 A5.out).mono ?_); (case side1 => repeat (first | exact HR0.out | (with_reducible refine Kd.C_alloc ?_ _) | (with_reducible refine Kd.C_drewN ?_ _) | (with_reducible refine Kd.C_drew ?_))); (case side2 => exact HC0.out); rintro e w6 ⟨v211, rfl, ho0, hb⟩; refine ⟨_, rfl, ?_⟩; have n0_ := Aside0.mk (Kd.R_lower ho0 (below_size (by repeat (first | (with_reducible first | exact HB.out | apply below_alloc | apply pw_below_drewN | apply below_drew1) | exact HB.out)))); have n1_ := Aside0.mk (below_step (by repeat (first | (with_reducible first | exact HB.out | apply below_alloc | apply pw_below_drewN | apply below_drew1) | exact HB.out)) hb); clear HB; have HO212 := n0_; have HB := n1_; clear n0_ n1_; (try clear hb); (try clear hb2); (try clear hk); (try clear hi); (try clear ho0)))
    go_ret2
    exact ⟨_, by first | rfl | (simp [errW_none, errW_some] <;> rfl) | (simp [*, errW_none, errW_some] <;> rfl), by (with_reducible repeat (first | apply Kd.R_alloc | apply Kd.R_drewN | apply Kd.R_drew)); exact HO212.out, by repeat (first | (with_reducible first | exact HB.out | apply below_alloc | apply pw_below_drewN | apply below_drew1) | exact HB.out)⟩
  · rw [if_neg c4] at H
    have c4b0 : (t209 == 0) = false := beq_eq_false_iff_ne.mpr c4
    have c4b1 : (t209 != 0) = true := bne_iff_ne.mpr c4
    simp only [Option.some.injEq, Prod.mk.injEq] at H
    obtain ⟨rfl, rfl⟩ := H
    go_enter Try.func17, Try.ntmps17
    go_wp2_with (first | ((with_reducible refine gate_callee (f := 54) rfl ?_); refine goesL_ (some 9) rfl rfl Try.func54 (by kernel_rfl) rfl #[.slice A0 l0.length c0, .int .i64 a1] rfl (by (try simp only [List.map_toArray, List.map_cons, List.map_nil]); first | done | rfl | (simp only [List.length_drop, List.length_take]; rfl)) ?_; (with_reducible refine (dropperref07_asked.calls k _ _ l0 a1 t209 _ ?side1 ?side2 A3.out).mono ?_); (case side1 => repeat (first | exact HR0.out | (with_reducible refine Kd.C_alloc ?_ _) | (with_reducible refine Kd.C_drewN ?_ _) | (with_reducible refine Kd.C_drew ?_))); (case side2 => exact HC0.out); rintro e w' ⟨rfl, ⟨nd, rfl⟩⟩; refine ⟨_, rfl, ?_⟩))
    go_ret2
    exact ⟨_, by first | rfl | (simp [errW_none, errW_some] <;> rfl) | (simp [*, errW_none, errW_some] <;> rfl), by first | exact Kd.R_nil _ _ _ _ _ | exact Kd.N_nil _ _ _ _ _ | exact Kd.V_nil _ _ _ _ _ | exact Kd.Q_nil _ _ _ _ _ | exact Kd.S_nil _ _ _ _ _, by repeat (first | (with_reducible first | exact HB.out | apply below_alloc | apply pw_below_drewN | apply below_drew1) | exact HB.out)⟩

end Go.Proofs.Ytpdcpekjafcohaa.XWear

namespace Go.Proofs.Ytpdcpekjafcohaa.Plain
set_option linter.unusedVariables false
set_option linter.unusedSimpArgs false
open Go.RowKit Go.Proofs.Ytpdcpekjafcohaa.XWear Go.Proofs.YtpdcpekjafcohaaW.PrintWords Go.Proofs.YtpdcpekjafcohaaW.PrintLast Go.Proofs.YtpdcpekjafcohaaW.PrintMore

/-! ### rounds -/
theorem ev_const {α : Type} {o : Option α} {r : α} (h : o = some r) : Ev (fun _ => o) r := ⟨0, fun _ _ => h⟩
theorem ev_pos {α : Type} {c : Prop} [Decidable c] {a b : Nat → Option α} {r : α} (hc : c) (h : Ev a r) : Ev (fun k => if c then a k else b k) r :=
  Ev.congr (fun k => if_pos hc) h
theorem ev_neg {α : Type} {c : Prop} [Decidable c] {a b : Nat → Option α} {r : α} (hc : ¬ c) (h : Ev b r) : Ev (fun k => if c then a k else b k) r :=
  Ev.congr (fun k => if_neg hc) h
theorem ev_some {α β : Type} {a : α} {f : Nat → α → Option β} {r : β} (h : Ev (fun k => f k a) r) : Ev (fun k => (some a).bind (f k)) r := h
theorem ev_map {α : Type} {g : Nat → Option α} {r : α} (h : Ev g r) : Ev (fun k => (g k).bind fun t => some t) r := Ev.bind h (Ev.now r)

theorem wrap_id {x : Int} (h0 : -9223372036854775808 ≤ x) (h1 : x ≤ 9223372036854775807) : wrap64 x = x := by unfold wrap64; omega
theorem wrap_succ (n : Nat) (h : n ≤ 4000000000000000000) : wrap64 ((n : Int) + 1) = ((n + 1 : Nat) : Int) := by rw [wrap_id] <;> omega
theorem wrap_plus (n m : Nat) (h : n ≤ 4000000000000000000) (h2 : m ≤ 4000000000000000000) : wrap64 ((n : Int) + (m : Int)) = ((n + m : Nat) : Int) := by rw [wrap_id] <;> omega
theorem rd_eq (l : List Int) (i : Nat) (h : i < l.length) : rd l (i : Int) = l[i] := by simp [rd, List.getD_eq_getElem?_getD, h]

/-! ### valid readings -/
def ok (l : List Int) : Bool := decide (1 ≤ l.length) && decide (l.length ≤ 40) && l.all fun x => decide (0 ≤ x) && decide (x ≤ 10000)
theorem ok_iff (l : List Int) : ok l = true ↔ 1 ≤ l.length ∧ l.length ≤ 40 ∧ ∀ x ∈ l, 0 ≤ x ∧ x ≤ 10000 := by
  simp [ok, and_assoc]
theorem valid_f (l : List Int) : wear_Valid.f l = some (ok l) := rfl

theorem refValid_l (l : List Int) (hl : l.length ≤ 9223372036854775807) : ∀ (d i : Nat), i + d = l.length → (∀ j (h : j < l.length), j < i → 0 ≤ l[j] ∧ l[j] ≤ 10000) →
    Ev (fun k => dropperref07_Valid.l0 k l (i : Int)) (ok l) := by
  intro d
  induction d with
  | zero =>
    intro i hi hb
    refine Ev.step (fun k => by rw [dropperref07_Valid.l0]) ?_
    refine ev_neg (by omega) ?_
    have ha : ∀ x ∈ l, 0 ≤ x ∧ x ≤ 10000 := by
      intro x hx
      obtain ⟨j, hj, rfl⟩ := List.mem_iff_getElem.1 hx
      exact hb j hj (by omega)
    by_cases h1 : (l.length : Int) ≥ 1
    · refine ev_pos h1 (ev_const ?_)
      congr 1
      rw [Bool.eq_iff_iff, ok_iff, decide_eq_true_iff]
      constructor
      · intro h; exact ⟨by omega, by omega, ha⟩
      · rintro ⟨_, h, _⟩; omega
    · refine ev_neg h1 (ev_const ?_)
      congr 1
      symm
      rw [Bool.eq_false_iff]
      intro h
      have := (ok_iff l).1 h
      omega
  | succ d ih =>
    intro i hi hb
    have hlt : i < l.length := by omega
    have hrd := rd_eq l i hlt
    refine Ev.step (fun k => by rw [dropperref07_Valid.l0]) ?_
    refine ev_pos (by omega) (ev_pos (by omega) ?_)
    by_cases h0 : rd l (i : Int) < 0
    · refine ev_pos h0 (ev_const ?_)
      congr 1
      symm
      rw [Bool.eq_false_iff]
      intro h
      have := ((ok_iff l).1 h).2.2 l[i] (List.getElem_mem hlt)
      omega
    refine ev_neg h0 ?_
    by_cases h1 : rd l (i : Int) > 10000
    · refine ev_pos h1 (ev_const ?_)
      congr 1
      symm
      rw [Bool.eq_false_iff]
      intro h
      have := ((ok_iff l).1 h).2.2 l[i] (List.getElem_mem hlt)
      omega
    refine ev_neg h1 ?_
    have e : wrap64 ((i : Int) + 1) = ((i + 1 : Nat) : Int) := by rw [wrap_id] <;> omega
    rw [e]
    refine ih (i + 1) (by omega) (fun j hj hlt => ?_)
    by_cases hji : j < i
    · exact hb j hj hji
    · obtain rfl : j = i := by omega
      omega
theorem refValid_big (l : List Int) (hl : l.length ≤ 9223372036854775807) : Ev (fun k => dropperref07_Valid.f k l) (ok l) :=
  refValid_l l hl l.length 0 (by omega) (fun _ _ h => by omega)
theorem refValid (l : List Int) (hl : l.length ≤ 4000000000000000000) : Ev (fun k => dropperref07_Valid.f k l) (ok l) := refValid_big l (by omega)

/-! ### SameInts -/
theorem same_l (a b : List Int) (hab : a.length = b.length) (hl : a.length ≤ 4000000000000000000) : ∀ (d i : Nat), i + d = a.length → a.take i = b.take i →
    Ev (fun k => dropperlaw07_SameInts.l0 k a b (i : Int)) (decide (a = b)) := by
  intro d
  induction d with
  | zero =>
    intro i hi hb
    refine Ev.step (fun k => by rw [dropperlaw07_SameInts.l0]) ?_
    refine ev_neg (by omega) (ev_const ?_)
    rw [List.take_of_length_le (by omega), List.take_of_length_le (by omega)] at hb
    simp [hb]
  | succ d ih =>
    intro i hi hb
    refine Ev.step (fun k => by rw [dropperlaw07_SameInts.l0]) ?_
    refine ev_pos (by omega) (ev_pos (by omega) (ev_pos (by omega) ?_))
    rw [rd_eq a i (by omega), rd_eq b i (by omega)]
    by_cases h : a[i]'(by omega) = b[i]'(by omega)
    · refine ev_pos h ?_
      have e : wrap64 ((i : Int) + 1) = ((i + 1 : Nat) : Int) := by rw [wrap_id] <;> omega
      rw [e]
      refine ih (i + 1) (by omega) ?_
      rw [List.take_succ_eq_append_getElem (by omega), List.take_succ_eq_append_getElem (by omega), hb, h]
    · refine ev_neg h (ev_const ?_)
      congr 1
      symm
      rw [decide_eq_false_iff_not]
      rintro rfl
      exact h rfl
theorem same (a b : List Int) (hl : a.length ≤ 4000000000000000000) : Ev (fun k => dropperlaw07_SameInts.f k a b) (decide (a = b)) := by
  unfold dropperlaw07_SameInts.f
  by_cases h : a.length = b.length
  · exact ev_pos (by omega) (same_l a b h hl a.length 0 (by omega) (by simp))
  · refine ev_neg (by omega) (ev_const ?_)
    congr 1
    symm
    rw [decide_eq_false_iff_not]
    rintro rfl
    exact h rfl

/-! ### medians: the windows -/
/-- the reading at a place, the last one beyond the ends -/
def cl (l : List Int) (z : Int) : Int := rd l (mn (mx z 0) (wrap64 ((l.length : Int) - 1)))
def winFrom (l : List Int) (z : Int) (m : Nat) : List Int := (List.range m).map fun j => cl l (z + (j : Nat))
def win (l : List Int) (w i : Nat) : List Int := winFrom l ((i : Int) - (w : Int)) (2 * w + 1)
theorem winFrom_succ (l : List Int) (z : Int) (m : Nat) : winFrom l z (m + 1) = winFrom l z m ++ [cl l (z + (m : Nat))] := by
  simp [winFrom, List.range_succ]
theorem win_len (l : List Int) (w i : Nat) : (win l w i).length = 2 * w + 1 := by simp [win, winFrom]
theorem cl_in {l : List Int} (z : Int) (h : 1 ≤ l.length) (h2 : l.length ≤ 40) : 0 ≤ mn (mx z 0) (wrap64 ((l.length : Int) - 1)) ∧ mn (mx z 0) (wrap64 ((l.length : Int) - 1)) < (l.length : Int) := by
  rw [wrap_id (by omega) (by omega)]
  unfold mn mx
  constructor <;> (repeat split) <;> omega
theorem cl_mem {l : List Int} (z : Int) (h : 1 ≤ l.length) (h2 : l.length ≤ 40) : cl l z ∈ l := by
  obtain ⟨h3, h4⟩ := cl_in z h h2
  unfold cl
  obtain ⟨n, hn⟩ := Int.eq_ofNat_of_zero_le h3
  rw [hn] at h4 ⊢
  rw [rd_eq l n (by omega)]
  exact List.getElem_mem _
def srt (l : List Int) : List Int := l.mergeSort fun x y => decide (x ≤ y)
theorem sort_f (l : List Int) (h : l ≠ []) (h2 : l.length ≤ 1000) : slices_Sort_int_int.f l = some (srt l) := by
  unfold slices_Sort_int_int.f
  rw [if_neg]; · rfl
  intro h3
  rcases h3 with h3 | h3
  · exact h h3
  · omega
/-- the medians: of each window, sorted, the one in the middle -/
def med (l : List Int) (w : Nat) : List Int := (List.range l.length).map fun i => rd (srt (win l w i)) (w : Int)
theorem med_len (l : List Int) (w : Nat) : (med l w).length = l.length := by simp [med]
def medTo (l : List Int) (w i : Nat) : List Int := (List.range i).map fun i => rd (srt (win l w i)) (w : Int)
theorem medTo_succ (l : List Int) (w i : Nat) : medTo l w (i + 1) = medTo l w i ++ [rd (srt (win l w i)) (w : Int)] := by simp [medTo, List.range_succ]

theorem median_l1 {r : List Int} (l : List Int) (w i : Nat) (acc : List Int) (x10 x11 : Int) (h1 : 1 ≤ l.length) (h2 : l.length ≤ 40) (hi : i < l.length) (hw : w ≤ 10) (ha : acc.length ≤ 40)
    (hr : Ev (fun k => wear_median.l0 k l (w : Int) (acc ++ [rd (srt (win l w i)) (w : Int)]) x10 (wrap64 (x11 + 1))) r) :
    ∀ (d j : Nat), j + d = 2 * w + 1 → Ev (fun k => wear_median.l1 k l (w : Int) acc (i : Int) (winFrom l ((i : Int) - (w : Int)) j) ((i : Int) - (w : Int) + (j : Nat)) x10 x11) r := by
  intro d
  induction d with
  | zero =>
    intro j hj
    obtain rfl : j = 2 * w + 1 := by omega
    refine Ev.step (fun k => by rw [wear_median.l1]) ?_
    have hs : wrap64 ((i : Int) + (w : Int)) = (i : Int) + (w : Int) := wrap_id (by omega) (by omega)
    refine ev_neg (by rw [hs]; omega) ?_
    have hne : winFrom l ((i : Int) - (w : Int)) (2 * w + 1) ≠ [] := by simp [winFrom]
    have hlen : (winFrom l ((i : Int) - (w : Int)) (2 * w + 1)).length = 2 * w + 1 := win_len l w i
    rw [sort_f _ hne (by omega)]
    refine ev_some (ev_pos (by omega) (ev_pos (by omega) (ev_pos (by omega) ?_)))
    exact hr
  | succ d ih =>
    intro j hj
    refine Ev.step (fun k => by rw [wear_median.l1]) ?_
    have hs : wrap64 ((i : Int) + (w : Int)) = (i : Int) + (w : Int) := wrap_id (by omega) (by omega)
    have hc := cl_in (l := l) ((i : Int) - (w : Int) + (j : Nat)) h1 h2
    have hlen : (winFrom l ((i : Int) - (w : Int)) j).length = j := by simp [winFrom]
    refine ev_pos (by rw [hs]; omega) (ev_pos hc.1 (ev_pos hc.2 (ev_pos (by omega) ?_)))
    have e : wrap64 ((i : Int) - (w : Int) + (j : Nat) + 1) = (i : Int) - (w : Int) + ((j + 1 : Nat) : Int) := by rw [wrap_id] <;> omega
    rw [e]
    have := ih (j + 1) (by omega)
    rw [winFrom_succ] at this
    exact this
theorem median_l0 (l : List Int) (w : Nat) (h1 : 1 ≤ l.length) (h2 : l.length ≤ 40) (hw : w ≤ 10) : ∀ (d i : Nat), i + d = l.length →
    Ev (fun k => wear_median.l0 k l (w : Int) (medTo l w i) (l.length : Int) (i : Int)) (med l w) := by
  intro d
  induction d with
  | zero =>
    intro i hi
    obtain rfl : i = l.length := by omega
    refine Ev.step (fun k => by rw [wear_median.l0]) ?_
    exact ev_neg (by omega) (ev_const rfl)
  | succ d ih =>
    intro i hi
    refine Ev.step (fun k => by rw [wear_median.l0]) ?_
    refine ev_pos (by omega) ?_
    have e0 : wrap64 ((i : Int) - (w : Int)) = (i : Int) - (w : Int) + ((0 : Nat) : Int) := by rw [wrap_id] <;> omega
    rw [e0]
    have e1 : wrap64 ((i : Int) + 1) = ((i + 1 : Nat) : Int) := by rw [wrap_id] <;> omega
    refine median_l1 l w i (medTo l w i) _ _ h1 h2 (by omega) hw (by simp [medTo]; omega) ?_ (2 * w + 1) 0 (by omega)
    rw [← medTo_succ, e1]
    exact ih (i + 1) (by omega)
theorem median_ev (l : List Int) (w : Nat) (h1 : 1 ≤ l.length) (h2 : l.length ≤ 40) (hw : w ≤ 10) : Ev (fun k => wear_median.f k l (w : Int)) (med l w) :=
  median_l0 l w h1 h2 hw l.length 0 (by omega)

theorem within_f (a b c : Int) : wear_within.f a b c = some (decide (a ≤ b ∧ b ≤ c)) := by
  unfold wear_within.f
  by_cases h : a ≤ b
  · rw [if_pos h]; simp [h]
  · rw [if_neg h]; simp [h]
theorem Median_ev (l : List Int) (w : Int) : Ev (fun k => wear_Median.f k l w) (if ok l = true then (if 0 ≤ w ∧ w ≤ 10 then (med l w.toNat, 0) else ([], 2)) else ([], 70)) := by
  unfold wear_Median.f
  rw [valid_f]
  refine ev_some ?_
  by_cases h : ok l = true
  · have h' := (ok_iff l).1 h
    rw [if_pos h]
    refine ev_pos h ?_
    rw [within_f]
    refine ev_some ?_
    by_cases hw : 0 ≤ w ∧ w ≤ 10
    · rw [if_pos hw]
      refine ev_pos (by simpa using hw) ?_
      obtain ⟨n, rfl⟩ := Int.eq_ofNat_of_zero_le hw.1
      exact Ev.bind (median_ev l n h'.1 h'.2.1 (by omega)) (Ev.now _)
    · rw [if_neg hw]
      exact ev_neg (by simpa using hw) (Ev.now _)
  · rw [if_neg h]
    exact ev_neg h (Ev.now _)

/-! ### the document's middle -/
def cntLt (l : List Int) (x : Int) : Nat := l.countP fun y => decide (y < x)
def cntEq (l : List Int) (x : Int) : Nat := l.countP fun y => decide (y = x)
def isMid (l : List Int) (x : Int) : Bool := decide (cntLt l x ≤ l.length / 2) && decide (l.length / 2 < cntLt l x + cntEq l x)
def mid (l : List Int) : Int := (l.find? (isMid l)).getD 0
theorem countP_take_succ (p : Int → Bool) (l : List Int) (j : Nat) (h : j < l.length) : (l.take (j + 1)).countP p = (l.take j).countP p + (if p l[j] then 1 else 0) := by
  rw [List.take_succ_eq_append_getElem h, List.countP_append]
  simp [List.countP_cons]
theorem middle_l1 {r : Int} (l : List Int) (i : Nat) (hl : l.length ≤ 1000) (hi : i < l.length)
    (hno : isMid l l[i] = false → Ev (fun k => dropperref07_middle.l0 k l (wrap64 ((i : Int) + 1))) r) (hyes : isMid l l[i] = true → r = l[i]) :
    ∀ (d j : Nat), j + d = l.length → Ev (fun k => dropperref07_middle.l1 k l (i : Int) (((l.take j).countP fun y => decide (y < l[i]) : Nat) : Int) (((l.take j).countP fun y => decide (y = l[i]) : Nat) : Int) (j : Int)) r := by
  intro d
  have hrdi := rd_eq l i hi
  induction d with
  | zero =>
    intro j hj
    obtain rfl : j = l.length := by omega
    refine Ev.step (fun k => by rw [dropperref07_middle.l1]) ?_
    rw [List.take_length]
    have b1 : l.countP (fun y => decide (y < l[i])) ≤ l.length := List.countP_le_length
    have b2 : l.countP (fun y => decide (y = l[i])) ≤ l.length := List.countP_le_length
    have e1 : wrap64 ((l.length : Int) / 2) = ((l.length / 2 : Nat) : Int) := by rw [wrap_id] <;> omega
    have e2 : wrap64 (((l.countP fun y => decide (y < l[i]) : Nat) : Int) + ((l.countP fun y => decide (y = l[i]) : Nat) : Int)) = ((cntLt l l[i] + cntEq l l[i] : Nat) : Int) := wrap_plus _ _ (Nat.le_trans b1 (by omega)) (Nat.le_trans b2 (by omega))
    refine ev_neg (by omega) ?_
    rw [e1, e2]
    by_cases c1 : cntLt l l[i] ≤ l.length / 2
    · refine ev_pos (by simp only [cntLt] at c1; omega) ?_
      by_cases c2 : l.length / 2 < cntLt l l[i] + cntEq l l[i]
      · refine ev_pos (by omega) (ev_pos (by omega) (ev_pos (by omega) (ev_const ?_)))
        rw [hrdi, hyes (by simp [isMid, c1, c2])]
      · exact ev_neg (by omega) (hno (by simp [isMid, c2]))
    · exact ev_neg (by simp only [cntLt] at c1; omega) (hno (by simp [isMid, c1]))
  | succ d ih =>
    intro j hj
    have hj' : j < l.length := by omega
    have q1 : (j : Int) < (l.length : Int) := by omega
    have q2 : 0 ≤ (j : Int) := by omega
    have q3 : 0 ≤ (i : Int) := by omega
    have q4 : (i : Int) < (l.length : Int) := by omega
    refine Ev.step (fun k => by rw [dropperref07_middle.l1]) ?_
    refine ev_pos q1 (ev_pos q2 (ev_pos q3 (ev_pos q4 ?_)))
    have hrdj := rd_eq l j hj'
    have hrec := ih (j + 1) (by omega)
    have b1 : (l.take j).countP (fun y => decide (y < l[i])) ≤ j := Nat.le_trans List.countP_le_length (by simp; omega)
    have b2 : (l.take j).countP (fun y => decide (y = l[i])) ≤ j := Nat.le_trans List.countP_le_length (by simp; omega)
    rw [countP_take_succ _ _ _ hj', countP_take_succ _ _ _ hj'] at hrec
    have w1 : wrap64 (((List.countP (fun y => decide (y < l[i])) (l.take j) : Nat) : Int) + 1) = ((List.countP (fun y => decide (y < l[i])) (l.take j) + 1 : Nat) : Int) := wrap_succ _ (Nat.le_trans b1 (by omega))
    have w2 : wrap64 (((List.countP (fun y => decide (y = l[i])) (l.take j) : Nat) : Int) + 1) = ((List.countP (fun y => decide (y = l[i])) (l.take j) + 1 : Nat) : Int) := wrap_succ _ (Nat.le_trans b2 (by omega))
    have w3 : wrap64 ((j : Int) + 1) = ((j + 1 : Nat) : Int) := by rw [wrap_id] <;> omega
    rw [hrdi, hrdj, w1, w2, w3]
    by_cases c1 : l[j] < l[i]
    · have c2 : ¬ l[j] = l[i] := by omega
      refine ev_pos c1 (ev_neg c2 ?_)
      simp only [c1, c2, decide_true, decide_false, if_true, Bool.false_eq_true, if_false, Nat.add_zero] at hrec
      exact hrec
    · by_cases c2 : l[j] = l[i]
      · refine ev_neg c1 (ev_pos c2 ?_)
        simp only [c1, c2, decide_true, decide_false, if_true, Bool.false_eq_true, if_false, Nat.add_zero] at hrec
        have c3 : ¬ l[i] < l[i] := by omega
        simp only [c3, decide_false, Bool.false_eq_true, if_false, Nat.add_zero] at hrec
        exact hrec
      · refine ev_neg c1 (ev_neg c2 ?_)
        simp only [c1, c2, decide_false, Bool.false_eq_true, if_false, Nat.add_zero] at hrec
        exact hrec
theorem middle_l0 (l : List Int) (hl : l.length ≤ 1000) : ∀ (d i : Nat), i + d = l.length → (∀ j (h : j < l.length), j < i → isMid l l[j] = false) →
    Ev (fun k => dropperref07_middle.l0 k l (i : Int)) (mid l) := by
  intro d
  induction d with
  | zero =>
    intro i hi hb
    refine Ev.step (fun k => by rw [dropperref07_middle.l0]) ?_
    refine ev_neg (by omega) (ev_const ?_)
    have : l.find? (isMid l) = none := by
      rw [List.find?_eq_none]
      intro x hx
      obtain ⟨j, hj, rfl⟩ := List.mem_iff_getElem.1 hx
      simp [hb j hj (by omega)]
    simp [mid, this]
  | succ d ih =>
    intro i hi hb
    have hi' : i < l.length := by omega
    refine Ev.step (fun k => by rw [dropperref07_middle.l0]) ?_
    refine ev_pos (by omega) ?_
    have w3 : wrap64 ((i : Int) + 1) = ((i + 1 : Nat) : Int) := by rw [wrap_id] <;> omega
    refine middle_l1 l i hl hi' (fun hno => ?_) (fun hyes => ?_) l.length 0 (by omega)
    · rw [w3]
      refine ih (i + 1) (by omega) (fun j hj hlt => ?_)
      by_cases hji : j < i
      · exact hb j hj hji
      · obtain rfl : j = i := by omega
        exact hno
    · have : l.find? (isMid l) = some l[i] := by
        rw [List.find?_eq_some_iff_getElem]
        exact ⟨hyes, i, hi', rfl, fun j hj => by simp [hb j (by omega) hj]⟩
      simp [mid, this]
theorem middle_ev (l : List Int) (hl : l.length ≤ 1000) : Ev (fun k => dropperref07_middle.f k l) (mid l) :=
  middle_l0 l hl l.length 0 (by omega) (fun _ _ h => by omega)
/-! ### the document's medians -/
def medR (l : List Int) (w : Nat) : List Int := (List.range l.length).map fun i => mid (win l w i)
def medRTo (l : List Int) (w i : Nat) : List Int := (List.range i).map fun i => mid (win l w i)
theorem medRTo_succ (l : List Int) (w i : Nat) : medRTo l w (i + 1) = medRTo l w i ++ [mid (win l w i)] := by simp [medRTo, List.range_succ]
theorem rmedian_l1 {r : List Int} (l : List Int) (w i : Nat) (acc : List Int) (h1 : 1 ≤ l.length) (h2 : l.length ≤ 40) (hi : i < l.length) (hw : w ≤ 10) (ha : acc.length ≤ 40)
    (hr : Ev (fun k => dropperref07_median.l0 k l (w : Int) (acc ++ [mid (win l w i)]) (wrap64 ((i : Int) + 1))) r) :
    ∀ (d j : Nat), j + d = 2 * w + 1 → Ev (fun k => dropperref07_median.l1 k l (w : Int) acc (i : Int) (winFrom l ((i : Int) - (w : Int)) j) ((i : Int) - (w : Int) + (j : Nat))) r := by
  intro d
  induction d with
  | zero =>
    intro j hj
    obtain rfl : j = 2 * w + 1 := by omega
    refine Ev.step (fun k => by rw [dropperref07_median.l1]) ?_
    have hs : wrap64 ((i : Int) + (w : Int)) = (i : Int) + (w : Int) := wrap_id (by omega) (by omega)
    refine ev_neg (by rw [hs]; omega) ?_
    have hlen : (winFrom l ((i : Int) - (w : Int)) (2 * w + 1)).length = 2 * w + 1 := win_len l w i
    exact Ev.bind (middle_ev (winFrom l ((i : Int) - (w : Int)) (2 * w + 1)) (by omega)) (ev_pos (by omega) hr)
  | succ d ih =>
    intro j hj
    refine Ev.step (fun k => by rw [dropperref07_median.l1]) ?_
    have hs : wrap64 ((i : Int) + (w : Int)) = (i : Int) + (w : Int) := wrap_id (by omega) (by omega)
    have hc := cl_in (l := l) ((i : Int) - (w : Int) + (j : Nat)) h1 h2
    have hlen : (winFrom l ((i : Int) - (w : Int)) j).length = j := by simp [winFrom]
    refine ev_pos (by rw [hs]; omega) (ev_pos hc.1 (ev_pos hc.2 (ev_pos (by omega) ?_)))
    have e : wrap64 ((i : Int) - (w : Int) + (j : Nat) + 1) = (i : Int) - (w : Int) + ((j + 1 : Nat) : Int) := by rw [wrap_id] <;> omega
    rw [e]
    have := ih (j + 1) (by omega)
    rw [winFrom_succ] at this
    exact this
theorem rmedian_l0 (l : List Int) (w : Nat) (h1 : 1 ≤ l.length) (h2 : l.length ≤ 40) (hw : w ≤ 10) : ∀ (d i : Nat), i + d = l.length →
    Ev (fun k => dropperref07_median.l0 k l (w : Int) (medRTo l w i) (i : Int)) (medR l w) := by
  intro d
  induction d with
  | zero =>
    intro i hi
    obtain rfl : i = l.length := by omega
    refine Ev.step (fun k => by rw [dropperref07_median.l0]) ?_
    exact ev_neg (by omega) (ev_const rfl)
  | succ d ih =>
    intro i hi
    refine Ev.step (fun k => by rw [dropperref07_median.l0]) ?_
    refine ev_pos (by omega) ?_
    have e0 : wrap64 ((i : Int) - (w : Int)) = (i : Int) - (w : Int) + ((0 : Nat) : Int) := by rw [wrap_id] <;> omega
    rw [e0]
    refine rmedian_l1 l w i (medRTo l w i) h1 h2 (by omega) hw (by simp [medRTo]; omega) ?_ (2 * w + 1) 0 (by omega)
    rw [← medRTo_succ, wrap_succ _ (by omega)]
    exact ih (i + 1) (by omega)
theorem rmedian_ev (l : List Int) (w : Nat) (h1 : 1 ≤ l.length) (h2 : l.length ≤ 40) (hw : w ≤ 10) : Ev (fun k => dropperref07_median.f k l (w : Int)) (medR l w) :=
  rmedian_l0 l w h1 h2 hw l.length 0 (by omega)

/-! ### the middle of a sorted row -/
theorem srt_perm (l : List Int) : (srt l).Perm l := List.mergeSort_perm _ _
theorem srt_len (l : List Int) : (srt l).length = l.length := (srt_perm l).length_eq
theorem srt_sorted (l : List Int) : (srt l).Pairwise (· ≤ ·) := by
  have h := List.pairwise_mergeSort (le := fun x y : Int => decide (x ≤ y)) (fun a b c h1 h2 => by simp at *; omega) (fun a b => by simp; omega) l
  exact h.imp (fun h => by simpa using h)
/-- In a sorted row: how many are less than what stands at a place. -/
theorem sorted_count (x : Int) : ∀ (s : List Int), s.Pairwise (· ≤ ·) → ∀ j (h : j < s.length), (s[j] < x ↔ j < s.countP fun y => decide (y < x)) ∧ (s[j] ≤ x ↔ j < s.countP fun y => decide (y ≤ x)) := by
  intro s
  induction s with
  | nil => intro _ j h; simp at h
  | cons a s ih =>
    intro hs j h
    rw [List.pairwise_cons] at hs
    have key1 : ¬ a < x → s.countP (fun y => decide (y < x)) = 0 := by
      intro hax
      rw [List.countP_eq_zero]
      intro y hy
      have := hs.1 y hy
      simp; omega
    have key2 : ¬ a ≤ x → s.countP (fun y => decide (y ≤ x)) = 0 := by
      intro hax
      rw [List.countP_eq_zero]
      intro y hy
      have := hs.1 y hy
      simp; omega
    cases j with
    | zero =>
      simp only [List.getElem_cons_zero, List.countP_cons, decide_eq_true_eq]
      constructor
      · by_cases c : a < x
        · simp [c]
        · simp [c, key1 c]
      · by_cases c : a ≤ x
        · simp [c]
        · simp [c, key2 c]
    | succ j =>
      have hj : j < s.length := by simpa using h
      obtain ⟨i1, i2⟩ := ih hs.2 j hj
      have hm := hs.1 s[j] (List.getElem_mem hj)
      simp only [List.getElem_cons_succ, List.countP_cons, decide_eq_true_eq]
      constructor
      · by_cases c : a < x
        · simp [c, i1]
        · simp only [c, if_false, Nat.add_zero, key1 c]
          constructor
          · intro h2; omega
          · intro h2; omega
      · by_cases c : a ≤ x
        · simp [c, i2]
        · simp only [c, if_false, Nat.add_zero, key2 c]
          constructor
          · intro h2; omega
          · intro h2; omega
theorem count_le_split (l : List Int) (x : Int) : (l.countP fun y => decide (y ≤ x)) = cntLt l x + cntEq l x := by
  unfold cntLt cntEq
  induction l with
  | nil => rfl
  | cons a l ih =>
    simp only [List.countP_cons, decide_eq_true_eq, ih]
    rcases Int.lt_trichotomy a x with h | h | h
    · have h1 : a ≤ x := by omega
      have h2 : ¬ a = x := by omega
      simp only [h, h1, h2, if_true, if_false]; omega
    · subst h; simp only [Int.le_refl, Int.lt_irrefl, if_true, if_false]; omega
    · have h1 : ¬ a ≤ x := by omega
      have h2 : ¬ a = x := by omega
      have h3 : ¬ a < x := by omega
      simp only [h1, h2, h3, if_false]; omega
theorem isMid_iff (l : List Int) (x : Int) (hl : 0 < l.length) : isMid l x = true ↔ (srt l)[l.length / 2]'(by rw [srt_len]; omega) = x := by
  have hj : l.length / 2 < (srt l).length := by rw [srt_len]; omega
  obtain ⟨h1, h2⟩ := sorted_count x (srt l) (srt_sorted l) (l.length / 2) hj
  have e1 : (srt l).countP (fun y => decide (y < x)) = cntLt l x := (srt_perm l).countP_eq _
  have e2 : (srt l).countP (fun y => decide (y ≤ x)) = cntLt l x + cntEq l x := ((srt_perm l).countP_eq _).trans (count_le_split l x)
  rw [e1] at h1
  rw [e2] at h2
  simp only [isMid, Bool.and_eq_true, decide_eq_true_eq]
  constructor
  · rintro ⟨a, b⟩
    have c1 := h2.2 b
    have c2 : ¬ (srt l)[l.length / 2] < x := fun h => by have := h1.1 h; omega
    omega
  · intro h
    have c1 := h2.1 (by omega)
    have c2 : ¬ l.length / 2 < cntLt l x := fun hh => by have := h1.2 hh; omega
    exact ⟨by omega, c1⟩
theorem mid_eq (l : List Int) (hl : 0 < l.length) : mid l = rd (srt l) ((l.length / 2 : Nat) : Int) := by
  have hj : l.length / 2 < (srt l).length := by rw [srt_len]; omega
  rw [rd_eq _ _ hj]
  have hm : (srt l)[l.length / 2] ∈ l := (srt_perm l).mem_iff.1 (List.getElem_mem hj)
  unfold mid
  cases hf : l.find? (isMid l) with
  | none =>
    rw [List.find?_eq_none] at hf
    exact absurd ((isMid_iff l _ hl).2 rfl) (hf _ hm)
  | some x =>
    have := List.find?_some hf
    rw [isMid_iff l x hl] at this
    simp [this]
theorem med_eq (l : List Int) (w : Nat) : medR l w = med l w := by
  unfold medR med
  apply List.map_congr_left
  intro i _
  rw [mid_eq _ (by rw [win_len]; omega), win_len]
  congr 2
  omega

theorem asked_ev (l : List Int) (w : Int) (hl : l.length ≤ 4000000000000000000) : Ev (fun k => dropperref07_asked.f k l w) (if ok l = true then (if 0 ≤ w ∧ w ≤ 10 then 0 else 2) else 70) := by
  unfold dropperref07_asked.f
  refine Ev.bind (refValid l hl) ?_
  by_cases h : ok l = true
  · refine ev_pos h ?_
    rw [if_pos h]
    by_cases h1 : w < 0
    · have e : (if 0 ≤ w ∧ w ≤ 10 then (0 : Int) else 2) = 2 := if_neg (by omega)
      rw [e]; exact ev_pos h1 (Ev.now _)
    · refine ev_neg h1 ?_
      by_cases h2 : w > 10
      · have e : (if 0 ≤ w ∧ w ≤ 10 then (0 : Int) else 2) = 2 := if_neg (by omega)
        rw [e]; exact ev_pos h2 (Ev.now _)
      · have e : (if 0 ≤ w ∧ w ≤ 10 then (0 : Int) else 2) = 0 := if_pos (by omega)
        rw [e]; exact ev_neg h2 (Ev.now _)
  · refine ev_neg h ?_
    rw [if_neg h]
    exact Ev.now _
theorem RMedian_ev (l : List Int) (w : Int) (hl : l.length ≤ 4000000000000000000) : Ev (fun k => dropperref07_Median.f k l w) (if ok l = true then (if 0 ≤ w ∧ w ≤ 10 then (med l w.toNat, 0) else ([], 2)) else ([], 70)) := by
  unfold dropperref07_Median.f
  refine Ev.bind (asked_ev l w hl) ?_
  by_cases h : ok l = true
  · have h' := (ok_iff l).1 h
    rw [if_pos h, if_pos h]
    by_cases hw : 0 ≤ w ∧ w ≤ 10
    · rw [if_pos hw, if_pos hw]
      refine ev_pos rfl ?_
      obtain ⟨n, rfl⟩ := Int.eq_ofNat_of_zero_le hw.1
      have := rmedian_ev l n h'.1 h'.2.1 (by omega)
      rw [med_eq] at this
      exact Ev.bind this (Ev.now _)
    · rw [if_neg hw, if_neg hw]
      exact ev_neg (by decide) (Ev.now _)
  · rw [if_neg h, if_neg h]
    exact ev_neg (by decide) (Ev.now _)

/-! ### the examples -/
theorem first_near : wear_Nearest.f 60 [1, 3, 2, 4] = some ([⟨1, 1⟩, ⟨5, 2⟩, ⟨5, 2⟩, ⟨4, 1⟩], 0) := by kernel_rfl
theorem first_med : med [1, 9, 2, 3] 1 = [1, 2, 3, 3] := by rw [← med_eq]; decide +kernel
theorem first_same : dropperlaw07_SameRatios.f 60 [⟨1, 1⟩, ⟨5, 2⟩, ⟨5, 2⟩, ⟨4, 1⟩] [⟨1, 1⟩, ⟨5, 2⟩, ⟨5, 2⟩, ⟨4, 1⟩] = some true := by kernel_rfl
theorem first_ev : Ev (fun k => dropperlaw07_First.f k) true := by
  unfold dropperlaw07_First.f
  refine Ev.bind (Ev.of (wear_Nearest.mono _) first_near) ?_
  have h1 := Median_ev [1, 9, 2, 3] 1
  rw [if_pos (by decide), if_pos (by decide)] at h1
  have h2 : med [1, 9, 2, 3] (1 : Int).toNat = [1, 2, 3, 3] := first_med
  rw [h2] at h1
  refine Ev.bind h1 ?_
  refine ev_pos rfl (ev_pos rfl ?_)
  refine Ev.bind (Ev.of (dropperlaw07_SameRatios.mono _ _) first_same) (ev_pos rfl ?_)
  exact Ev.bind (same [1, 2, 3, 3] [1, 2, 3, 3] (by decide)) (Ev.now _)
end Go.Proofs.Ytpdcpekjafcohaa.Plain

namespace Go.Proofs.Ytpdcpekjafcohaa.Plain
set_option linter.unusedVariables false
set_option linter.unusedSimpArgs false
open Go.RowKit Go.Proofs.Ytpdcpekjafcohaa.XWear Go.Proofs.YtpdcpekjafcohaaW.PrintWords Go.Proofs.YtpdcpekjafcohaaW.PrintLast Go.Proofs.YtpdcpekjafcohaaW.PrintMore

/-! ### fractions in lowest terms -/
def R (n d : Int) : Int × Int := (n / (Int.gcd n d : Int), d / (Int.gcd n d : Int))
theorem gcd_pos {n d : Int} (hd : 0 < d) : 0 < (Int.gcd n d : Int) := by
  have : Int.gcd n d ≠ 0 := fun h => by have := (Int.gcd_eq_zero_iff.1 h).2; omega
  omega
theorem R_mul {n d : Int} (hd : 0 < d) : n = (Int.gcd n d : Int) * (R n d).1 ∧ d = (Int.gcd n d : Int) * (R n d).2 :=
  ⟨(Int.mul_ediv_cancel' (Int.gcd_dvd_left n d)).symm, (Int.mul_ediv_cancel' (Int.gcd_dvd_right n d)).symm⟩
theorem R_pos {n d : Int} (hd : 0 < d) : 0 < (R n d).2 := by
  have h := (R_mul (n := n) hd).2
  have g := gcd_pos (n := n) hd
  rcases Int.lt_trichotomy 0 (R n d).2 with h1 | h1 | h1
  · exact h1
  · rw [← h1] at h; omega
  · have := Int.mul_neg_of_pos_of_neg g h1
    omega
theorem R_nonneg {n d : Int} (hn : 0 ≤ n) (hd : 0 < d) : 0 ≤ (R n d).1 := Int.ediv_nonneg hn (by have := gcd_pos (n := n) hd; omega)
theorem R_le {n d : Int} (hn : 0 ≤ n) (hd : 0 < d) : (R n d).1 ≤ n ∧ (R n d).2 ≤ d := by
  have g := gcd_pos (n := n) hd
  exact ⟨Int.ediv_le_self _ hn, Int.ediv_le_self _ (by omega)⟩
/-- the order of the lowest terms is that of the fractions -/
theorem R_cmp {n d m e : Int} (hd : 0 < d) (he : 0 < e) : ((R n d).1 * (R m e).2 < (R m e).1 * (R n d).2 ↔ n * e < m * d) := by
  have g1 := gcd_pos (n := n) hd
  have g2 := gcd_pos (n := m) he
  obtain ⟨a1, a2⟩ := R_mul (n := n) hd
  obtain ⟨b1, b2⟩ := R_mul (n := m) he
  generalize (Int.gcd n d : Int) = g at *
  generalize (Int.gcd m e : Int) = k at *
  generalize (R n d).1 = p at *
  generalize (R n d).2 = q at *
  generalize (R m e).1 = p' at *
  generalize (R m e).2 = q' at *
  subst a1 a2 b1 b2
  have hgk : 0 < g * k := Int.mul_pos g1 g2
  have e1 : g * p * (k * q') = g * k * (p * q') := by grind
  have e2 : k * p' * (g * q) = g * k * (p' * q) := by grind
  rw [e1, e2]
  exact ⟨fun h => Int.mul_lt_mul_of_pos_left h hgk, fun h => Int.lt_of_mul_lt_mul_left h (by omega)⟩
theorem R_eq {n d m e : Int} (hn : 0 ≤ n) (hd : 0 < d) (hm : 0 ≤ m) (he : 0 < e) (h : n * e = m * d) : R n d = R m e := by
  have g1 := gcd_pos (n := n) hd
  have g2 := gcd_pos (n := m) he
  obtain ⟨a1, a2⟩ := R_mul (n := n) hd
  obtain ⟨b1, b2⟩ := R_mul (n := m) he
  have c1 : Int.gcd (R n d).1 (R n d).2 = 1 := Int.gcd_ediv_gcd_ediv_gcd (by omega)
  have c2 : Int.gcd (R m e).1 (R m e).2 = 1 := Int.gcd_ediv_gcd_ediv_gcd (by omega)
  have p1 := R_nonneg hn hd
  have p2 := R_nonneg hm he
  have q1 := R_pos (n := n) hd
  have q2 := R_pos (n := m) he
  have key : (R n d).1 * (R m e).2 = (R m e).1 * (R n d).2 := by
    generalize (Int.gcd n d : Int) = g at *
    generalize (Int.gcd m e : Int) = k at *
    generalize (R n d).1 = p at *
    generalize (R n d).2 = q at *
    generalize (R m e).1 = p' at *
    generalize (R m e).2 = q' at *
    subst a1 a2 b1 b2
    have hgk : g * k ≠ 0 := Int.mul_ne_zero (by omega) (by omega)
    apply Int.eq_of_mul_eq_mul_left hgk
    grind
  clear a1 a2 b1 b2
  have : (R n d).1 = (R m e).1 ∧ (R n d).2 = (R m e).2 := by
    generalize (R n d).1 = p at *
    generalize (R n d).2 = q at *
    generalize (R m e).1 = p' at *
    generalize (R m e).2 = q' at *
    obtain ⟨p, rfl⟩ := Int.eq_ofNat_of_zero_le p1
    obtain ⟨p', rfl⟩ := Int.eq_ofNat_of_zero_le p2
    obtain ⟨q, rfl⟩ := Int.eq_ofNat_of_zero_le (Int.le_of_lt q1)
    obtain ⟨q', rfl⟩ := Int.eq_ofNat_of_zero_le (Int.le_of_lt q2)
    have k1 : p * q' = p' * q := by exact_mod_cast key
    have c1' : Nat.Coprime p q := c1
    have c2' : Nat.Coprime p' q' := c2
    have d1 : q ∣ q' := (c1'.symm).dvd_of_dvd_mul_left (show q ∣ p * q' from ⟨p', by rw [k1, Nat.mul_comm]⟩)
    have d2 : q' ∣ q := (c2'.symm).dvd_of_dvd_mul_left (show q' ∣ p' * q from ⟨p, by rw [← k1, Nat.mul_comm]⟩)
    have hq : q = q' := Nat.dvd_antisymm d1 d2
    subst hq
    have : p = p' := Nat.eq_of_mul_eq_mul_right (by omega) k1
    exact ⟨by rw [this], rfl⟩
  exact Prod.ext this.1 this.2

/-! ### the program's fractions -/
theorem gcd_ev : ∀ (b a : Nat), a ≤ 4000000000000000000 → b ≤ 4000000000000000000 → Ev (fun k => wear_gcd.l0 k (a : Int) (b : Int)) (Int.gcd a b : Int) := by
  intro b
  induction b using Nat.strongRecOn with
  | _ b ih =>
    intro a ha hb
    refine Ev.step (fun k => by rw [wear_gcd.l0]) ?_
    by_cases h : b = 0
    · subst h
      refine ev_pos rfl (ev_const ?_)
      have e : wrap64 (-(a : Int)) = -(a : Int) := wrap_id (by omega) (by omega)
      rw [e]
      have : mx (a : Int) (-(a : Int)) = (a : Int) := by unfold mx; split <;> omega
      rw [this]; simp
    · refine ev_neg (by omega) ?_
      have hlt : a % b < b := Nat.mod_lt _ (by omega)
      have e : Int.tmod (a : Int) (b : Int) = ((a % b : Nat) : Int) := by
        rw [Int.tmod_eq_emod_of_nonneg (by omega)]; rfl
      rw [e]
      have := ih (a % b) hlt b hb (by omega)
      have e2 : Int.gcd (b : Int) ((a % b : Nat) : Int) = Int.gcd (a : Int) (b : Int) := by
        show Nat.gcd b (a % b) = Nat.gcd a b
        rw [Nat.gcd_comm b, ← Nat.gcd_rec, Nat.gcd_comm]
      rw [e2] at this
      exact this
theorem R_fits {n d : Int} (hn : 0 ≤ n) (hd : 0 < d) (hn2 : n ≤ 4000000000000000000) (hd2 : d ≤ 4000000000000000000) :
    wrap64 (Int.tdiv n (Int.gcd n d : Int)) = (R n d).1 ∧ wrap64 (Int.tdiv d (Int.gcd n d : Int)) = (R n d).2 := by
  have h1 := R_le hn hd
  have h2 := R_nonneg hn hd
  have h3 := R_pos (n := n) hd
  have e1 : Int.tdiv n (Int.gcd n d : Int) = (R n d).1 := Int.tdiv_eq_ediv_of_nonneg hn
  have e2 : Int.tdiv d (Int.gcd n d : Int) = (R n d).2 := Int.tdiv_eq_ediv_of_nonneg (by omega)
  rw [e1, e2]
  exact ⟨wrap_id (by omega) (by omega), wrap_id (by omega) (by omega)⟩
theorem ratio_ev {n d : Int} (hn : 0 ≤ n) (hd : 0 < d) (hn2 : n ≤ 4000000000000000000) (hd2 : d ≤ 4000000000000000000) : Ev (fun k => wear_ratio.f k n d) (R n d) := by
  obtain ⟨e1, e2⟩ := R_fits hn hd hn2 hd2
  have g := gcd_pos (n := n) hd
  have hg : Ev (fun k => wear_gcd.f k n d) (Int.gcd n d : Int) := by
    obtain ⟨n', rfl⟩ := Int.eq_ofNat_of_zero_le hn
    obtain ⟨d', rfl⟩ := Int.eq_ofNat_of_zero_le (Int.le_of_lt hd)
    exact gcd_ev d' n' (by omega) (by omega)
  unfold wear_ratio.f
  refine Ev.bind hg (ev_neg (by omega) (ev_const ?_))
  rw [e1, e2]
/-! ### sums -/
def pre (r : List Int) : Nat → Int
  | 0 => 0
  | i + 1 => pre r i + rd r (i : Int)
theorem rd_bound {r : List Int} (hv : ∀ x ∈ r, 0 ≤ x ∧ x ≤ 10000) (i : Nat) : 0 ≤ rd r (i : Int) ∧ rd r (i : Int) ≤ 10000 := by
  by_cases h : i < r.length
  · rw [rd_eq r i h]; exact hv _ (List.getElem_mem h)
  · have : rd r (i : Int) = 0 := by simp [rd, List.getD_eq_getElem?_getD, List.getElem?_eq_none (show r.length ≤ i by omega)]
    omega
theorem pre_bound {r : List Int} (hv : ∀ x ∈ r, 0 ≤ x ∧ x ≤ 10000) (a : Nat) : ∀ d : Nat, 0 ≤ pre r (a + d) - pre r a ∧ pre r (a + d) - pre r a ≤ 10000 * d := by
  intro d
  induction d with
  | zero => simp
  | succ d ih =>
    have := rd_bound hv (a + d)
    show 0 ≤ pre r (a + d) + rd r ((a + d : Nat) : Int) - pre r a ∧ _
    have e : pre r (a + (d + 1)) = pre r (a + d) + rd r ((a + d : Nat) : Int) := rfl
    rw [e]
    omega
def sm (r : List Int) (a c : Nat) : Int := pre r (a + c) - pre r a
theorem sm_bound {r : List Int} (hv : ∀ x ∈ r, 0 ≤ x ∧ x ≤ 10000) (a c : Nat) : 0 ≤ sm r a c ∧ sm r a c ≤ 10000 * c := pre_bound hv a c
theorem sm_one (r : List Int) (a : Nat) : sm r a 1 = rd r (a : Int) := by
  have : pre r (a + 1) = pre r a + rd r (a : Int) := rfl
  unfold sm; omega
theorem sm_add (r : List Int) (a c d : Nat) : sm r a (c + d) = sm r a c + sm r (a + c) d := by
  unfold sm; rw [← Nat.add_assoc]; omega

/-! ### blocks: a row of them, one behind the other -/
structure Blk where
  f : Nat
  c : Nat
/-- the mean of each beginning is not less than that of the block -/
def Okb (r : List Int) (b : Blk) : Prop := 1 ≤ b.c ∧ ∀ x, x ≤ b.c → sm r b.f b.c * x ≤ sm r b.f x * b.c
def Lt (r : List Int) (a b : Blk) : Prop := sm r a.f a.c * b.c < sm r b.f b.c * a.c
def Chain (r : List Int) : Nat → List Blk → Nat → Prop
  | f, [], n => f = n
  | f, b :: l, n => b.f = f ∧ Okb r b ∧ Chain r (f + b.c) l n
theorem chain_append (r : List Int) (l1 l2 : List Blk) : ∀ f n, Chain r f (l1 ++ l2) n ↔ ∃ m, Chain r f l1 m ∧ Chain r m l2 n := by
  induction l1 with
  | nil => intro f n; simp [Chain]
  | cons b l1 ih =>
    intro f n
    simp only [List.cons_append, Chain, ih]
    constructor
    · rintro ⟨a, b, m, c, d⟩; exact ⟨m, ⟨a, b, c⟩, d⟩
    · rintro ⟨m, ⟨a, b, c⟩, d⟩; exact ⟨a, b, m, c, d⟩
theorem chain_le (r : List Int) (l : List Blk) : ∀ f n, Chain r f l n → f + l.length ≤ n := by
  induction l with
  | nil => intro f n h; have : f = n := h; simp; omega
  | cons b l ih =>
    intro f n h
    have h1 := ih _ _ h.2.2
    have h2 := h.2.1.1
    simp; omega
theorem okb_one (r : List Int) (f : Nat) : Okb r ⟨f, 1⟩ := by
  refine ⟨Nat.le_refl _, fun x hx => ?_⟩
  have hx' : x ≤ 1 := hx
  rcases (show x = 0 ∨ x = 1 by omega) with rfl | rfl
  · show sm r f 1 * ((0 : Nat) : Int) ≤ sm r f 0 * ((1 : Nat) : Int)
    have : sm r f 0 = 0 := by simp [sm]
    rw [this]; simp
  · exact Int.le_refl _
/-- two blocks become one, if the first one's mean is not less -/
theorem okb_merge (r : List Int) (f c d : Nat) (h1 : Okb r ⟨f, c⟩) (h2 : Okb r ⟨f + c, d⟩) (h : sm r (f + c) d * c ≤ sm r f c * d) : Okb r ⟨f, c + d⟩ := by
  obtain ⟨a1, a2⟩ := h1
  obtain ⟨b1, b2⟩ := h2
  simp only at a1 a2 b1 b2
  refine ⟨by simp only; omega, fun x hx => ?_⟩
  simp only at hx ⊢
  rw [sm_add]
  generalize hs : sm r f c = s at *
  generalize ht : sm r (f + c) d = t at *
  have hcd : ((c + d : Nat) : Int) = (c : Int) + (d : Int) := by omega
  rw [hcd]
  have hc0 : (0 : Int) < (c : Int) := by omega
  have hd0 : (0 : Int) < (d : Int) := by omega
  by_cases hxc : x ≤ c
  · have h3 := a2 x hxc
    have hx0 : (0 : Int) ≤ (x : Int) := by omega
    generalize sm r f x = P at *
    generalize (c : Int) = C at *
    generalize (d : Int) = D at *
    generalize (x : Int) = X at *
    -- (s + t) X ≤ P (C + D): times C
    apply Int.le_of_mul_le_mul_left (a := C) _ hc0
    have k1 : s * X * (C + D) ≤ P * C * (C + D) := Int.mul_le_mul_of_nonneg_right h3 (by omega)
    have k2 : t * C * X ≤ s * D * X := Int.mul_le_mul_of_nonneg_right h hx0
    grind
  · obtain ⟨y, rfl⟩ : ∃ y, x = c + y := ⟨x - c, by omega⟩
    have h3 := b2 y (by omega)
    have hy : y ≤ d := by omega
    rw [sm_add, hs]
    have hcy : ((c + y : Nat) : Int) = (c : Int) + (y : Int) := by omega
    rw [hcy]
    have hy0 : (0 : Int) ≤ (d : Int) - (y : Int) := by omega
    generalize sm r (f + c) y = Q at *
    generalize (c : Int) = C at *
    generalize (d : Int) = D at *
    generalize (y : Int) = Y at *
    apply Int.le_of_mul_le_mul_left (a := D) _ hd0
    have k1 : t * Y * (C + D) ≤ Q * D * (C + D) := Int.mul_le_mul_of_nonneg_right h3 (by omega)
    have k2 : t * C * (D - Y) ≤ s * D * (D - Y) := Int.mul_le_mul_of_nonneg_right h hy0
    grind

/-! ### a line under the sums -/
def phi (r : List Int) (s q : Int) (x : Nat) : Int := q * pre r x - s * x
theorem phi_right (r : List Int) (s q : Int) (hq : 0 < q) (l : List Blk) : ∀ f n, Chain r f l n → (∀ b ∈ l, s * b.c ≤ sm r b.f b.c * q) → ∀ x, f ≤ x → x ≤ n → phi r s q f ≤ phi r s q x := by
  induction l with
  | nil =>
    intro f n h _ x h1 h2
    have : f = n := h
    obtain rfl : x = f := by omega
    exact Int.le_refl _
  | cons b l ih =>
    intro f n h hb x h1 h2
    obtain ⟨rfl, hok, hc⟩ := h
    have hs := hb b (by simp)
    have hin : ∀ y, y ≤ b.c → phi r s q b.f ≤ phi r s q (b.f + y) := by
      intro y hy
      have h3 := hok.2 y hy
      have hc0 : (0 : Int) < (b.c : Int) := by have := hok.1; omega
      have hy0 : (0 : Int) ≤ (y : Int) := by omega
      have e : phi r s q (b.f + y) = phi r s q b.f + (q * sm r b.f y - s * y) := by
        unfold phi sm
        have : ((b.f + y : Nat) : Int) = (b.f : Int) + (y : Int) := by omega
        rw [this]; grind
      rw [e]
      have : 0 ≤ q * sm r b.f y - s * y := by
        generalize sm r b.f y = P at *
        generalize sm r b.f b.c = S at *
        generalize (b.c : Int) = C at *
        generalize (y : Int) = Y at *
        apply Int.le_of_mul_le_mul_left (a := C) _ hc0
        have k1 : S * Y * q ≤ P * C * q := Int.mul_le_mul_of_nonneg_right h3 (by omega)
        have k2 : s * C * Y ≤ S * q * Y := Int.mul_le_mul_of_nonneg_right hs hy0
        grind
      omega
    by_cases hx : x ≤ b.f + b.c
    · obtain ⟨y, rfl⟩ : ∃ y, x = b.f + y := ⟨x - b.f, by omega⟩
      exact hin y (by omega)
    · have h4 := ih _ _ hc (fun b' hb' => hb b' (List.mem_cons_of_mem _ hb')) x (by omega) h2
      have h5 := hin b.c (Nat.le_refl _)
      omega
theorem phi_left (r : List Int) (s q : Int) (hq : 0 < q) (l : List Blk) : ∀ f n, Chain r f l n → (∀ b ∈ l, sm r b.f b.c * q ≤ s * b.c) → ∀ x, f ≤ x → x ≤ n → phi r s q n ≤ phi r s q x := by
  induction l with
  | nil =>
    intro f n h _ x h1 h2
    have : f = n := h
    obtain rfl : x = n := by omega
    exact Int.le_refl _
  | cons b l ih =>
    intro f n h hb x h1 h2
    obtain ⟨rfl, hok, hc⟩ := h
    have hs := hb b (by simp)
    have hrest := ih _ _ hc (fun b' hb' => hb b' (List.mem_cons_of_mem _ hb'))
    have hle := chain_le r l _ _ hc
    by_cases hx : b.f + b.c ≤ x
    · exact hrest x hx h2
    · have h4 := hrest (b.f + b.c) (Nat.le_refl _) (by omega)
      obtain ⟨y, rfl⟩ : ∃ y, x = b.f + y := ⟨x - b.f, by omega⟩
      have hy : y ≤ b.c := by omega
      have h3 := hok.2 y hy
      have hc0 : (0 : Int) < (b.c : Int) := by have := hok.1; omega
      have hy0 : (0 : Int) ≤ (b.c : Int) - (y : Int) := by omega
      have e : phi r s q (b.f + y) = phi r s q (b.f + b.c) + (q * sm r b.f y - s * y) - (q * sm r b.f b.c - s * b.c) := by
        unfold phi sm
        have e1 : ((b.f + y : Nat) : Int) = (b.f : Int) + (y : Int) := by omega
        have e2 : ((b.f + b.c : Nat) : Int) = (b.f : Int) + (b.c : Int) := by omega
        rw [e1, e2]; grind
      rw [e]
      have : 0 ≤ (q * sm r b.f y - s * y) - (q * sm r b.f b.c - s * b.c) := by
        generalize sm r b.f y = P at *
        generalize sm r b.f b.c = S at *
        generalize (b.c : Int) = C at *
        generalize (y : Int) = Y at *
        apply Int.le_of_mul_le_mul_left (a := C) _ hc0
        have k1 : S * Y * q ≤ P * C * q := Int.mul_le_mul_of_nonneg_right h3 (by omega)
        have k2 : S * q * (C - Y) ≤ s * C * (C - Y) := Int.mul_le_mul_of_nonneg_right hs hy0
        grind
      omega
/-- THE SUPPORT: under all sums lies the line of each block, if the means grow from block to block. -/
theorem support (r : List Int) (l : List Blk) (n : Nat) (h : Chain r 0 l n) (hp : l.Pairwise (Lt r)) (b : Blk) (hb : b ∈ l) :
    ∀ x, x ≤ n → phi r (sm r b.f b.c) b.c b.f ≤ phi r (sm r b.f b.c) b.c x := by
  obtain ⟨l1, l2, rfl⟩ := List.append_of_mem hb
  obtain ⟨m, h1, h2⟩ := (chain_append r l1 (b :: l2) 0 n).1 h
  obtain ⟨rfl, hok, h3⟩ := h2
  have hc0 : (0 : Int) < (b.c : Int) := by have := hok.1; omega
  obtain ⟨p1, p2, p3⟩ := List.pairwise_append.1 hp
  rw [List.pairwise_cons] at p2
  intro x hx
  by_cases hxf : x ≤ b.f
  · refine phi_left r _ _ hc0 l1 0 b.f h1 (fun a ha => ?_) x (Nat.zero_le _) hxf
    exact Int.le_of_lt (p3 a ha b (by simp))
  · refine phi_right r _ _ hc0 (b :: l2) b.f n ⟨rfl, hok, h3⟩ (fun a ha => ?_) x (by omega) hx
    rcases List.mem_cons.1 ha with rfl | ha
    · exact Int.le_refl _
    · exact Int.le_of_lt (p2.1 a ha)

/-! ### the program's blocks -/
def toS (r : List Int) (b : Blk) : S74 := ⟨(b.f : Int), sm r b.f b.c, (b.c : Int)⟩
def mn_ (r : List Int) (b : Blk) : Int × Int := R (sm r b.f b.c) b.c
theorem wrap_mul {a b A B : Int} (ha : 0 ≤ a) (hb : 0 ≤ b) (hA : a ≤ A) (hB : b ≤ B) (h : A * B ≤ 9223372036854775807) : wrap64 (a * b) = a * b := by
  have h1 : 0 ≤ a * b := Int.mul_nonneg ha hb
  have h2 : a * b ≤ A * B := Int.mul_le_mul hA hB hb (by omega)
  exact wrap_id (by omega) (by omega)
theorem less_f {n d m e : Int} (hn : 0 ≤ n) (hd : 0 < d) (hm : 0 ≤ m) (he : 0 < e) (bn : n ≤ 1000000) (bd : d ≤ 1000) (bm : m ≤ 1000000) (be : e ≤ 1000) :
    decide (wrap64 ((R n d).1 * (R m e).2) < wrap64 ((R m e).1 * (R n d).2)) = decide (n * e < m * d) := by
  have a1 := R_le hn hd
  have a2 := R_le hm he
  have a3 := R_nonneg hn hd
  have a4 := R_nonneg hm he
  have a5 := R_pos (n := n) hd
  have a6 := R_pos (n := m) he
  rw [wrap_mul a3 (Int.le_of_lt a6) (A := 1000000) (B := 1000) (by omega) (by omega) (by decide), wrap_mul a4 (Int.le_of_lt a5) (A := 1000000) (B := 1000) (by omega) (by omega) (by decide)]
  exact decide_eq_decide.2 (R_cmp hd he)
theorem block_mean_ev {f s c : Int} (hs : 0 ≤ s) (hc : 0 < c) (hs2 : s ≤ 1000000) (hc2 : c ≤ 1000) : Ev (fun k => wear_block_mean.f k f s c) (R s c) := by
  unfold wear_block_mean.f
  exact Ev.bind (ratio_ev hs hc (by omega) (by omega)) (Ev.now _)
theorem rd_S74 (xs : List S74) (i : Nat) (h : i < xs.length) : rd_T74 xs (i : Int) = xs[i] := by simp [rd_T74, List.getD_eq_getElem?_getD, h]
theorem rd_S35 (xs : List S35) (i : Nat) (h : i < xs.length) : rd_T35 xs (i : Int) = xs[i] := by simp [rd_T35, List.getD_eq_getElem?_getD, h]

theorem blocks_l1 (r : List Int) (h2 : r.length ≤ 40) (hv : ∀ x ∈ r, 0 ≤ x ∧ x ≤ 10000) (i : Nat) (hi : i < r.length) :
    ∀ (m : Nat) (L : List Blk) (b : Blk), L.length = m → Chain r 0 L b.f → L.Pairwise (Lt r) → Okb r b → b.f + b.c = i + 1 →
    ∃ L', Chain r 0 L' (i + 1) ∧ L'.Pairwise (Lt r) ∧ ∀ res, Ev (fun k => wear_blocks.l0 k (L'.map (toS r)) r (r.length : Int) ((i + 1 : Nat) : Int)) res →
      Ev (fun k => wear_blocks.l1 k (L.map (toS r)) ((m : Int) - 1) r (r.length : Int) (i : Int) (b.f : Int) (sm r b.f b.c) (b.c : Int)) res := by
  intro m
  have hw : wrap64 ((i : Int) + 1) = ((i + 1 : Nat) : Int) := wrap_succ _ (by omega)
  induction m with
  | zero =>
    intro L b hL hch hp hok hbi
    obtain rfl := List.length_eq_zero_iff.1 hL
    refine ⟨[b], ?_, by simp, ?_⟩
    · have : (0 : Nat) = b.f := hch
      exact ⟨this.symm, hok, show 0 + b.c = i + 1 by omega⟩
    · intro res h
      refine Ev.step (fun k => by rw [wear_blocks.l1]) ?_
      refine ev_neg (by omega) (ev_pos (by simp) ?_)
      rw [hw]
      exact h
  | succ m ih =>
    intro L b hL hch hp hok hbi
    rcases List.eq_nil_or_concat L with rfl | ⟨L0, t, he⟩
    · simp at hL
    rw [List.concat_eq_append] at he
    subst he
    have hL0 : L0.length = m := by simpa using hL
    obtain ⟨q, hc1, hc2⟩ := (chain_append r L0 [t] 0 b.f).1 hch
    obtain ⟨rfl, htok, hte⟩ := hc2
    have hte' : t.f + t.c = b.f := hte
    obtain ⟨p1, _, p3⟩ := List.pairwise_append.1 hp
    have bt := sm_bound hv t.f t.c
    have bb := sm_bound hv b.f b.c
    have c1 := htok.1
    have c2 := hok.1
    have hget : rd_T74 ((L0 ++ [t]).map (toS r)) (((m + 1 : Nat) : Int) - 1) = toS r t := by
      have e : (((m + 1 : Nat) : Int) - 1) = (m : Int) := by omega
      rw [e, rd_S74 _ m (by simp; omega)]
      simp [← hL0]
    have hx : ((m + 1 : Nat) : Int) - 1 = (m : Int) := by omega
    have hm40 : m + 1 ≤ 40 := by have := chain_le r _ _ _ hch; rw [List.length_append, hL0] at this; simp at this; omega
    have hlen : ((L0 ++ [t]).map (toS r)).length = m + 1 := by simp [hL0]
    have hstep : ∀ res, Ev (fun k => if decide (sm r t.f t.c * b.c < sm r b.f b.c * t.c) = true then
        (if ((L0 ++ [t]).map (toS r)).length < 5864062014805 then (wear_blocks.l0 k ((L0 ++ [t]).map (toS r) ++ [(⟨(b.f : Int), sm r b.f b.c, (b.c : Int)⟩ : S74)]) r (r.length : Int) (wrap64 ((i : Int) + 1))) else none)
        else (if (m : Int) ≤ (((L0 ++ [t]).map (toS r)).length : Int) then (wear_blocks.l1 k (((L0 ++ [t]).map (toS r)).take ((m : Int)).toNat) (wrap64 ((m : Int) - 1)) r (r.length : Int) (i : Int) (t.f : Int) (wrap64 (sm r t.f t.c + sm r b.f b.c)) (wrap64 ((t.c : Int) + (b.c : Int)))) else none)) res →
        Ev (fun k => wear_blocks.l1 k ((L0 ++ [t]).map (toS r)) (((m + 1 : Nat) : Int) - 1) r (r.length : Int) (i : Int) (b.f : Int) (sm r b.f b.c) (b.c : Int)) res := by
      intro res h
      refine Ev.step (fun k => by rw [wear_blocks.l1]) ?_
      rw [hget, hx]
      refine ev_pos (by omega) (ev_pos (by omega) (ev_pos (by rw [hlen]; omega) ?_))
      refine Ev.bind (block_mean_ev (f := (toS r t).f0) (s := sm r t.f t.c) (c := t.c) (by omega) (by omega) (by omega) (by omega)) ?_
      refine Ev.bind (block_mean_ev (f := (b.f : Int)) (s := sm r b.f b.c) (c := b.c) (by omega) (by omega) (by omega) (by omega)) ?_
      unfold wear_less.f
      rw [less_f (by omega) (by omega) (by omega) (by omega) (by omega) (by omega) (by omega) (by omega)]
      exact ev_some h
    by_cases hlt : sm r t.f t.c * b.c < sm r b.f b.c * t.c
    · refine ⟨(L0 ++ [t]) ++ [b], ?_, ?_, ?_⟩
      · exact (chain_append r (L0 ++ [t]) [b] 0 (i + 1)).2 ⟨b.f, hch, rfl, hok, hbi⟩
      · rw [List.pairwise_append]
        refine ⟨hp, by simp, ?_⟩
        intro a ha b' hb'
        obtain rfl : b' = b := by simpa using hb'
        rcases List.mem_append.1 ha with ha | ha
        · have h1 := p3 a ha t (by simp)
          -- a < t < b
          unfold Lt at h1 ⊢
          have ca : 1 ≤ a.c := by
            obtain ⟨l1, l2, e⟩ := List.append_of_mem ha
            rw [e] at hc1
            obtain ⟨_, _, h5⟩ := (chain_append r l1 (a :: l2) 0 t.f).1 hc1
            exact h5.2.1.1
          have t0 : (0 : Int) < (t.c : Int) := by omega
          have a0 : (0 : Int) < (a.c : Int) := by omega
          have b0 : (0 : Int) < (b'.c : Int) := by omega
          generalize sm r a.f a.c = A at *
          generalize sm r t.f t.c = T at *
          generalize sm r b'.f b'.c = B at *
          generalize (a.c : Int) = x at *
          generalize (t.c : Int) = y at *
          generalize (b'.c : Int) = z at *
          apply Int.lt_of_mul_lt_mul_left (a := y) _ (by omega)
          have k1 : A * y * z < T * x * z := Int.mul_lt_mul_of_pos_right h1 b0
          have k2 : T * z * x < B * y * x := Int.mul_lt_mul_of_pos_right hlt a0
          grind
        · obtain rfl : a = t := by simpa using ha
          exact hlt
      · intro res h
        refine hstep res (ev_pos (by simpa using hlt) (ev_pos (by rw [hlen]; omega) ?_))
        rw [hw]
        rw [List.map_append] at h
        exact h
    · have hmerge : Okb r ⟨t.f, t.c + b.c⟩ := by
        refine okb_merge r t.f t.c b.c htok ?_ ?_
        · rw [hte']; exact hok
        · rw [hte']; omega
      obtain ⟨L', k1, k2, k3⟩ := ih L0 ⟨t.f, t.c + b.c⟩ hL0 hc1 p1 hmerge (by simp only; omega)
      refine ⟨L', k1, k2, fun res h => ?_⟩
      refine hstep res (ev_neg (by simpa using hlt) (ev_pos (by rw [hlen]; omega) ?_))
      have e1 : ((L0 ++ [t]).map (toS r)).take ((m : Int)).toNat = L0.map (toS r) := by
        rw [Int.toNat_natCast, List.map_append, List.take_append_of_le_length (by simp; omega), List.take_of_length_le (by simp; omega)]
      have e2 : wrap64 ((m : Int) - 1) = (m : Int) - 1 := wrap_id (by omega) (by have := chain_le r _ _ _ hch; rw [List.length_append] at this; simp at this; omega)
      have e3 : wrap64 (sm r t.f t.c + sm r b.f b.c) = sm r t.f (t.c + b.c) := by
        rw [sm_add, hte']; exact wrap_id (by omega) (by omega)
      have e4 : wrap64 ((t.c : Int) + (b.c : Int)) = ((t.c + b.c : Nat) : Int) := wrap_plus _ _ (by omega) (by omega)
      rw [e1, e2, e3, e4]
      exact k3 res h
theorem blocks_l0 (r : List Int) (h2 : r.length ≤ 40) (hv : ∀ x ∈ r, 0 ≤ x ∧ x ≤ 10000) : ∀ (d i : Nat) (L : List Blk), i + d = r.length → Chain r 0 L i → L.Pairwise (Lt r) →
    ∃ L', Chain r 0 L' r.length ∧ L'.Pairwise (Lt r) ∧ Ev (fun k => wear_blocks.l0 k (L.map (toS r)) r (r.length : Int) (i : Int)) (L'.map (toS r)) := by
  intro d
  induction d with
  | zero =>
    intro i L hi hc hp
    obtain rfl : i = r.length := by omega
    refine ⟨L, hc, hp, ?_⟩
    refine Ev.step (fun k => by rw [wear_blocks.l0]) ?_
    exact ev_neg (by omega) (Ev.now _)
  | succ d ih =>
    intro i L hi hc hp
    have hlen := chain_le r L 0 i hc
    obtain ⟨L1, c1, p1, k1⟩ := blocks_l1 r h2 hv i (by omega) L.length L ⟨i, 1⟩ rfl hc hp (okb_one r i) rfl
    obtain ⟨L2, c2, p2, k2⟩ := ih (i + 1) L1 (by omega) c1 p1
    refine ⟨L2, c2, p2, ?_⟩
    refine Ev.step (fun k => by rw [wear_blocks.l0]) ?_
    refine ev_pos (by omega) (ev_pos (by omega) (ev_pos (by omega) ?_))
    have e1 : wrap64 (((L.map (toS r)).length : Int) - 1) = (L.length : Int) - 1 := by
      rw [List.length_map]; exact wrap_id (by omega) (by omega)
    rw [e1]
    have := k1 _ k2
    rw [sm_one] at this
    exact this
theorem blocks_ev (r : List Int) (h2 : r.length ≤ 40) (hv : ∀ x ∈ r, 0 ≤ x ∧ x ≤ 10000) :
    ∃ L, Chain r 0 L r.length ∧ L.Pairwise (Lt r) ∧ Ev (fun k => wear_blocks.f k r) (L.map (toS r)) :=
  blocks_l0 r h2 hv r.length 0 [] (by omega) rfl List.Pairwise.nil

/-! ### the program's nearest row -/
def toR (v : Int × Int) : S35 := ⟨v.1, v.2⟩
def nearL (r : List Int) (L : List Blk) : List S35 := L.flatMap fun b => List.replicate b.c (toR (mn_ r b))
theorem nearL_snoc (r : List Int) (L : List Blk) (b : Blk) : nearL r (L ++ [b]) = nearL r L ++ List.replicate b.c (toR (mn_ r b)) := by simp [nearL]
theorem nearL_len (r : List Int) (L : List Blk) : ∀ f n, Chain r f L n → (nearL r L).length = n - f := by
  induction L with
  | nil => intro f n h; have : f = n := h; simp [nearL]; omega
  | cons b L ih =>
    intro f n h
    have h1 := ih _ _ h.2.2
    have h2 := chain_le r _ _ _ h.2.2
    have e : nearL r (b :: L) = List.replicate b.c (toR (mn_ r b)) ++ nearL r L := rfl
    rw [e, List.length_append, List.length_replicate, h1]
    omega
theorem nearL_get (r : List Int) (L : List Blk) : ∀ f n, Chain r f L n → ∀ i, f ≤ i → i < n → ∃ b, b ∈ L ∧ b.f ≤ i ∧ i < b.f + b.c ∧ (nearL r L)[i - f]? = some (toR (mn_ r b)) := by
  induction L with
  | nil => intro f n h i h1 h2; have : f = n := h; omega
  | cons b L ih =>
    intro f n h i h1 h2
    obtain ⟨rfl, hok, hc⟩ := h
    have e : nearL r (b :: L) = List.replicate b.c (toR (mn_ r b)) ++ nearL r L := rfl
    by_cases hib : i < b.f + b.c
    · refine ⟨b, by simp, h1, hib, ?_⟩
      rw [e, List.getElem?_append_left (by simp; omega), List.getElem?_replicate]
      rw [if_pos (by omega)]
    · obtain ⟨b', hb', q1, q2, q3⟩ := ih _ _ hc i (by omega) h2
      refine ⟨b', List.mem_cons_of_mem _ hb', q1, q2, ?_⟩
      rw [e, List.getElem?_append_right (by simp; omega), List.length_replicate]
      have : i - b.f - b.c = i - (b.f + b.c) := by omega
      rw [this]; exact q3
theorem chain_mem (r : List Int) (L : List Blk) : ∀ f n, Chain r f L n → ∀ b ∈ L, Okb r b ∧ b.f + b.c ≤ n := by
  induction L with
  | nil => intro f n h b hb; simp at hb
  | cons a L ih =>
    intro f n h b hb
    obtain ⟨rfl, hok, hc⟩ := h
    have := chain_le r _ _ _ hc
    rcases List.mem_cons.1 hb with rfl | hb
    · exact ⟨hok, by omega⟩
    · exact ih _ _ hc b hb
theorem nearest_l0 (r : List Int) (h2 : r.length ≤ 40) (hv : ∀ x ∈ r, 0 ≤ x ∧ x ≤ 10000) (L : List Blk) (hc : Chain r 0 L r.length) : ∀ (d i : Nat), i + d = L.length →
    Ev (fun k => wear_nearest.l0 k (nearL r (L.take i)) (L.map (toS r)) (L.length : Int) (i : Int)) (nearL r L) := by
  intro d
  have hL := chain_le r L 0 _ hc
  induction d with
  | zero =>
    intro i hi
    obtain rfl : i = L.length := by omega
    refine Ev.step (fun k => by rw [wear_nearest.l0]) ?_
    rw [List.take_length]
    exact ev_neg (by omega) (Ev.now _)
  | succ d ih =>
    intro i hi
    have hlt : i < L.length := by omega
    refine Ev.step (fun k => by rw [wear_nearest.l0]) ?_
    have hg : rd_T74 (L.map (toS r)) (i : Int) = toS r L[i] := by
      rw [rd_S74 _ i (by simpa using hlt)]; simp
    rw [hg]
    have hb := chain_mem r L 0 _ hc L[i] (List.getElem_mem hlt)
    have hb1 := hb.1.1
    have hs := sm_bound hv L[i].f L[i].c
    refine ev_pos (by omega) (ev_pos (by omega) (ev_pos (by simp; omega) ?_))
    refine Ev.bind (block_mean_ev (f := (toS r L[i]).f0) (s := sm r L[i].f L[i].c) (c := L[i].c) (by omega) (by omega) (by omega) (by omega)) ?_
    have hrep : slices_Repeat_api_Ratio_api_Ratio.f [(⟨(R (sm r L[i].f L[i].c) L[i].c).1, (R (sm r L[i].f L[i].c) L[i].c).2⟩ : S35)] (toS r L[i]).f2 = some (List.replicate L[i].c (toR (mn_ r L[i]))) := by
      unfold slices_Repeat_api_Ratio_api_Ratio.f
      show (if 1 ≤ (L[i].c : Int) ∧ (L[i].c : Int) ≤ 1000 then _ else _) = _
      rw [if_pos (by omega)]
      rfl
    rw [hrep]
    have hlen : (nearL r (L.take i)).length ≤ 40 := by
      have hsplit : L = L.take i ++ L.drop i := (List.take_append_drop i L).symm
      have hc' := hc
      rw [hsplit] at hc'
      obtain ⟨m, m1, m2⟩ := (chain_append r _ _ 0 _).1 hc'
      have := chain_le r _ _ _ m2
      rw [nearL_len r _ _ _ m1]; omega
    refine ev_some (ev_pos (by simp only [List.length_replicate]; omega) ?_)
    rw [wrap_succ _ (by omega), ← nearL_snoc, ← List.take_succ_eq_append_getElem hlt]
    exact ih (i + 1) (by omega)
theorem nearest_of (r : List Int) (h2 : r.length ≤ 40) (hv : ∀ x ∈ r, 0 ≤ x ∧ x ≤ 10000) (L : List Blk) (hc : Chain r 0 L r.length) (hb : Ev (fun k => wear_blocks.f k r) (L.map (toS r))) :
    Ev (fun k => wear_nearest.f k r) (nearL r L) := by
  unfold wear_nearest.f
  refine Ev.bind hb ?_
  have := nearest_l0 r h2 hv L hc L.length 0 (by omega)
  rw [List.length_map]
  exact this

/-! ### the document's order -/
theorem refLess_f {n d m e : Int} (hn : 0 ≤ n) (hd : 0 < d) (hm : 0 ≤ m) (he : 0 < e) (bn : n ≤ 1000000) (bd : d ≤ 1000) (bm : m ≤ 1000000) (be : e ≤ 1000) :
    dropperref07_Less.f (R n d).1 (R n d).2 (R m e).1 (R m e).2 = some (decide (n * e < m * d)) := by
  unfold dropperref07_Less.f
  rw [less_f hn hd hm he bn bd bm be]
end Go.Proofs.Ytpdcpekjafcohaa.Plain

namespace Go.Proofs.Ytpdcpekjafcohaa.Plain
set_option linter.unusedVariables false
set_option linter.unusedSimpArgs false
open Go.RowKit Go.Proofs.Ytpdcpekjafcohaa.XWear Go.Proofs.YtpdcpekjafcohaaW.PrintWords Go.Proofs.YtpdcpekjafcohaaW.PrintLast Go.Proofs.YtpdcpekjafcohaaW.PrintMore

/-- a row of blocks whose means grow -/
structure Row (r : List Int) (L : List Blk) : Prop where
  ch : Chain r 0 L r.length
  pw : L.Pairwise (Lt r)
  ev : Ev (fun k => wear_blocks.f k r) (L.map (toS r))
theorem row (r : List Int) (h : ok r = true) : ∃ L, Row r L := by
  have h' := (ok_iff r).1 h
  obtain ⟨L, a, b, c⟩ := blocks_ev r h'.2.1 h'.2.2
  exact ⟨L, a, b, c⟩
theorem Nearest_ok (r : List Int) (h : ok r = true) (L : List Blk) (hL : Row r L) : Ev (fun k => wear_Nearest.f k r) (nearL r L, 0) := by
  have h' := (ok_iff r).1 h
  unfold wear_Nearest.f
  rw [valid_f]
  refine ev_some (ev_pos h ?_)
  exact Ev.bind (nearest_of r h'.2.1 h'.2.2 L hL.ch hL.ev) (Ev.now _)
theorem Nearest_no (r : List Int) (h : ¬ ok r = true) : Ev (fun k => wear_Nearest.f k r) ([], 70) := by
  unfold wear_Nearest.f
  rw [valid_f]
  exact ev_some (ev_neg h (Ev.now _))
/-! ### SameRatios at one and the same row -/
theorem sameR_l0 (a : List S35) (hl : a.length ≤ 4000000000000000000) : ∀ (d i : Nat), i + d = a.length → Ev (fun k => dropperlaw07_SameRatios.l0 k a a (i : Int)) true := by
  intro d
  induction d with
  | zero =>
    intro i hi
    refine Ev.step (fun k => by rw [dropperlaw07_SameRatios.l0]) ?_
    exact ev_neg (by omega) (Ev.now _)
  | succ d ih =>
    intro i hi
    refine Ev.step (fun k => by rw [dropperlaw07_SameRatios.l0]) ?_
    refine ev_pos (by omega) (ev_pos (by omega) (ev_pos (by omega) (ev_neg (by simp) ?_)))
    rw [wrap_succ _ (by omega)]
    exact ih (i + 1) (by omega)
theorem sameR (a : List S35) (hl : a.length ≤ 4000000000000000000) : Ev (fun k => dropperlaw07_SameRatios.f k a a) true := by
  unfold dropperlaw07_SameRatios.f
  exact ev_pos rfl (sameR_l0 a hl a.length 0 (by omega))

end Go.Proofs.Ytpdcpekjafcohaa.Plain

-- Written by wip/xprint.py of this repo, over the kit's print.py: out of the translation; the oracles in it are by hand. Not trusted: Lean checks it.
namespace Go.Proofs.Ytpdcpekjafcohaa.XWear
open Go.RowKit Go.Proofs.YtpdcpekjafcohaaW.PrintWords Go.Proofs.YtpdcpekjafcohaaW.PrintLast Go.Proofs.YtpdcpekjafcohaaW.PrintMore
attribute [local go_sem] max2_int min2_int max_two min_two max_three min_three max_four min_four   -- for this text's walks alone
set_option linter.unusedVariables false
set_option linter.unusedSimpArgs false

/-! ### dropperref07_Nearest: function 24 -/
def dropperref07_Nearest.l0 : Nat → List Int → List (S35) → Int → Option ((List (S35)) × Int)
  | 0, _, _, _ => none
  | k + 1, x0, x4, x5 => if x5 < (x0.length : Int) then ((dropperref07_between.f k x0 x5).bind fun bt308 => (if x4.length < 8796093022208 then (dropperref07_Nearest.l0 k x0 (x4 ++ [(⟨bt308.1, bt308.2⟩ : S35)]) (wrap64 (x5 + 1))) else (none))) else (some (x4, 0))
def dropperref07_Nearest.f (k : Nat) (l0 : List Int) : Option ((List (S35)) × Int) := (dropperref07_Valid.f k l0).bind fun t307 => (if t307 = true then (dropperref07_Nearest.l0 k l0 ([] : List (S35)) 0) else (some (([] : List (S35)), 70)))
theorem dropperref07_Nearest.mono_l : ∀ k, (∀ y0 y1 y2, LeO (dropperref07_Nearest.l0 k y0 y1 y2) (dropperref07_Nearest.l0 (k + 1) y0 y1 y2))
  | 0 => fun _ _ _ r h => by simp [dropperref07_Nearest.l0] at h
  | k + 1 => by
    have ih0 := dropperref07_Nearest.mono_l k
    · intro y0 y1 y2
      unfold dropperref07_Nearest.l0
      repeat' first
      | (with_reducible exact ih0 _ _ _)
      | (with_reducible exact dropperref07_Valid.mono _ _)
      | (with_reducible exact dropperref07_between.mono _ _ _)
      | (with_reducible exact LeO.refl _)
      | (with_reducible exact LeO.none _)
      | (with_reducible refine LeO.ite ?_ ?_)
      | (with_reducible refine LeO.bind ?_ (fun _ => ?_))
      | exact ih0 _ _ _
      | exact dropperref07_Valid.mono _ _
      | exact dropperref07_between.mono _ _ _
      | exact LeO.none _
      | refine LeO.ite ?_ ?_
      | refine LeO.bind ?_ (fun _ => ?_)
theorem dropperref07_Nearest.mono : ∀ a0 k, LeO (dropperref07_Nearest.f k a0) (dropperref07_Nearest.f (k + 1) a0) := by
  intro a0 k
  have ih0 := dropperref07_Nearest.mono_l k
  unfold dropperref07_Nearest.f
  repeat' first
      | (with_reducible exact ih0 _ _ _)
      | (with_reducible exact dropperref07_Valid.mono _ _)
      | (with_reducible exact dropperref07_between.mono _ _ _)
      | (with_reducible exact LeO.refl _)
      | (with_reducible exact LeO.none _)
      | (with_reducible refine LeO.ite ?_ ?_)
      | (with_reducible refine LeO.bind ?_ (fun _ => ?_))
      | exact ih0 _ _ _
      | exact dropperref07_Valid.mono _ _
      | exact dropperref07_between.mono _ _ _
      | exact LeO.none _
      | refine LeO.ite ?_ ?_
      | refine LeO.bind ?_ (fun _ => ?_)
set_option maxHeartbeats 8000000 in
set_option maxRecDepth 100000 in
theorem dropperref07_Nearest.calls (k : Nat) (A0 : Option Addr) (c0 : Nat) (l0 : List Int) (r1 : List (S35)) (r2 : Int) (w : World) (hr0 : Kd.C (Kd.int .i64) w A0 l0.length l0) (hc0 : l0.length ≤ c0) (h : dropperref07_Nearest.f k l0 = some (r1, r2)) :
    Calls Try.prog 24 #[.slice A0 l0.length c0] w fun e w' => ∃ v0_ : Value, e = .returned (.tuple #[v0_, .int .i64 r2]) ∧ Kd.R k35 35 w' w.heap.size (fun _ => True) v0_ r1 ∧ Below w.heap.size w w' := by
  have HR0 := Aside0.mk hr0
  have HC0 := Aside0.mk hc0
  clear hr0 hc0
  have HB := Aside0.mk (Below.refl w.heap.size w)
  have H : ((dropperref07_Valid.f k l0).bind fun t307 => (if t307 = true then (dropperref07_Nearest.l0 k l0 ([] : List (S35)) 0) else (some (([] : List (S35)), 70)))) = some (r1, r2) := h
  clear h
  replace H := Option.bind_eq_some_iff.mp H
  obtain ⟨t307, A20, H⟩ := H
  replace H : (if t307 = true then (dropperref07_Nearest.l0 k l0 ([] : List (S35)) 0) else (some (([] : List (S35)), 70))) = some (r1, r2) := H
  have A2 := Aside0.mk A20
  clear A20
  by_cases c3 : t307 = true
  · subst c3
    have H1 : (dropperref07_Nearest.l0 k l0 ([] : List (S35)) 0) = some (r1, r2) := by rw [if_pos rfl] at H; exact H
    clear H
    have H := H1
    clear H1
    have H' := Aside0.mk H
    clear H
    go_enter Try.func24, Try.ntmps24
    go_wp2_with (first | ((with_reducible refine gate_callee (f := 19) rfl ?_); refine goesL_ (some 7) rfl rfl Try.func19 (by kernel_rfl) rfl #[.slice A0 l0.length c0] rfl (by (try simp only [List.map_toArray, List.map_cons, List.map_nil]); first | done | rfl | (simp only [List.length_drop, List.length_take]; rfl)) ?_; (with_reducible refine (dropperref07_Valid.calls k _ _ l0 true _ ?side1 ?side2 A2.out).mono ?_); (case side1 => repeat (first | exact HR0.out | (with_reducible refine Kd.C_alloc ?_ _) | (with_reducible refine Kd.C_drewN ?_ _) | (with_reducible refine Kd.C_drew ?_))); (case side2 => exact HC0.out); rintro e w' ⟨rfl, ⟨nd, rfl⟩⟩; refine ⟨_, rfl, ?_⟩))
    go_loopg [4, 5] k (fun kq v4 v5 w' => ∃ (x4_1 : List (S35)) (x5_1 : Int), v5 = .int .i64 x5_1 ∧ Aside0 (dropperref07_Nearest.l0 kq l0 x4_1 x5_1 = some (r1, r2)) ∧ Aside0 (kq ≤ k) ∧ Aside0 (Kd.R k35 35 w' w.heap.size (fun _ => True) v4 x4_1) ∧ Aside0 (Below w.heap.size w w'))
    case atStart => exact ⟨(([] : List (S35))), (0), (by first | rfl | (simp; done) | (simp [*]; done)), H', ⟨Nat.le_refl _⟩, ⟨by first | exact Kd.R_nil _ _ _ _ _ | exact Kd.N_nil _ _ _ _ _ | exact Kd.V_nil _ _ _ _ _ | exact Kd.Q_nil _ _ _ _ _ | exact Kd.S_nil _ _ _ _ _⟩, ⟨by repeat (first | (with_reducible first | exact HB.out | apply below_alloc | apply pw_below_drewN | apply below_drew1) | exact HB.out)⟩⟩
    case round =>
      clear H'
      try clear c1
      try clear c2
      try clear p2
      try clear c3
      obtain ⟨x4_1, x5_1, rfl, HA, HK1, HO_4, HB⟩ := hrel
      cases gk with
      | zero => exact absurd HA.out (by simp [dropperref07_Nearest.l0])
      | succ k1 =>
        have H := HA.out
        clear HA
        simp only [dropperref07_Nearest.l0] at H
        by_cases c4 : x5_1 < (l0.length : Int)
        · rw [if_pos c4] at H
          have c4b0 : decide (x5_1 < (l0.length : Int)) = true := decide_eq_true c4
          clear c4
          replace H := Option.bind_eq_some_iff.mp H
          obtain ⟨⟨t308, t309⟩, A50, H⟩ := H
          replace H : (if x4_1.length < 8796093022208 then (dropperref07_Nearest.l0 k1 l0 (x4_1 ++ [(⟨t308, t309⟩ : S35)]) (wrap64 (x5_1 + 1))) else (none)) = some (r1, r2) := H
          have A5 := Aside0.mk A50
          clear A50
          by_cases c6 : x4_1.length < 8796093022208
          · rw [if_pos c6] at H
            have LMc6 := Aside0.mk c6
            clear c6
            obtain ⟨y310, hy310⟩ : ∃ y_ : List (S35), y_ = (x4_1 ++ [(⟨t308, t309⟩ : S35)]) := ⟨_, rfl⟩
            replace H : (dropperref07_Nearest.l0 k1 l0 y310 (wrap64 (x5_1 + 1))) = some (r1, r2) := by first | (rw [hy310]; with_reducible exact H) | (have H2_ := (Option.bind_some _ _).symm.trans H; rw [hy310]; with_reducible exact H2_) | (have H2_ := (Option.bind_some _ _).symm.trans H; with_reducible exact H2_) | with_reducible exact H | (rw [hy310]; exact H) | exact H
            have Ny310 := Aside0.mk hy310
            clear hy310
            have H' := Aside0.mk H
            clear H
            go_wp2_with (first | ((with_reducible refine gate_callee (f := 57) rfl ?_); refine goesL_ (some 18) rfl rfl Try.func57 (by kernel_rfl) rfl #[.slice A0 l0.length c0, .int .i64 x5_1] rfl (by (try simp only [List.map_toArray, List.map_cons, List.map_nil]); first | done | rfl | (simp only [List.length_drop, List.length_take]; rfl)) ?_; (with_reducible refine (dropperref07_between.calls k1 _ _ l0 x5_1 t308 t309 _ ?side1 ?side2 A5.out).mono ?_); (case side1 => repeat (first | exact (Kd.C_below HR0.out HB.out) | (with_reducible refine Kd.C_alloc ?_ _) | (with_reducible refine Kd.C_drewN ?_ _) | (with_reducible refine Kd.C_drew ?_))); (case side2 => exact HC0.out); rintro e w7 ⟨rfl, hb⟩; refine ⟨_, rfl, ?_⟩; have n0_ := Aside0.mk (Kd.R_below (by (with_reducible repeat (first | apply Kd.R_alloc | apply Kd.R_drewN | apply Kd.R_drew)); exact HO_4.out) hb); have n1_ := Aside0.mk (below_step (by repeat (first | (with_reducible first | exact HB.out | apply below_alloc | apply pw_below_drewN | apply below_drew1) | exact HB.out)) hb); clear HO_4; clear HB; have HO_4 := n0_; have HB := n1_; clear n0_ n1_; (try clear hb); (try clear hb2); (try clear hk); (try clear hi)) | ((with_reducible refine gate_builtin (b := .append) (xs := #[.tmp 15, .tmp 19]) rfl ?_); at_builtin; refine Kd.R_append k35 (w0 := w) w.heap.size rfl (.tmp 15) (.tmp 19) 31 35 (.agg #[(.int .i64 0), (.int .i64 0)]) 16 rfl Try.underlying31 info35 rfl (by decide) (by omega) u4 x4_1 (⟨t308, t309⟩ : S35) [.int .i64 t308, .int .i64 t309] (fun _ => True) (fun _ => False) rfl rfl ?aP (fun _ hk => hk.elim) ?aF ?aO ?aB ?aS ?aL ?_; (case aP => exact k35_mkM _ _ _ (⟨t308, t309⟩ : S35)); (case aB => exact (by repeat (first | (with_reducible first | exact HB.out | apply below_alloc | apply pw_below_drewN | apply below_drew1) | exact HB.out))); (case aF => exact (fun _ _ => trivial)); (case aO => exact (by (with_reducible repeat (first | apply Kd.R_alloc | apply Kd.R_drewN | apply Kd.R_drew)); exact HO_4.out)); (case aS => exact (below_size (by repeat (first | (with_reducible first | exact HB.out | apply below_alloc | apply pw_below_drewN | apply below_drew1) | exact HB.out)))); (case aL => have := LMc6.out; omega); intro v311 w8 ho hb hg hat; rw [← Ny310.out] at ho; have n0_ := Aside0.mk (hb); have n1_ := Aside0.mk (ho); clear HB; clear HO_4; have HB := n0_; have HO312 := n1_; clear n0_ n1_; clear ho hb hg hat))
            go_roundg k1
            case measure => have := HK1.out; omega
            case rel => exact ⟨(y310), (wrap64 (x5_1 + 1)), (by first | rfl | (simp; done) | (simp [*]; done)), H', ⟨by have := HK1.out; omega⟩, ⟨by (with_reducible repeat (first | apply Kd.R_alloc | apply Kd.R_drewN | apply Kd.R_drew)); exact HO312.out⟩, ⟨by repeat (first | (with_reducible first | exact HB.out | apply below_alloc | apply pw_below_drewN | apply below_drew1) | exact HB.out)⟩⟩
          · rw [if_neg c6] at H
            exact absurd H (by simp)
        · rw [if_neg c4] at H
          have c4b0 : decide (x5_1 < (l0.length : Int)) = false := decide_eq_false c4
          clear c4
          simp only [Option.some.injEq, Prod.mk.injEq] at H
          obtain ⟨rfl, rfl⟩ := H
          go_wp2
          go_ret2
          exact ⟨_, by first | rfl | (simp [errW_none, errW_some] <;> rfl) | (simp [*, errW_none, errW_some] <;> rfl), by (with_reducible repeat (first | apply Kd.R_alloc | apply Kd.R_drewN | apply Kd.R_drew)); exact HO_4.out, by repeat (first | (with_reducible first | exact HB.out | apply below_alloc | apply pw_below_drewN | apply below_drew1) | exact HB.out)⟩
  · replace c3 := Bool.eq_false_iff.mpr c3
    subst c3
    have H1 : (some (([] : List (S35)), 70)) = some (r1, r2) := by rw [if_neg (show ¬ (false = true) by decide)] at H; exact H
    clear H
    have H := H1
    clear H1
    simp only [Option.some.injEq, Prod.mk.injEq] at H
    obtain ⟨rfl, rfl⟩ := H
    go_enter Try.func24, Try.ntmps24
    go_wp2_with (first | ((with_reducible refine gate_callee (f := 19) rfl ?_); refine goesL_ (some 7) rfl rfl Try.func19 (by kernel_rfl) rfl #[.slice A0 l0.length c0] rfl (by (try simp only [List.map_toArray, List.map_cons, List.map_nil]); first | done | rfl | (simp only [List.length_drop, List.length_take]; rfl)) ?_; (with_reducible refine (dropperref07_Valid.calls k _ _ l0 false _ ?side1 ?side2 A2.out).mono ?_); (case side1 => repeat (first | exact HR0.out | (with_reducible refine Kd.C_alloc ?_ _) | (with_reducible refine Kd.C_drewN ?_ _) | (with_reducible refine Kd.C_drew ?_))); (case side2 => exact HC0.out); rintro e w' ⟨rfl, ⟨nd, rfl⟩⟩; refine ⟨_, rfl, ?_⟩))
    go_ret2
    exact ⟨_, by first | rfl | (simp [errW_none, errW_some] <;> rfl) | (simp [*, errW_none, errW_some] <;> rfl), by first | exact Kd.R_nil _ _ _ _ _ | exact Kd.N_nil _ _ _ _ _ | exact Kd.V_nil _ _ _ _ _ | exact Kd.Q_nil _ _ _ _ _ | exact Kd.S_nil _ _ _ _ _, by repeat (first | (with_reducible first | exact HB.out | apply below_alloc | apply pw_below_drewN | apply below_drew1) | exact HB.out)⟩

end Go.Proofs.Ytpdcpekjafcohaa.XWear

namespace Go.Proofs.Ytpdcpekjafcohaa.Plain
set_option linter.unusedVariables false
set_option linter.unusedSimpArgs false
open Go.RowKit Go.Proofs.Ytpdcpekjafcohaa.XWear Go.Proofs.YtpdcpekjafcohaaW.PrintWords Go.Proofs.YtpdcpekjafcohaaW.PrintLast Go.Proofs.YtpdcpekjafcohaaW.PrintMore

theorem divisor_l0 : ∀ (b a : Nat), a ≤ 4000000000000000000 → b ≤ 4000000000000000000 → 0 < Nat.gcd a b → Ev (fun k => dropperref07_divisor.l0 k (a : Int) (b : Int)) (Int.gcd a b : Int) := by
  intro b
  induction b using Nat.strongRecOn with
  | _ b ih =>
    intro a ha hb hp
    refine Ev.step (fun k => by rw [dropperref07_divisor.l0]) ?_
    by_cases h : b = 0
    · subst h
      refine ev_pos rfl (ev_const ?_)
      rw [Nat.gcd_zero_right] at hp
      have : mx (a : Int) 1 = (a : Int) := by unfold mx; split <;> omega
      rw [this]; simp
    · refine ev_neg (by omega) ?_
      have hlt : a % b < b := Nat.mod_lt _ (by omega)
      have e : Int.tmod (a : Int) (b : Int) = ((a % b : Nat) : Int) := by
        rw [Int.tmod_eq_emod_of_nonneg (by omega)]; rfl
      rw [e]
      have e3 : Nat.gcd b (a % b) = Nat.gcd a b := by rw [Nat.gcd_comm b, ← Nat.gcd_rec, Nat.gcd_comm]
      have := ih (a % b) hlt b hb (by omega) (by rw [e3]; exact hp)
      have e2 : Int.gcd (b : Int) ((a % b : Nat) : Int) = Int.gcd (a : Int) (b : Int) := e3
      rw [e2] at this
      exact this
theorem rratio_ev {n d : Int} (hn : 0 ≤ n) (hd : 0 < d) (hn2 : n ≤ 4000000000000000000) (hd2 : d ≤ 4000000000000000000) : Ev (fun k => dropperref07_ratio.f k n d) (R n d) := by
  obtain ⟨e1, e2⟩ := R_fits hn hd hn2 hd2
  have g := gcd_pos (n := n) hd
  have hg : Ev (fun k => dropperref07_divisor.f k n d) (Int.gcd n d : Int) := by
    obtain ⟨n', rfl⟩ := Int.eq_ofNat_of_zero_le hn
    obtain ⟨d', rfl⟩ := Int.eq_ofNat_of_zero_le (Int.le_of_lt hd)
    unfold dropperref07_divisor.f
    have w1 : wrap64 (-(n' : Int)) = -(n' : Int) := wrap_id (by omega) (by omega)
    have w2 : wrap64 (-(d' : Int)) = -(d' : Int) := wrap_id (by omega) (by omega)
    have m1 : mx (n' : Int) (-(n' : Int)) = (n' : Int) := by unfold mx; split <;> omega
    have m2 : mx (d' : Int) (-(d' : Int)) = (d' : Int) := by unfold mx; split <;> omega
    rw [w1, w2, m1, m2]
    exact divisor_l0 d' n' (by omega) (by omega) (by have : (0 : Int) < (Int.gcd (n' : Int) (d' : Int) : Int) := g; have e : Int.gcd (n' : Int) (d' : Int) = Nat.gcd n' d' := rfl; omega)
  unfold dropperref07_ratio.f
  refine Ev.bind hg (ev_neg (by omega) (ev_const ?_))
  rw [e1, e2]


end Go.Proofs.Ytpdcpekjafcohaa.Plain

namespace Go.Proofs.Ytpdcpekjafcohaa.Plain
set_option linter.unusedVariables false
set_option linter.unusedSimpArgs false
open Go.RowKit Go.Proofs.Ytpdcpekjafcohaa.XWear Go.Proofs.YtpdcpekjafcohaaW.PrintWords Go.Proofs.YtpdcpekjafcohaaW.PrintLast Go.Proofs.YtpdcpekjafcohaaW.PrintMore

/-! ### the document's nearest row -/
theorem pre_list (l : List Int) : ∀ (n : Nat) (x y : Nat), x + n = y → y ≤ l.length → pre ((l.take y).drop x) n = pre l y - pre l x := by
  intro n x y hxy hy
  have key : ∀ m, m ≤ n → pre ((l.take y).drop x) m = pre l (x + m) - pre l x := by
    intro m
    induction m with
    | zero => intro _; simp [pre]
    | succ m ih =>
      intro hm
      have h1 := ih (by omega)
      show pre ((l.take y).drop x) m + rd ((l.take y).drop x) (m : Int) = pre l (x + m) + rd l ((x + m : Nat) : Int) - pre l x
      rw [h1, rd_eq _ m (by simp; omega), rd_eq l (x + m) (by omega)]
      simp only [List.getElem_drop, List.getElem_take]
      omega
  have := key n (Nat.le_refl _)
  rw [this, hxy]
theorem mean_l0 (l : List Int) (h1 : 1 ≤ l.length) (h2 : l.length ≤ 40) (hv : ∀ x ∈ l, 0 ≤ x ∧ x ≤ 10000) : ∀ (d i : Nat), i + d = l.length →
    Ev (fun k => dropperref07_mean.l0 k l (pre l i) (i : Int)) (R (pre l l.length) l.length) := by
  intro d
  induction d with
  | zero =>
    intro i hi
    obtain rfl : i = l.length := by omega
    refine Ev.step (fun k => by rw [dropperref07_mean.l0]) ?_
    have hb := pre_bound hv 0 l.length
    simp only [Nat.zero_add] at hb
    have h0 : pre l 0 = 0 := rfl
    refine ev_neg (by omega) ?_
    exact Ev.bind (rratio_ev (by omega) (by omega) (by omega) (by omega)) (Ev.now _)
  | succ d ih =>
    intro i hi
    refine Ev.step (fun k => by rw [dropperref07_mean.l0]) ?_
    have hb := pre_bound hv 0 i
    simp only [Nat.zero_add] at hb
    have h0 : pre l 0 = 0 := rfl
    have hr := rd_bound hv i
    refine ev_pos (by omega) (ev_pos (by omega) ?_)
    have e1 : wrap64 (pre l i + rd l (i : Int)) = pre l (i + 1) := by
      show _ = pre l i + rd l (i : Int)
      exact wrap_id (by omega) (by omega)
    rw [e1, wrap_succ _ (by omega)]
    exact ih (i + 1) (by omega)
theorem mean_ev (r : List Int) (h2 : r.length ≤ 40) (hv : ∀ x ∈ r, 0 ≤ x ∧ x ≤ 10000) (a c : Nat) (hc : 1 ≤ c) (hac : a + c ≤ r.length) :
    Ev (fun k => dropperref07_mean.f k ((r.take (a + c)).drop a)) (R (sm r a c) c) := by
  have hlen : ((r.take (a + c)).drop a).length = c := by simp; omega
  have := mean_l0 ((r.take (a + c)).drop a) (by omega) (by omega) (fun x hx => hv x (List.mem_of_mem_take (List.mem_of_mem_drop hx))) c 0 (by omega)
  rw [hlen] at this
  rw [pre_list r c a (a + c) rfl hac] at this
  exact this
/-- the mean from a on that is the least of those that go beyond i, of those up to e -/
def Least (r : List Int) (i a c e : Nat) : Prop := i < a + c ∧ a + c ≤ e ∧ ∀ y, i < a + y → a + y ≤ e → sm r a c * y ≤ sm r a y * c
theorem between_l1 (r : List Int) (h2 : r.length ≤ 40) (hv : ∀ x ∈ r, 0 ≤ x ∧ x ≤ 10000) (i : Nat) (hi : i < r.length) (a : Nat) (hai : a ≤ i) (best : Int × Int) (res : Int × Int)
    (hend : ∀ c, Least r i a c r.length → Ev (fun k => if (a : Int) = 0 then (dropperref07_between.l0 k r (i : Int) (wrap64 ((a : Int) + 1)) (R (sm r a c) c).1 (R (sm r a c) c).2) else ((dropperref07_Less.f best.1 best.2 (R (sm r a c) c).1 (R (sm r a c) c).2).bind fun t301 => (if t301 = true then (dropperref07_between.l0 k r (i : Int) (wrap64 ((a : Int) + 1)) (R (sm r a c) c).1 (R (sm r a c) c).2) else (dropperref07_between.l0 k r (i : Int) (wrap64 ((a : Int) + 1)) best.1 best.2)))) res) :
    ∀ (d e c : Nat), e + d = r.length → i ≤ e → Least r i a c (max e (i + 1)) →
    Ev (fun k => dropperref07_between.l1 k r (i : Int) (a : Int) (e : Int) best.1 best.2 (R (sm r a c) c).1 (R (sm r a c) c).2) res := by
  intro d
  induction d with
  | zero =>
    intro e c he hie hl
    obtain rfl : e = r.length := by omega
    refine Ev.step (fun k => by rw [dropperref07_between.l1]) ?_
    refine ev_neg (by omega) (hend c ?_)
    have : max r.length (i + 1) = r.length := by omega
    rw [this] at hl
    exact hl
  | succ d ih =>
    intro e c he hie hl
    have hlt : e < r.length := by omega
    obtain ⟨l1, l2, l3⟩ := hl
    obtain ⟨y, hy⟩ : ∃ y, e + 1 = a + y := ⟨e + 1 - a, by omega⟩
    have by_ := sm_bound hv a y
    have bc_ := sm_bound hv a c
    refine Ev.step (fun k => by rw [dropperref07_between.l1]) ?_
    rw [wrap_succ e (by omega), hy]
    refine ev_pos (by omega) (ev_pos (by omega) (ev_pos (by omega) (ev_pos (by omega) ?_)))
    have e1 : ((a + y : Nat) : Int).toNat = a + y := Int.toNat_natCast _
    have e2 : ((a : Nat) : Int).toNat = a := Int.toNat_natCast _
    rw [e1, e2]
    refine Ev.bind (mean_ev r h2 hv a y (by omega) (by omega)) ?_
    rw [refLess_f (by omega) (by omega) (by omega) (by omega) (by omega) (by omega) (by omega) (by omega)]
    refine ev_some ?_
    have hmax : max (a + y) (i + 1) = a + y := by omega
    by_cases hlt2 : sm r a y * c < sm r a c * y
    · refine ev_pos (by simpa using hlt2) ?_
      refine ih (a + y) y (by omega) (by omega) ?_
      rw [hmax]
      refine ⟨by omega, by omega, fun z hz1 hz2 => ?_⟩
      by_cases hzy : z = y
      · subst hzy; exact Int.le_refl _
      · have h3 := l3 z hz1 (by omega)
        have c0 : (0 : Int) < (c : Int) := by omega
        have z0 : (0 : Int) ≤ (z : Int) := by omega
        have y0 : (0 : Int) ≤ (y : Int) := by omega
        clear l3 by_ bc_
        generalize sm r a y = A at *
        generalize sm r a c = B at *
        generalize sm r a z = D at *
        generalize hC : (c : Int) = C at *
        generalize hY : (y : Int) = Y at *
        generalize hZ : (z : Int) = Z at *
        apply Int.le_of_mul_le_mul_left (a := C) _ c0
        have k1 : A * C * Z ≤ B * Y * Z := Int.mul_le_mul_of_nonneg_right (Int.le_of_lt hlt2) z0
        have k2 : B * Z * Y ≤ D * C * Y := Int.mul_le_mul_of_nonneg_right h3 y0
        grind
    · refine ev_neg (by simpa using hlt2) ?_
      refine ih (a + y) c (by omega) (by omega) ?_
      rw [hmax]
      refine ⟨by omega, by omega, fun z hz1 hz2 => ?_⟩
      by_cases hzy : z = y
      · subst hzy; omega
      · exact l3 z hz1 (by omega)
/-- the greatest so far -/
def Best (r : List Int) (i a a0 c0 : Nat) : Prop := a0 ≤ i ∧ Least r i a0 c0 r.length ∧ ∀ a', a' < a → ∃ c', Least r i a' c' r.length ∧ sm r a' c' * c0 ≤ sm r a0 c0 * c'
theorem between_l0 (r : List Int) (h2 : r.length ≤ 40) (hv : ∀ x ∈ r, 0 ≤ x ∧ x ≤ 10000) (i : Nat) (hi : i < r.length) (res : Int × Int)
    (hres : ∀ a0 c0, Best r i (i + 1) a0 c0 → R (sm r a0 c0) c0 = res) :
    ∀ (d a : Nat) (best : Int × Int), a + d = i + 1 → (a = 0 ∨ ∃ a0 c0, best = R (sm r a0 c0) c0 ∧ Best r i a a0 c0) →
    Ev (fun k => dropperref07_between.l0 k r (i : Int) (a : Int) best.1 best.2) res := by
  intro d
  induction d with
  | zero =>
    intro a best ha hb
    obtain rfl : a = i + 1 := by omega
    refine Ev.step (fun k => by rw [dropperref07_between.l0]) ?_
    refine ev_neg (by omega) (ev_const ?_)
    rcases hb with hb | ⟨a0, c0, rfl, hb⟩
    · omega
    · rw [← hres a0 c0 hb]
  | succ d ih =>
    intro a best ha hb
    refine Ev.step (fun k => by rw [dropperref07_between.l0]) ?_
    obtain ⟨y, hy⟩ : ∃ y, i + 1 = a + y := ⟨i + 1 - a, by omega⟩
    have e1 : ((a + y : Nat) : Int).toNat = a + y := Int.toNat_natCast _
    have e2 : ((a : Nat) : Int).toNat = a := Int.toNat_natCast _
    refine ev_pos (by omega) ?_
    rw [wrap_succ i (by omega), hy]
    refine ev_pos (by omega) (ev_pos (by omega) (ev_pos (by omega) ?_))
    rw [e1, e2]
    refine Ev.bind (mean_ev r h2 hv a y (by omega) (by omega)) ?_
    refine between_l1 r h2 hv i hi a (by omega) best res (fun c hl => ?_) (r.length - i) i y (by omega) (Nat.le_refl _) ?_
    · by_cases h0 : a = 0
      · subst h0
        refine ev_pos rfl ?_
        rw [wrap_succ 0 (by omega)]
        refine ih 1 (R (sm r 0 c) c) (by omega) (.inr ⟨0, c, rfl, Nat.zero_le _, hl, fun a' ha' => ?_⟩)
        obtain rfl : a' = 0 := by omega
        exact ⟨c, hl, Int.le_refl _⟩
      · refine ev_neg (by omega) ?_
        rcases hb with hb | ⟨a0, c0, rfl, b1, b2, b3⟩
        · exact absurd hb h0
        · have l1 := hl.1
          have l2 := hl.2.1
          have m1 := b2.1
          have m2 := b2.2.1
          have s1 := sm_bound hv a0 c0
          have s2 := sm_bound hv a c
          rw [refLess_f (by omega) (by omega) (by omega) (by omega) (by omega) (by omega) (by omega) (by omega), wrap_succ a (by omega)]
          refine ev_some ?_
          by_cases hlt : sm r a0 c0 * c < sm r a c * c0
          · refine ev_pos (by simpa using hlt) ?_
            refine ih (a + 1) (R (sm r a c) c) (by omega) (.inr ⟨a, c, rfl, by omega, hl, fun a' ha' => ?_⟩)
            by_cases haa : a' = a
            · subst haa; exact ⟨c, hl, Int.le_refl _⟩
            · obtain ⟨c', q1, q2⟩ := b3 a' (by omega)
              refine ⟨c', q1, ?_⟩
              have z0 : (0 : Int) ≤ (c : Int) := by omega
              have z1 : (0 : Int) < (c0 : Int) := by omega
              have z2 : (0 : Int) ≤ (c' : Int) := by omega
              clear s1 s2 hres ih b3
              generalize sm r a0 c0 = A at *
              generalize sm r a c = B at *
              generalize sm r a' c' = D at *
              generalize (c : Int) = C at *
              generalize (c0 : Int) = X at *
              generalize (c' : Int) = Z at *
              apply Int.le_of_mul_le_mul_left (a := X) _ z1
              have k1 : D * X * C ≤ A * Z * C := Int.mul_le_mul_of_nonneg_right q2 z0
              have k2 : A * C * Z ≤ B * X * Z := Int.mul_le_mul_of_nonneg_right (Int.le_of_lt hlt) z2
              grind
          · refine ev_neg (by simpa using hlt) ?_
            refine ih (a + 1) (R (sm r a0 c0) c0) (by omega) (.inr ⟨a0, c0, rfl, b1, b2, fun a' ha' => ?_⟩)
            by_cases haa : a' = a
            · subst haa; exact ⟨c, hl, by omega⟩
            · exact b3 a' (by omega)
    · have : max i (i + 1) = i + 1 := by omega
      rw [this, hy]
      refine ⟨by omega, Nat.le_refl _, fun z h1 h2 => ?_⟩
      obtain rfl : z = y := by omega
      exact Int.le_refl _
theorem best_is (r : List Int) (h2 : r.length ≤ 40) (hv : ∀ x ∈ r, 0 ≤ x ∧ x ≤ 10000) (L : List Blk) (hc : Chain r 0 L r.length) (hp : L.Pairwise (Lt r)) (b : Blk) (hb : b ∈ L) (i : Nat) (h3 : b.f ≤ i) (h4 : i < b.f + b.c) (a0 c0 : Nat) (hB : Best r i (i + 1) a0 c0) :
    R (sm r a0 c0) c0 = mn_ r b := by
  have hm := chain_mem r L 0 _ hc b hb
  have hsup := support r L _ hc hp b hb
  have hok := hm.1.1
  obtain ⟨g1, g2, g3⟩ := hB
  obtain ⟨c', q1, q2⟩ := g3 b.f (by omega)
  have q0 := q1.1
  have q3 := q1.2.1
  have g4 := g2.1
  have g5 := g2.2.1
  -- the block's mean is not more than the least from its beginning, so not more than the best
  have u1 : sm r b.f b.c * c' ≤ sm r b.f c' * b.c := by
    have := hsup (b.f + c') q3
    unfold phi at this
    unfold sm at this ⊢
    have e : ((b.f + c' : Nat) : Int) = (b.f : Int) + (c' : Int) := by omega
    rw [e] at this
    grind
  -- the best is not more than the mean up to the block's end, so not more than the block's
  obtain ⟨y, hy⟩ : ∃ y, b.f + b.c = a0 + y := ⟨b.f + b.c - a0, by omega⟩
  have u2 := g2.2.2 y (by omega) (by omega)
  have u3 : sm r a0 y * b.c ≤ sm r b.f b.c * y := by
    have := hsup a0 (by omega)
    unfold phi at this
    have ey : pre r (a0 + y) = pre r (b.f + b.c) := by rw [hy]
    unfold sm at this ⊢
    rw [ey]
    have e : (b.f : Int) + (b.c : Int) = (a0 : Int) + (y : Int) := by omega
    have e2 : (y : Int) = (b.f : Int) + (b.c : Int) - (a0 : Int) := by omega
    rw [e2]
    grind
  have s1 := sm_bound hv a0 c0
  have s2 := sm_bound hv b.f b.c
  refine R_eq (by omega) (by omega) (by omega) (by omega) ?_
  have z1 : (0 : Int) < (c' : Int) := by omega
  have z2 : (0 : Int) < (y : Int) := by omega
  have z3 : (0 : Int) ≤ (b.c : Int) := by omega
  have z4 : (0 : Int) ≤ (c0 : Int) := by omega
  clear hsup g3 g2 q1 s1 s2
  generalize sm r a0 c0 = A at *
  generalize sm r b.f b.c = S at *
  generalize sm r b.f c' = D at *
  generalize sm r a0 y = E at *
  generalize (c0 : Int) = X at *
  generalize (b.c : Int) = C at *
  generalize (c' : Int) = Z at *
  generalize (y : Int) = Y at *
  apply Int.le_antisymm
  · apply Int.le_of_mul_le_mul_left (a := Y) _ z2
    have k1 : A * Y * C ≤ E * X * C := Int.mul_le_mul_of_nonneg_right u2 z3
    have k2 : E * C * X ≤ S * Y * X := Int.mul_le_mul_of_nonneg_right u3 z4
    grind
  · apply Int.le_of_mul_le_mul_left (a := Z) _ z1
    have k1 : S * Z * X ≤ D * C * X := Int.mul_le_mul_of_nonneg_right u1 z4
    have k2 : D * X * C ≤ A * Z * C := Int.mul_le_mul_of_nonneg_right q2 z3
    grind
/-- THE MEAN OF THE BLOCK is the greatest of the least means. -/
theorem between_ev (r : List Int) (h2 : r.length ≤ 40) (hv : ∀ x ∈ r, 0 ≤ x ∧ x ≤ 10000) (L : List Blk) (hc : Chain r 0 L r.length) (hp : L.Pairwise (Lt r)) (b : Blk) (hb : b ∈ L) (i : Nat) (h3 : b.f ≤ i) (h4 : i < b.f + b.c) :
    Ev (fun k => dropperref07_between.f k r (i : Int)) (mn_ r b) := by
  have hm := chain_mem r L 0 _ hc b hb
  exact between_l0 r h2 hv i (by omega) (mn_ r b) (fun a0 c0 hB => best_is r h2 hv L hc hp b hb i h3 h4 a0 c0 hB) (i + 1) 0 (0, 0) (by omega) (.inl rfl)
theorem near_l0 (r : List Int) (h2 : r.length ≤ 40) (hv : ∀ x ∈ r, 0 ≤ x ∧ x ≤ 10000) (L : List Blk) (hc : Chain r 0 L r.length) (hp : L.Pairwise (Lt r)) : ∀ (d i : Nat), i + d = r.length →
    Ev (fun k => dropperref07_Nearest.l0 k r ((nearL r L).take i) (i : Int)) (nearL r L, 0) := by
  intro d
  have hlen := nearL_len r L 0 _ hc
  induction d with
  | zero =>
    intro i hi
    refine Ev.step (fun k => by rw [dropperref07_Nearest.l0]) ?_
    rw [List.take_of_length_le (by omega)]
    exact ev_neg (by omega) (Ev.now _)
  | succ d ih =>
    intro i hi
    refine Ev.step (fun k => by rw [dropperref07_Nearest.l0]) ?_
    obtain ⟨b, hb, q1, q2, q3⟩ := nearL_get r L 0 _ hc i (Nat.zero_le _) (by omega)
    refine ev_pos (by omega) (Ev.bind (between_ev r h2 hv L hc hp b hb i q1 q2) ?_)
    refine ev_pos (by rw [List.length_take]; omega) ?_
    rw [wrap_succ _ (by omega)]
    have e : (nearL r L).take i ++ [(⟨(mn_ r b).1, (mn_ r b).2⟩ : S35)] = (nearL r L).take (i + 1) := by
      rw [List.take_add_one]
      rw [Nat.sub_zero] at q3
      rw [q3]; rfl
    rw [e]
    exact ih (i + 1) (by omega)
end Go.Proofs.Ytpdcpekjafcohaa.Plain

namespace Go.Proofs.Ytpdcpekjafcohaa.Plain
set_option linter.unusedVariables false
set_option linter.unusedSimpArgs false
open Go.RowKit Go.Proofs.Ytpdcpekjafcohaa.XWear Go.Proofs.YtpdcpekjafcohaaW.PrintWords Go.Proofs.YtpdcpekjafcohaaW.PrintLast Go.Proofs.YtpdcpekjafcohaaW.PrintMore

theorem wless_f {n d m e : Int} (hn : 0 ≤ n) (hd : 0 < d) (hm : 0 ≤ m) (he : 0 < e) (bn : n ≤ 1000000) (bd : d ≤ 1000) (bm : m ≤ 1000000) (be : e ≤ 1000) :
    wear_less.f (R n d).1 (R n d).2 (R m e).1 (R m e).2 = some (decide (n * e < m * d)) := by
  unfold wear_less.f
  rw [less_f hn hd hm he bn bd bm be]
theorem wmean_l0 (l : List Int) (h1 : 1 ≤ l.length) (h2 : l.length ≤ 40) (hv : ∀ x ∈ l, 0 ≤ x ∧ x ≤ 10000) : ∀ (d i : Nat), i + d = l.length →
    Ev (fun k => wear_mean.l0 k l (pre l i) l (l.length : Int) (i : Int)) (R (pre l l.length) l.length) := by
  intro d
  induction d with
  | zero =>
    intro i hi
    obtain rfl : i = l.length := by omega
    refine Ev.step (fun k => by rw [wear_mean.l0]) ?_
    have hb := pre_bound hv 0 l.length
    simp only [Nat.zero_add] at hb
    have h0 : pre l 0 = 0 := rfl
    refine ev_neg (by omega) ?_
    exact Ev.bind (ratio_ev (by omega) (by omega) (by omega) (by omega)) (Ev.now _)
  | succ d ih =>
    intro i hi
    refine Ev.step (fun k => by rw [wear_mean.l0]) ?_
    have hb := pre_bound hv 0 i
    simp only [Nat.zero_add] at hb
    have h0 : pre l 0 = 0 := rfl
    have hr := rd_bound hv i
    refine ev_pos (by omega) (ev_pos (by omega) (ev_pos (by omega) ?_))
    have e1 : wrap64 (pre l i + rd l (i : Int)) = pre l (i + 1) := by
      show _ = pre l i + rd l (i : Int)
      exact wrap_id (by omega) (by omega)
    rw [e1, wrap_succ _ (by omega)]
    exact ih (i + 1) (by omega)
theorem wmean_ev (r : List Int) (h2 : r.length ≤ 40) (hv : ∀ x ∈ r, 0 ≤ x ∧ x ≤ 10000) (a c : Nat) (hc : 1 ≤ c) (hac : a + c ≤ r.length) :
    Ev (fun k => wear_mean.f k ((r.take (a + c)).drop a)) (R (sm r a c) c) := by
  have hlen : ((r.take (a + c)).drop a).length = c := by simp; omega
  have := wmean_l0 ((r.take (a + c)).drop a) (by omega) (by omega) (fun x hx => hv x (List.mem_of_mem_take (List.mem_of_mem_drop hx))) c 0 (by omega)
  rw [hlen] at this
  rw [pre_list r c a (a + c) rfl hac] at this
  unfold wear_mean.f
  rw [hlen]
  exact this
theorem wbetween_l1 (r : List Int) (h2 : r.length ≤ 40) (hv : ∀ x ∈ r, 0 ≤ x ∧ x ≤ 10000) (i : Nat) (hi : i < r.length) (a : Nat) (hai : a ≤ i) (best : Int × Int) (res : Int × Int × Int)
    (hend : ∀ c, Least r i a c r.length → Ev (fun k => if (a : Int) = 0 then (wear_Between.l0 k r (i : Int) ((i + 1 : Nat) : Int) (wrap64 ((a : Int) + 1)) (R (sm r a c) c).1 (R (sm r a c) c).2) else ((wear_less.f best.1 best.2 (R (sm r a c) c).1 (R (sm r a c) c).2).bind fun t301 => (if t301 = true then (wear_Between.l0 k r (i : Int) ((i + 1 : Nat) : Int) (wrap64 ((a : Int) + 1)) (R (sm r a c) c).1 (R (sm r a c) c).2) else (wear_Between.l0 k r (i : Int) ((i + 1 : Nat) : Int) (wrap64 ((a : Int) + 1)) best.1 best.2)))) res) :
    ∀ (d e c : Nat), e + d = r.length → i + 1 ≤ e → Least r i a c (max e (i + 1)) →
    Ev (fun k => wear_Between.l1 k r (i : Int) (a : Int) (e : Int) ((i + 1 : Nat) : Int) (a : Int) best.1 best.2 (R (sm r a c) c).1 (R (sm r a c) c).2) res := by
  intro d
  induction d with
  | zero =>
    intro e c he hie hl
    obtain rfl : e = r.length := by omega
    refine Ev.step (fun k => by rw [wear_Between.l1]) ?_
    refine ev_neg (by omega) (hend c ?_)
    have : max r.length (i + 1) = r.length := by omega
    rw [this] at hl
    exact hl
  | succ d ih =>
    intro e c he hie hl
    have hlt : e < r.length := by omega
    obtain ⟨l1, l2, l3⟩ := hl
    obtain ⟨y, hy⟩ : ∃ y, e + 1 = a + y := ⟨e + 1 - a, by omega⟩
    have by_ := sm_bound hv a y
    have bc_ := sm_bound hv a c
    refine Ev.step (fun k => by rw [wear_Between.l1]) ?_
    rw [wrap_succ e (by omega), hy]
    refine ev_pos (by omega) (ev_pos (by omega) (ev_pos (by omega) (ev_pos (by omega) ?_)))
    have e1 : ((a + y : Nat) : Int).toNat = a + y := Int.toNat_natCast _
    have e2 : ((a : Nat) : Int).toNat = a := Int.toNat_natCast _
    rw [e1, e2]
    refine Ev.bind (wmean_ev r h2 hv a y (by omega) (by omega)) ?_
    rw [wless_f (by omega) (by omega) (by omega) (by omega) (by omega) (by omega) (by omega) (by omega)]
    refine ev_some ?_
    have hmax : max (a + y) (i + 1) = a + y := by omega
    by_cases hlt2 : sm r a y * c < sm r a c * y
    · refine ev_pos (by simpa using hlt2) ?_
      refine ih (a + y) y (by omega) (by omega) ?_
      rw [hmax]
      refine ⟨by omega, by omega, fun z hz1 hz2 => ?_⟩
      by_cases hzy : z = y
      · subst hzy; exact Int.le_refl _
      · have h3 := l3 z hz1 (by omega)
        have c0 : (0 : Int) < (c : Int) := by omega
        have z0 : (0 : Int) ≤ (z : Int) := by omega
        have y0 : (0 : Int) ≤ (y : Int) := by omega
        clear l3 by_ bc_
        generalize sm r a y = A at *
        generalize sm r a c = B at *
        generalize sm r a z = D at *
        generalize hC : (c : Int) = C at *
        generalize hY : (y : Int) = Y at *
        generalize hZ : (z : Int) = Z at *
        apply Int.le_of_mul_le_mul_left (a := C) _ c0
        have k1 : A * C * Z ≤ B * Y * Z := Int.mul_le_mul_of_nonneg_right (Int.le_of_lt hlt2) z0
        have k2 : B * Z * Y ≤ D * C * Y := Int.mul_le_mul_of_nonneg_right h3 y0
        grind
    · refine ev_neg (by simpa using hlt2) ?_
      refine ih (a + y) c (by omega) (by omega) ?_
      rw [hmax]
      refine ⟨by omega, by omega, fun z hz1 hz2 => ?_⟩
      by_cases hzy : z = y
      · subst hzy; omega
      · exact l3 z hz1 (by omega)
theorem wbetween_l0 (r : List Int) (h2 : r.length ≤ 40) (hv : ∀ x ∈ r, 0 ≤ x ∧ x ≤ 10000) (i : Nat) (hi : i < r.length) (res : Int × Int)
    (hres : ∀ a0 c0, Best r i (i + 1) a0 c0 → R (sm r a0 c0) c0 = res) :
    ∀ (d a : Nat) (best : Int × Int), a + d = i + 1 → (a = 0 ∨ ∃ a0 c0, best = R (sm r a0 c0) c0 ∧ Best r i a a0 c0) →
    Ev (fun k => wear_Between.l0 k r (i : Int) ((i + 1 : Nat) : Int) (a : Int) best.1 best.2) (res.1, res.2, 0) := by
  intro d
  induction d with
  | zero =>
    intro a best ha hb
    obtain rfl : a = i + 1 := by omega
    refine Ev.step (fun k => by rw [wear_Between.l0]) ?_
    refine ev_neg (by omega) (ev_const ?_)
    rcases hb with hb | ⟨a0, c0, rfl, hb⟩
    · omega
    · rw [← hres a0 c0 hb]
  | succ d ih =>
    intro a best ha hb
    refine Ev.step (fun k => by rw [wear_Between.l0]) ?_
    obtain ⟨y, hy⟩ : ∃ y, i + 1 = a + y := ⟨i + 1 - a, by omega⟩
    have e1 : ((a + y : Nat) : Int).toNat = a + y := Int.toNat_natCast _
    have e2 : ((a : Nat) : Int).toNat = a := Int.toNat_natCast _
    refine ev_pos (by omega) ?_
    rw [wrap_succ i (by omega), hy]
    refine ev_pos (by omega) (ev_pos (by omega) (ev_pos (by omega) ?_))
    rw [e1, e2]
    refine Ev.bind (wmean_ev r h2 hv a y (by omega) (by omega)) ?_
    rw [← hy]
    refine wbetween_l1 r h2 hv i hi a (by omega) best (res.1, res.2, 0) (fun c hl => ?_) (r.length - (i + 1)) (i + 1) y (by omega) (Nat.le_refl _) ?_
    · by_cases h0 : a = 0
      · subst h0
        refine ev_pos rfl ?_
        rw [wrap_succ 0 (by omega)]
        refine ih 1 (R (sm r 0 c) c) (by omega) (.inr ⟨0, c, rfl, Nat.zero_le _, hl, fun a' ha' => ?_⟩)
        obtain rfl : a' = 0 := by omega
        exact ⟨c, hl, Int.le_refl _⟩
      · refine ev_neg (by omega) ?_
        rcases hb with hb | ⟨a0, c0, rfl, b1, b2, b3⟩
        · exact absurd hb h0
        · have l1 := hl.1
          have l2 := hl.2.1
          have m1 := b2.1
          have m2 := b2.2.1
          have s1 := sm_bound hv a0 c0
          have s2 := sm_bound hv a c
          rw [wless_f (by omega) (by omega) (by omega) (by omega) (by omega) (by omega) (by omega) (by omega), wrap_succ a (by omega)]
          refine ev_some ?_
          by_cases hlt : sm r a0 c0 * c < sm r a c * c0
          · refine ev_pos (by simpa using hlt) ?_
            refine ih (a + 1) (R (sm r a c) c) (by omega) (.inr ⟨a, c, rfl, by omega, hl, fun a' ha' => ?_⟩)
            by_cases haa : a' = a
            · subst haa; exact ⟨c, hl, Int.le_refl _⟩
            · obtain ⟨c', q1, q2⟩ := b3 a' (by omega)
              refine ⟨c', q1, ?_⟩
              have z0 : (0 : Int) ≤ (c : Int) := by omega
              have z1 : (0 : Int) < (c0 : Int) := by omega
              have z2 : (0 : Int) ≤ (c' : Int) := by omega
              clear s1 s2 hres ih b3
              generalize sm r a0 c0 = A at *
              generalize sm r a c = B at *
              generalize sm r a' c' = D at *
              generalize (c : Int) = C at *
              generalize (c0 : Int) = X at *
              generalize (c' : Int) = Z at *
              apply Int.le_of_mul_le_mul_left (a := X) _ z1
              have k1 : D * X * C ≤ A * Z * C := Int.mul_le_mul_of_nonneg_right q2 z0
              have k2 : A * C * Z ≤ B * X * Z := Int.mul_le_mul_of_nonneg_right (Int.le_of_lt hlt) z2
              grind
          · refine ev_neg (by simpa using hlt) ?_
            refine ih (a + 1) (R (sm r a0 c0) c0) (by omega) (.inr ⟨a0, c0, rfl, b1, b2, fun a' ha' => ?_⟩)
            by_cases haa : a' = a
            · subst haa; exact ⟨c, hl, by omega⟩
            · exact b3 a' (by omega)
    · have : max (i + 1) (i + 1) = i + 1 := by omega
      rw [this, hy]
      refine ⟨by omega, Nat.le_refl _, fun z h1 h2 => ?_⟩
      obtain rfl : z = y := by omega
      exact Int.le_refl _
/-- how many readings fall, up to one -/
def falls (r : List Int) : Nat → Int
  | 0 => 0
  | n + 1 => falls r n + (if rd r ((n + 1 : Nat) : Int) < rd r (n : Int) then 1 else 0)
theorem falls_bound (r : List Int) : ∀ n, 0 ≤ falls r n ∧ falls r n ≤ n
  | 0 => by simp [falls]
  | n + 1 => by
    have := falls_bound r n
    rw [falls]
    split <;> omega
def meanOf (r : List Int) (a b : Int) : Int × Int × Int := if ok r = true then (if 0 ≤ a ∧ a ≤ b ∧ b < (r.length : Int) then ((R (sm r a.toNat (b.toNat + 1 - a.toNat)) ((b.toNat + 1 - a.toNat : Nat) : Int)).1, (R (sm r a.toNat (b.toNat + 1 - a.toNat)) ((b.toNat + 1 - a.toNat : Nat) : Int)).2, 0) else (0, 0, 2)) else (0, 0, 70)
theorem Mean_ev (r : List Int) (a b : Int) : Ev (fun k => wear_Mean.f k r a b) (meanOf r a b) := by
  unfold wear_Mean.f meanOf
  rw [valid_f]
  by_cases h : ok r = true
  · have h' := (ok_iff r).1 h
    rw [if_pos h]
    refine ev_some (ev_pos h ?_)
    rw [within_f]
    by_cases hw : 0 ≤ a ∧ a ≤ b
    · refine ev_some (ev_pos (by simpa using hw) ?_)
      by_cases hb : b ≥ (r.length : Int)
      · rw [if_neg (by omega)]
        exact ev_pos hb (Ev.now _)
      · rw [if_pos (by omega)]
        obtain ⟨x, rfl⟩ := Int.eq_ofNat_of_zero_le hw.1
        obtain ⟨z, rfl⟩ := Int.eq_ofNat_of_zero_le (Int.le_trans hw.1 hw.2)
        obtain ⟨y, hy⟩ : ∃ y, z + 1 = x + y := ⟨z + 1 - x, by omega⟩
        refine ev_neg hb ?_
        rw [wrap_succ z (by omega), hy]
        refine ev_pos (by omega) (ev_pos (by omega) (ev_pos (by omega) ?_))
        rw [Int.toNat_natCast, Int.toNat_natCast]
        refine Ev.bind (wmean_ev r h'.2.1 h'.2.2 x y (by omega) (by omega)) (ev_const ?_)
        rw [show (z : Int).toNat + 1 - x = y by omega]
    · rw [if_neg (by omega)]
      exact ev_some (ev_neg (by simpa using hw) (Ev.now _))
  · rw [if_neg h]
    exact ev_some (ev_neg h (Ev.now _))
theorem Between_no (r : List Int) (h : ¬ ok r = true) (i : Int) : Ev (fun k => wear_Between.f k r i) (0, 0, 70) := by
  unfold wear_Between.f
  rw [valid_f]
  exact ev_some (ev_neg h (Ev.now _))
theorem Between_arg (r : List Int) (h : ok r = true) (i : Int) (hi : ¬ (0 ≤ i ∧ i < (r.length : Int))) : Ev (fun k => wear_Between.f k r i) (0, 0, 2) := by
  have h' := (ok_iff r).1 h
  unfold wear_Between.f
  rw [valid_f]
  refine ev_some (ev_pos h ?_)
  rw [within_f, wrap_id (x := (r.length : Int) - 1) (by omega) (by omega)]
  refine ev_some (ev_neg ?_ (Ev.now _))
  simp only [decide_eq_true_eq]
  omega
theorem Between_ok (r : List Int) (h : ok r = true) (L : List Blk) (hL : Row r L) (b : Blk) (hb : b ∈ L) (i : Nat) (h3 : b.f ≤ i) (h4 : i < b.f + b.c) : Ev (fun k => wear_Between.f k r (i : Int)) ((mn_ r b).1, (mn_ r b).2, 0) := by
  have h' := (ok_iff r).1 h
  have hm := chain_mem r L 0 _ hL.ch b hb
  unfold wear_Between.f
  rw [valid_f]
  refine ev_some (ev_pos h ?_)
  rw [within_f, wrap_id (x := (r.length : Int) - 1) (by omega) (by omega), wrap_succ i (by omega)]
  refine ev_some (ev_pos (by simp only [decide_eq_true_eq]; omega) ?_)
  exact wbetween_l0 r h'.2.1 h'.2.2 i (by omega) (mn_ r b) (fun a0 c0 hB => best_is r h'.2.1 h'.2.2 L hL.ch hL.pw b hb i h3 h4 a0 c0 hB) (i + 1) 0 (0, 0) (by omega) (.inl rfl)
theorem falls_l0 (r : List Int) (h1 : 1 ≤ r.length) (h2 : r.length ≤ 40) : ∀ (d i : Nat), i + d = r.length - 1 → Ev (fun k => wear_Falls.l0 k r (falls r i) ((r.length - 1 : Nat) : Int) (i : Int)) (falls r (r.length - 1), 0) := by
  intro d
  induction d with
  | zero =>
    intro i hi
    obtain rfl : i = r.length - 1 := by omega
    refine Ev.step (fun k => by rw [wear_Falls.l0]) ?_
    exact ev_neg (by omega) (Ev.now _)
  | succ d ih =>
    intro i hi
    have hb := falls_bound r i
    refine Ev.step (fun k => by rw [wear_Falls.l0]) ?_
    have next := ih (i + 1) (by omega)
    rw [falls] at next
    rw [wrap_succ i (by omega)]
    refine ev_pos (by omega) (ev_pos (by omega) (ev_pos (by omega) (ev_pos (by omega) (ev_pos (by omega) ?_))))
    by_cases hf : rd r ((i + 1 : Nat) : Int) < rd r (i : Int)
    · rw [if_pos hf] at next
      refine ev_pos hf ?_
      rw [wrap_id (x := falls r i + 1) (by omega) (by omega)]
      exact next
    · rw [if_neg hf, Int.add_zero] at next
      exact ev_neg hf next
def fallsOf (r : List Int) : Int × Int := if ok r = true then (falls r (r.length - 1), 0) else (0, 70)
theorem Falls_ev (r : List Int) : Ev (fun k => wear_Falls.f k r) (fallsOf r) := by
  unfold wear_Falls.f fallsOf
  rw [valid_f]
  by_cases h : ok r = true
  · have h' := (ok_iff r).1 h
    rw [if_pos h]
    refine ev_some (ev_pos h (ev_pos (by omega) ?_))
    rw [List.length_drop]
    exact falls_l0 r h'.1 h'.2.1 (r.length - 1) 0 (by omega)
  · rw [if_neg h]
    exact ev_some (ev_neg h (Ev.now _))

end Go.Proofs.Ytpdcpekjafcohaa.Plain

namespace Go.Proofs.Ytpdcpekjafcohaa.Plain
set_option linter.unusedVariables false
set_option linter.unusedSimpArgs false
open Go.RowKit Go.Proofs.Ytpdcpekjafcohaa.XWear Go.Proofs.YtpdcpekjafcohaaW.PrintWords Go.Proofs.YtpdcpekjafcohaaW.PrintLast Go.Proofs.YtpdcpekjafcohaaW.PrintMore

theorem RMean_ev (r : List Int) (hl : r.length ≤ 100) (a b : Int) : Ev (fun k => dropperref07_Mean.f k r a b) (meanOf r a b) := by
  unfold dropperref07_Mean.f meanOf
  refine Ev.bind (refValid r (by omega)) ?_
  by_cases h : ok r = true
  · have h' := (ok_iff r).1 h
    rw [if_pos h]
    refine ev_pos h ?_
    by_cases ha : a < 0
    · rw [if_neg (by omega)]
      exact ev_pos ha (Ev.now _)
    refine ev_neg ha ?_
    by_cases hb : b ≥ (r.length : Int)
    · rw [if_neg (by omega)]
      exact ev_pos hb (Ev.now _)
    refine ev_neg hb ?_
    by_cases hab : a > b
    · rw [if_neg (by omega)]
      exact ev_pos hab (Ev.now _)
    refine ev_neg hab ?_
    rw [if_pos (by omega)]
    obtain ⟨x, rfl⟩ := Int.eq_ofNat_of_zero_le (show 0 ≤ a by omega)
    obtain ⟨z, rfl⟩ := Int.eq_ofNat_of_zero_le (show 0 ≤ b by omega)
    obtain ⟨y, hy⟩ : ∃ y, z + 1 = x + y := ⟨z + 1 - x, by omega⟩
    rw [wrap_succ z (by omega), hy]
    refine ev_pos (by omega) (ev_pos (by omega) (ev_pos (by omega) ?_))
    rw [Int.toNat_natCast, Int.toNat_natCast]
    refine Ev.bind (mean_ev r h'.2.1 h'.2.2 x y (by omega) (by omega)) (ev_const ?_)
    rw [show (z : Int).toNat + 1 - x = y by omega]
  · rw [if_neg h]
    exact ev_neg h (Ev.now _)
theorem RBetween_no (r : List Int) (hl : r.length ≤ 100) (h : ¬ ok r = true) (i : Int) : Ev (fun k => dropperref07_Between.f k r i) (0, 0, 70) := by
  unfold dropperref07_Between.f
  exact Ev.bind (refValid r (by omega)) (ev_neg h (Ev.now _))
theorem RBetween_arg (r : List Int) (h : ok r = true) (i : Int) (hi : ¬ (0 ≤ i ∧ i < (r.length : Int))) : Ev (fun k => dropperref07_Between.f k r i) (0, 0, 2) := by
  have h' := (ok_iff r).1 h
  unfold dropperref07_Between.f
  refine Ev.bind (refValid r (by omega)) (ev_pos h ?_)
  by_cases h0 : i < 0
  · exact ev_pos h0 (Ev.now _)
  · exact ev_neg h0 (ev_pos (by omega) (Ev.now _))
theorem RBetween_ok (r : List Int) (h : ok r = true) (L : List Blk) (hL : Row r L) (b : Blk) (hb : b ∈ L) (i : Nat) (h3 : b.f ≤ i) (h4 : i < b.f + b.c) : Ev (fun k => dropperref07_Between.f k r (i : Int)) ((mn_ r b).1, (mn_ r b).2, 0) := by
  have h' := (ok_iff r).1 h
  have hm := chain_mem r L 0 _ hL.ch b hb
  unfold dropperref07_Between.f
  refine Ev.bind (refValid r (by omega)) (ev_pos h (ev_neg (by omega) (ev_neg (by omega) ?_)))
  exact Ev.bind (between_ev r h'.2.1 h'.2.2 L hL.ch hL.pw b hb i h3 h4) (Ev.now _)
theorem rfalls_l0 (r : List Int) (h1 : 1 ≤ r.length) (h2 : r.length ≤ 40) : ∀ (d i : Nat), i + d = r.length - 1 → Ev (fun k => dropperref07_Falls.l0 k r (falls r i) ((i + 1 : Nat) : Int)) (falls r (r.length - 1), 0) := by
  intro d
  induction d with
  | zero =>
    intro i hi
    obtain rfl : i = r.length - 1 := by omega
    refine Ev.step (fun k => by rw [dropperref07_Falls.l0]) ?_
    exact ev_neg (by omega) (Ev.now _)
  | succ d ih =>
    intro i hi
    have hb := falls_bound r i
    refine Ev.step (fun k => by rw [dropperref07_Falls.l0]) ?_
    have next := ih (i + 1) (by omega)
    rw [falls] at next
    have e : wrap64 (((i + 1 : Nat) : Int) - 1) = (i : Int) := by rw [wrap_id] <;> omega
    rw [e, wrap_succ (i + 1) (by omega)]
    refine ev_pos (by omega) (ev_pos (by omega) (ev_pos (by omega) (ev_pos (by omega) ?_)))
    by_cases hf : rd r ((i + 1 : Nat) : Int) < rd r (i : Int)
    · rw [if_pos hf] at next
      refine ev_pos hf ?_
      rw [wrap_id (x := falls r i + 1) (by omega) (by omega)]
      exact next
    · rw [if_neg hf, Int.add_zero] at next
      exact ev_neg hf next
theorem RFalls_ev (r : List Int) (hl : r.length ≤ 100) : Ev (fun k => dropperref07_Falls.f k r) (fallsOf r) := by
  unfold dropperref07_Falls.f fallsOf
  refine Ev.bind (refValid r (by omega)) ?_
  by_cases h : ok r = true
  · have h' := (ok_iff r).1 h
    rw [if_pos h]
    exact ev_pos h (rfalls_l0 r h'.1 h'.2.1 (r.length - 1) 0 (by omega))
  · rw [if_neg h]
    exact ev_neg h (Ev.now _)

end Go.Proofs.Ytpdcpekjafcohaa.Plain

/- The mean of some readings (at most 100), the greatest of the least means at an index, and how often they fall: program and document return the same, with the same errors. No condition but the statement's own. -/
namespace Go.Proofs.Ytpdcpekjafcohaa.Pure
set_option linter.unusedVariables false
set_option linter.unusedSimpArgs false
open Go.RowKit Go.Proofs.Ytpdcpekjafcohaa.XWear Go.Proofs.YtpdcpekjafcohaaW.PrintWords Go.Proofs.YtpdcpekjafcohaaW.PrintLast
open Go.Proofs.Ytpdcpekjafcohaa.Plain

theorem between_both (r : List Int) (hl : r.length ≤ 100) (i : Int) : ∃ v, Ev (fun k => wear_Between.f k r i) v ∧ Ev (fun k => dropperref07_Between.f k r i) v := by
  by_cases h : ok r = true
  · by_cases hi : 0 ≤ i ∧ i < (r.length : Int)
    · obtain ⟨j, rfl⟩ := Int.eq_ofNat_of_zero_le hi.1
      obtain ⟨L, hL⟩ := row r h
      obtain ⟨b, hb, h1, h2, _⟩ := nearL_get r L 0 _ hL.ch j (by omega) (by omega)
      exact ⟨_, Between_ok r h L hL b hb j h1 h2, RBetween_ok r h L hL b hb j h1 h2⟩
    · exact ⟨_, Between_arg r h i hi, RBetween_arg r h i hi⟩
  · exact ⟨_, Between_no r h i, RBetween_no r hl h i⟩
theorem WearMeans : dropperlaw07_WearMeans.Pure := by
  intro r a b i _ _ _ _
  refine Ev.rounds (r := true) (g := fun k => dropperlaw07_WearMeans.f k r a b i) ?_
  unfold dropperlaw07_WearMeans.f dropperlaw07_Long.f
  by_cases h : (r.length : Int) > 100
  · rw [if_pos h]
    exact ev_some (ev_pos rfl (Ev.bind first_ev (Ev.now _)))
  rw [if_neg h]
  refine ev_some (ev_neg (by decide) ?_)
  obtain ⟨v, v1, v2⟩ := between_both r (by omega) i
  refine Ev.bind (Mean_ev r a b) (Ev.bind (RMean_ev r (by omega) a b) (Ev.bind v1 (Ev.bind v2 (Ev.bind (Falls_ev r) (Ev.bind (RFalls_ev r (by omega)) ?_)))))
  exact ev_pos (by simp) (ev_pos rfl (ev_pos (by simp) (ev_pos rfl (ev_pos rfl (ev_pos rfl (Ev.bind first_ev (Ev.now _)))))))

end Go.Proofs.Ytpdcpekjafcohaa.Pure

-- Written by wip/xprint.py of this repo, over the kit's print.py: out of the translation; the oracles in it are by hand. Not trusted: Lean checks it.
namespace Go.Proofs.Ytpdcpekjafcohaa.wearMeans
open Go.ChangeShapes Go.WideShapes Go.ChangeAt Go.RowKit Go.Proofs.Ytpdcpekjafcohaa.Open Go.Proofs.Ytpdcpekjafcohaa.XWear Go.Proofs.YtpdcpekjafcohaaW.PrintWords Go.Proofs.YtpdcpekjafcohaaW.PrintLast Go.Proofs.YtpdcpekjafcohaaW.PrintMore
open Go.ChangeMaps (open_string shut_string)
set_option linter.unusedVariables false
set_option linter.unusedSimpArgs false
theorem own : ownKnob Try.prog.godebug = none := by kernel_rfl
theorem laidOut : laidOutB Try.prog = true := by kernel_rfl
set_option maxRecDepth 100000 in
theorem lifted (os : Os) (started : os.Started) (H : Type) (enc : TypeId × Value → H) :
    ReturnsInHanded {} Try.checked os 12 .any (Rows.wearMeansSpec.pre6 enc Try.prog Try.f12 Rows.wearMeansRow.domain false) (Rows.wearMeansSpec.post enc Try.prog Try.f12 false true false false) := by
  refine returnsInHanded_of_change_sized (C := Try.checked) own started (by kernel_rfl) Try.func12
    (ChangeSpec.witness6 (enc := enc) (C := Try.checked) false ⟨#[], #[.slice none 0 0, .agg #[.int .i64 0, .int .i64 0], .int .i64 0], []⟩ 8 (by kernel_rfl) (by kernel_rfl) (by kernel_rfl) (by kernel_rfl)) ?_
  intro W base args ds gs before hval0 hW hcnd hsz0 _
  have hval : ∀ (j : Nat) t v, Try.f12.params[j]? = some t → args[j]? = some v → Value.okWide Try.prog W .any base t v := hval0
  have hW' := hW
  obtain ⟨p, q, hA0, hV, rfl, hfz, hnd⟩ := hW
  have hA : DataW.TrodAll enc Try.prog W 0 (fun _ => true) true Try.f12.params.toList args.toList ds p := hA0
  rw [Try.params12] at hA hval
  obtain ⟨v0, vs0, d0, ds0, p0, q0, hargs, rfl, rfl, h0, r0⟩ := trodAll_cons hA
  obtain ⟨v1, vs1, d1, ds1, p1, q1, rfl, rfl, rfl, h1, r1⟩ := trodAll_cons r0
  obtain ⟨v2, vs2, d2, ds2, p2, q2, rfl, rfl, rfl, h2, r2⟩ := trodAll_cons r1
  obtain ⟨rfl, rfl, rfl⟩ := trodAll_nil r2
  obtain rfl : args = #[v0, v1, v2] := by cases args; simp_all
  obtain ⟨rfl, rfl⟩ := trodVars_none hV
  obtain ⟨b0, len0, cap0, rfl⟩ := okWide_slice Try.underlying22 (hval 0 22 v0 rfl rfl)
  have k0 := h0
  have lt0 : ∀ x ∈ p0, x.block < W.heap.size := by obtain ⟨m, hm⟩ := k0; exact DataW.trod_lt m _ _ _ hm
  obtain ⟨fuel0, hf0⟩ := h0
  obtain ⟨l0, ⟨A0, c0, hcs0, hc0, hr0⟩, hg0⟩ := (opens_slice Try.underlying22 (opens_int Try.underlying3) (by kernel_rfl)) H enc W fuel0 _ _ hf0
  simp [Value.cells] at hcs0
  obtain ⟨rfl, rfl, rfl⟩ := hcs0
  obtain ⟨cs1, rfl, hz1⟩ := okWide_array Try.underlying57 (hval 1 57 v1 rfl rfl)
  have k1 := h1
  have lt1 : ∀ x ∈ p1, x.block < W.heap.size := by obtain ⟨m, hm⟩ := k1; exact DataW.trod_lt m _ _ _ hm
  obtain ⟨fuel1, hf1⟩ := h1
  obtain ⟨⟨u1_0, u1_1⟩, hK1, hG1⟩ := (opens_two Try.underlying57 (by kernel_rfl) (by kernel_rfl) (opens_int Try.underlying3)) H enc W fuel1 _ _ hf1
  obtain ⟨c1_0, r1_0, e1_0, hk1_0, hk1_1⟩ := hK1
  obtain ⟨g1_0, g1_1⟩ := hG1
  have hq1_0 := hk1_0
  have hq1_1 := hk1_1
  have hq1_0' : c1_0 = _ := hq1_0
  obtain rfl : cs1 = #[.int .i64 u1_0, .int .i64 u1_1] := by
    have h_ := agg_of (l := [.int .i64 u1_0, .int .i64 u1_1]) (cs := cs1) (by rw [e1_0, hq1_0', hq1_1]; rfl)
    exact h_
  obtain ⟨a2, rfl, rfl, rfl, w2⟩ := open_int Try.underlying3 (hval 2 3 v2 rfl rfl) h2
  clear hA0 hval0 hsz0
  obtain ⟨k, h⟩ := Pure.WearMeans l0 u1_0 u1_1 a2 hg0 g1_0 g1_1 w2
  refine (dropperlaw07_WearMeans.calls k _ _ l0 u1_0 u1_1 a2 true W hr0 hc0 h).mono fun e W' ⟨he, bel0⟩ => ?_
  have bel : Below W.heap.size W W' := bel0
  subst he
  exact ⟨_, rfl, _, _, _, [], _, [], hW', trodAll_mk1 (shut_bool Try.underlying4 _), (trodAll_cons_mk (Below.trod laidOut (by kernel_rfl) (of_decide_eq_true (by kernel_rfl)) k0 bel lt0) (trodAll_cons_mk (Below.trod laidOut (by kernel_rfl) (of_decide_eq_true (by kernel_rfl)) k1 bel lt1) (trodAll_cons_mk (shut_int Try.underlying3 w2) trodAll_mk0))), rfl, bel.frame _, fun h => by cases h⟩
theorem over : Rows.wearMeansRow.holds Try.pinned (OpenSpec.ofChange Rows.wearMeansSpec) :=
  OpenClaim.holds_of_wide 12 Try.f12 rfl rfl rfl rfl rfl rfl rfl ⟨rfl, rfl, rfl, rfl, rfl⟩ rfl rfl rfl rfl rfl (by kernel_rfl) Try.func12 (by kernel_rfl)
    (of_decide_eq_true (by kernel_rfl)) (by unfold Func.isWrapper; first | (rw [if_pos (by decide +kernel)]; kernel_rfl) | (rw [if_neg (by decide +kernel)]; exact ⟨rfl, rfl⟩))
    (fun os started H enc _ => lifted os started H enc)
theorem proved : Rows.WearMeansSaid := over
#print axioms proved
end Go.Proofs.Ytpdcpekjafcohaa.wearMeans
namespace Go.Proofs.Ytpdcpekjafcohaa
/-- The row, under a short name, for the claim. -/
theorem wearMeans_holds : Rows.WearMeansSaid := wearMeans.proved
end Go.Proofs.Ytpdcpekjafcohaa
