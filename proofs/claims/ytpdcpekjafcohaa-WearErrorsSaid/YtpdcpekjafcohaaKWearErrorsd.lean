-- Written by wip/pack.py of this repo: texts of this claim, put together.
import Derived.Test.YtpdcpekjafcohaaRows
import Derived.Test.YtpdcpekjafcohaaOpen
import Derived.WalkKit
import Derived.ProofKit
import Derived.OpenShut
import Derived.ShutString
import Derived.ChangeOld
import Derived.Below
import Derived.SizedLaws
import Derived.Test.YtpdcpekjafcohaaKWearErrorsc
-- Written by wip/xprint.py of this repo, over the kit's print.py: out of the translation; the oracles in it are by hand. Not trusted: Lean checks it.
namespace Go.Proofs.Ytpdcpekjafcohaa.XWear
open Go.RowKit Go.Proofs.YtpdcpekjafcohaaW.PrintWords Go.Proofs.YtpdcpekjafcohaaW.PrintLast Go.Proofs.YtpdcpekjafcohaaW.PrintMore
attribute [local go_sem] max2_int min2_int max_two min_two max_three min_three max_four min_four   -- for this text's walks alone
set_option linter.unusedVariables false
set_option linter.unusedSimpArgs false

/-! ### dropperref07_median: function 55 -/
mutual
def dropperref07_median.l0 : Nat → List Int → Int → List Int → Int → Option (List Int)
  | 0, _, _, _, _ => none
  | k + 1, x0, x1, x5, x6 => if x6 < (x0.length : Int) then (dropperref07_median.l1 k x0 x1 x5 x6 ([] : List Int) (wrap64 (x6 - x1))) else (some x5)
def dropperref07_median.l1 : Nat → List Int → Int → List Int → Int → List Int → Int → Option (List Int)
  | 0, _, _, _, _, _, _ => none
  | k + 1, x0, x1, x5, x6, x7, x8 => if x8 ≤ (wrap64 (x6 + x1)) then (if 0 ≤ (mn (mx x8 0) (wrap64 ((x0.length : Int) - 1))) then (if (mn (mx x8 0) (wrap64 ((x0.length : Int) - 1))) < (x0.length : Int) then (if x7.length < 17592186044416 then (dropperref07_median.l1 k x0 x1 x5 x6 (x7 ++ [rd x0 (mn (mx x8 0) (wrap64 ((x0.length : Int) - 1)))]) (wrap64 (x8 + 1))) else (none)) else (none)) else (none)) else ((dropperref07_middle.f k x7).bind fun t205 => (if x5.length < 17592186044416 then (dropperref07_median.l0 k x0 x1 (x5 ++ [t205]) (wrap64 (x6 + 1))) else (none)))
end
def dropperref07_median.f (k : Nat) (l0 : List Int) (a1 : Int) : Option (List Int) := dropperref07_median.l0 k l0 a1 ([] : List Int) 0
theorem dropperref07_median.mono_l : ∀ k, (∀ y0 y1 y2 y3, LeO (dropperref07_median.l0 k y0 y1 y2 y3) (dropperref07_median.l0 (k + 1) y0 y1 y2 y3)) ∧ (∀ y0 y1 y2 y3 y4 y5, LeO (dropperref07_median.l1 k y0 y1 y2 y3 y4 y5) (dropperref07_median.l1 (k + 1) y0 y1 y2 y3 y4 y5))
  | 0 => ⟨fun _ _ _ _ r h => by simp [dropperref07_median.l0] at h, fun _ _ _ _ _ _ r h => by simp [dropperref07_median.l1] at h⟩
  | k + 1 => by
    obtain ⟨ih0, ih1⟩ := dropperref07_median.mono_l k
    refine ⟨?_, ?_⟩
    · intro y0 y1 y2 y3
      unfold dropperref07_median.l0
      repeat' first
      | (with_reducible exact ih0 _ _ _ _)
      | (with_reducible exact ih1 _ _ _ _ _ _)
      | (with_reducible exact dropperref07_middle.mono _ _)
      | (with_reducible exact LeO.refl _)
      | (with_reducible exact LeO.none _)
      | (with_reducible refine LeO.ite ?_ ?_)
      | (with_reducible refine LeO.bind ?_ (fun _ => ?_))
      | exact ih0 _ _ _ _
      | exact ih1 _ _ _ _ _ _
      | exact dropperref07_middle.mono _ _
      | exact LeO.none _
      | refine LeO.ite ?_ ?_
      | refine LeO.bind ?_ (fun _ => ?_)
    · intro y0 y1 y2 y3 y4 y5
      unfold dropperref07_median.l1
      repeat' first
      | (with_reducible exact ih0 _ _ _ _)
      | (with_reducible exact ih1 _ _ _ _ _ _)
      | (with_reducible exact dropperref07_middle.mono _ _)
      | (with_reducible exact LeO.refl _)
      | (with_reducible exact LeO.none _)
      | (with_reducible refine LeO.ite ?_ ?_)
      | (with_reducible refine LeO.bind ?_ (fun _ => ?_))
      | exact ih0 _ _ _ _
      | exact ih1 _ _ _ _ _ _
      | exact dropperref07_middle.mono _ _
      | exact LeO.none _
      | refine LeO.ite ?_ ?_
      | refine LeO.bind ?_ (fun _ => ?_)
theorem dropperref07_median.mono : ∀ a0 a1 k, LeO (dropperref07_median.f k a0 a1) (dropperref07_median.f (k + 1) a0 a1) := by
  intro a0 a1 k
  obtain ⟨ih0, ih1⟩ := dropperref07_median.mono_l k
  unfold dropperref07_median.f
  repeat' first
      | (with_reducible exact ih0 _ _ _ _)
      | (with_reducible exact ih1 _ _ _ _ _ _)
      | (with_reducible exact dropperref07_middle.mono _ _)
      | (with_reducible exact LeO.refl _)
      | (with_reducible exact LeO.none _)
      | (with_reducible refine LeO.ite ?_ ?_)
      | (with_reducible refine LeO.bind ?_ (fun _ => ?_))
      | exact ih0 _ _ _ _
      | exact ih1 _ _ _ _ _ _
      | exact dropperref07_middle.mono _ _
      | exact LeO.none _
      | refine LeO.ite ?_ ?_
      | refine LeO.bind ?_ (fun _ => ?_)
set_option maxHeartbeats 8000000 in
set_option maxRecDepth 100000 in
theorem dropperref07_median.calls (k : Nat) (A0 : Option Addr) (c0 : Nat) (l0 : List Int) (a1 : Int) (r : List Int) (w : World) (hr0 : Kd.C (Kd.int .i64) w A0 l0.length l0) (hc0 : l0.length ≤ c0) (h : dropperref07_median.f k l0 a1 = some r) :
    Calls Try.prog 55 #[.slice A0 l0.length c0, .int .i64 a1] w fun e w' => ∃ v0_ : Value, e = .returned (v0_) ∧ Kd.R (Kd.int .i64) 3 w' w.heap.size (fun _ => True) v0_ r ∧ Below w.heap.size w w' := by
  have HR0 := Aside0.mk hr0
  have HC0 := Aside0.mk hc0
  clear hr0 hc0
  have HB := Aside0.mk (Below.refl w.heap.size w)
  have H : (dropperref07_median.l0 k l0 a1 ([] : List Int) 0) = some r := h
  clear h
  have H' := Aside0.mk H
  clear H
  go_enter Try.func55, Try.ntmps55
  go_wp2
  go_loopg [5, 6] k (fun kq v5 v6 w' => ∃ (x5_1 : List Int) (x6_1 : Int), v6 = .int .i64 x6_1 ∧ Aside0 (dropperref07_median.l0 kq l0 a1 x5_1 x6_1 = some r) ∧ Aside0 (kq ≤ k) ∧ Aside0 (Kd.R (Kd.int .i64) 3 w' w.heap.size (fun _ => True) v5 x5_1) ∧ Aside0 (Below w.heap.size w w'))
  case atStart => exact ⟨(([] : List Int)), (0), (by first | rfl | (simp; done) | (simp [*]; done)), H', ⟨Nat.le_refl _⟩, ⟨by first | exact Kd.R_nil _ _ _ _ _ | exact Kd.N_nil _ _ _ _ _ | exact Kd.V_nil _ _ _ _ _ | exact Kd.Q_nil _ _ _ _ _ | exact Kd.S_nil _ _ _ _ _⟩, ⟨by repeat (first | (with_reducible first | exact HB.out | apply below_alloc | apply pw_below_drewN | apply below_drew1) | exact HB.out)⟩⟩
  case round =>
    clear H'
    try clear p2
    obtain ⟨x5_1, x6_1, rfl, HA, HK1, HO_5, HB⟩ := hrel
    cases gk with
    | zero => exact absurd HA.out (by simp [dropperref07_median.l0])
    | succ k1 =>
      have H := HA.out
      clear HA
      simp only [dropperref07_median.l0] at H
      by_cases c3 : x6_1 < (l0.length : Int)
      · rw [if_pos c3] at H
        have c3b0 : decide (x6_1 < (l0.length : Int)) = true := decide_eq_true c3
        clear c3
        have H' := Aside0.mk H
        clear H
        go_wp2
        go_loopg [7, 8] k1 (fun kq v7 v8 w' => ∃ (x7_2 : List Int) (x8_2 : Int), v8 = .int .i64 x8_2 ∧ Aside0 (dropperref07_median.l1 kq l0 a1 x5_1 x6_1 x7_2 x8_2 = some r) ∧ Aside0 (kq ≤ k1) ∧ Aside0 (Kd.R (Kd.int .i64) 3 w' w.heap.size (fun k_ => some k_ ≠ (v7 : Value).ownBlock) u5 x5_1) ∧ Aside0 (Kd.R (Kd.int .i64) 3 w' w.heap.size (fun k_ => some k_ ≠ (u5 : Value).ownBlock) v7 x7_2) ∧ Aside0 (Below w.heap.size w w'))
        case atStart => exact ⟨(([] : List Int)), (wrap64 (x6_1 - a1)), (by first | rfl | (simp; done) | (simp [*]; done)), H', ⟨Nat.le_refl _⟩, ⟨by (with_reducible repeat (first | apply Kd.R_alloc | apply Kd.R_drewN | apply Kd.R_drew)); exact Kd.R_mono HO_5.out (fun _ hk => (by simp [Value.ownBlock]))⟩, ⟨by first | exact Kd.R_nil _ _ _ _ _ | exact Kd.N_nil _ _ _ _ _ | exact Kd.V_nil _ _ _ _ _ | exact Kd.Q_nil _ _ _ _ _ | exact Kd.S_nil _ _ _ _ _⟩, ⟨by repeat (first | (with_reducible first | exact HB.out | apply below_alloc | apply pw_below_drewN | apply below_drew1) | exact HB.out)⟩⟩
        case round =>
          clear H'
          try clear p2
          try clear c3
          try clear c3b0
          try clear p2
          obtain ⟨x7_2, x8_2, rfl, HA, HK2, HO_5, HO_7, HB⟩ := hrel
          cases gk with
          | zero => exact absurd HA.out (by simp [dropperref07_median.l1])
          | succ k2 =>
            have H := HA.out
            clear HA
            simp only [dropperref07_median.l1] at H
            by_cases c4 : x8_2 ≤ (wrap64 (x6_1 + a1))
            · rw [if_pos c4] at H
              have c4b0 : decide (x8_2 ≤ (wrap64 (x6_1 + a1))) = true := decide_eq_true c4
              clear c4
              obtain ⟨ji5, hji5⟩ : ∃ j_ : Int, (mx x8_2 0) = j_ := ⟨_, rfl⟩
              replace H : (if 0 ≤ (mn (ji5) (wrap64 ((l0.length : Int) - 1))) then (if (mn (ji5) (wrap64 ((l0.length : Int) - 1))) < (l0.length : Int) then (if x7_2.length < 17592186044416 then (dropperref07_median.l1 k2 l0 a1 x5_1 x6_1 (x7_2 ++ [rd l0 (mn (ji5) (wrap64 ((l0.length : Int) - 1)))]) (wrap64 (x8_2 + 1))) else (none)) else (none)) else (none)) = some r := by first | (rw [hji5] at H; exact H) | (simp only [hji5] at H ⊢; exact H)
              have hji5_ : (if x8_2 < 0 then 0 else x8_2) = ji5 := hji5
              obtain ⟨ji6, hji6⟩ : ∃ j_ : Int, (mn (ji5) (wrap64 ((l0.length : Int) - 1))) = j_ := ⟨_, rfl⟩
              replace H : (if 0 ≤ (ji6) then (if (ji6) < (l0.length : Int) then (if x7_2.length < 17592186044416 then (dropperref07_median.l1 k2 l0 a1 x5_1 x6_1 (x7_2 ++ [rd l0 (ji6)]) (wrap64 (x8_2 + 1))) else (none)) else (none)) else (none)) = some r := by first | (rw [hji6] at H; exact H) | (simp only [hji6] at H ⊢; exact H)
              have hji6_ : (if (wrap64 ((l0.length : Int) - 1)) < (ji5) then (wrap64 ((l0.length : Int) - 1)) else (ji5)) = ji6 := hji6
              by_cases c7 : 0 ≤ (ji6)
              · rw [if_pos c7] at H
                have c7b0 : decide (0 ≤ (ji6)) = true := decide_eq_true c7
                clear c7
                by_cases c8 : (ji6) < (l0.length : Int)
                · rw [if_pos c8] at H
                  have c8b0 : decide ((ji6) < (l0.length : Int)) = true := decide_eq_true c8
                  clear c8
                  by_cases c9 : x7_2.length < 17592186044416
                  · rw [if_pos c9] at H
                    have LMc9 := Aside0.mk c9
                    clear c9
                    obtain ⟨y202, hy202⟩ : ∃ y_ : List Int, y_ = (x7_2 ++ [rd l0 (ji6)]) := ⟨_, rfl⟩
                    replace H : (dropperref07_median.l1 k2 l0 a1 x5_1 x6_1 y202 (wrap64 (x8_2 + 1))) = some r := by first | (rw [hy202]; with_reducible exact H) | (have H2_ := (Option.bind_some _ _).symm.trans H; rw [hy202]; with_reducible exact H2_) | (have H2_ := (Option.bind_some _ _).symm.trans H; with_reducible exact H2_) | with_reducible exact H | (rw [hy202]; exact H) | exact H
                    have Ny202 := Aside0.mk hy202
                    clear hy202
                    have H' := Aside0.mk H
                    clear H
                    have p201 : 0 ≤ ((ji6) : Int) := of_decide_eq_true (by first | (with_reducible assumption) | assumption)
                    have q201 : (ji6) < (l0.length : Int) := of_decide_eq_true (by first | (with_reducible assumption) | assumption)
                    obtain ⟨ad201, e201, hx201_0⟩ := Kd.at_int HR0.out (ji6) p201 q201
                    cases e201
                    replace hx201_0 := (HB.out.cell (World.block_lt_of_cell? w _ hx201_0)).trans hx201_0
                    replace p201 := eq_true p201
                    replace q201 := eq_true q201
                    go_wp2_with (first | ((with_reducible refine gate_builtin (b := .append) (xs := #[.tmp 25, .tmp 35]) rfl ?_); at_builtin; refine Kd.R_append (Kd.int .i64) (w0 := w) w.heap.size rfl (.tmp 25) (.tmp 35) 22 3 (.int .i64 0) 8 rfl Try.underlying22 info3 rfl (by decide) (by omega) u7 x7_2 (rd l0 (ji6)) [.int .i64 (rd l0 (ji6))] (fun k_ => some k_ ≠ (u5 : Value).ownBlock) (fun _ => False) rfl rfl ?aP (fun _ hk => hk.elim) ?aF ?aO ?aB ?aS ?aL ?_; (case aP => exact rfl); (case aB => exact (by repeat (first | (with_reducible first | exact HB.out | apply below_alloc | apply pw_below_drewN | apply below_drew1) | exact HB.out))); (case aF => exact (fun k_ hk => Kd.fresh' (Kd.R_lt (by (with_reducible repeat (first | apply Kd.R_alloc | apply Kd.R_drewN | apply Kd.R_drew)); exact HO_5.out)) k_ hk)); (case aO => exact (by (with_reducible repeat (first | apply Kd.R_alloc | apply Kd.R_drewN | apply Kd.R_drew)); exact HO_7.out)); (case aS => exact (below_size (by repeat (first | (with_reducible first | exact HB.out | apply below_alloc | apply pw_below_drewN | apply below_drew1) | exact HB.out)))); (case aL => have := LMc9.out; omega); intro v203 w10 ho hb hg hat; rw [← Ny202.out] at ho; have n0_ := Aside0.mk (Kd.R_after (ok := (fun _ => True)) (by (with_reducible repeat (first | apply Kd.R_alloc | apply Kd.R_drewN | apply Kd.R_drew)); exact Kd.R_mono HO_5.out (fun _ hk => ⟨trivial, hk⟩)) hg hat); have n1_ := Aside0.mk (hb); have n2_ := Aside0.mk (ho); clear HO_5; clear HB; clear HO_7; have HO_5 := n0_; have HB := n1_; have HO204 := n2_; clear n0_ n1_ n2_; clear ho hb hg hat))
                    go_roundg k2
                    case measure => have := HK1.out; have := HK2.out; omega
                    case rel => exact ⟨(y202), (wrap64 (x8_2 + 1)), (by first | rfl | (simp; done) | (simp [*]; done)), H', ⟨by have := HK1.out; have := HK2.out; omega⟩, ⟨by (with_reducible repeat (first | apply Kd.R_alloc | apply Kd.R_drewN | apply Kd.R_drew)); exact Kd.R_mono HO_5.out (fun _ hk => hk.2)⟩, ⟨by (with_reducible repeat (first | apply Kd.R_alloc | apply Kd.R_drewN | apply Kd.R_drew)); exact HO204.out⟩, ⟨by repeat (first | (with_reducible first | exact HB.out | apply below_alloc | apply pw_below_drewN | apply below_drew1) | exact HB.out)⟩⟩
                  · rw [if_neg c9] at H
                    exact absurd H (by simp)
                · rw [if_neg c8] at H
                  exact absurd H (by simp)
              · rw [if_neg c7] at H
                exact absurd H (by simp)
            · rw [if_neg c4] at H
              have c4b0 : decide (x8_2 ≤ (wrap64 (x6_1 + a1))) = false := decide_eq_false c4
              clear c4
              replace H := Option.bind_eq_some_iff.mp H
              obtain ⟨t205, A110, H⟩ := H
              replace H : (if x5_1.length < 17592186044416 then (dropperref07_median.l0 k2 l0 a1 (x5_1 ++ [t205]) (wrap64 (x6_1 + 1))) else (none)) = some r := H
              have A11 := Aside0.mk A110
              clear A110
              by_cases c12 : x5_1.length < 17592186044416
              · rw [if_pos c12] at H
                have LMc12 := Aside0.mk c12
                clear c12
                obtain ⟨y206, hy206⟩ : ∃ y_ : List Int, y_ = (x5_1 ++ [t205]) := ⟨_, rfl⟩
                replace H : (dropperref07_median.l0 k2 l0 a1 y206 (wrap64 (x6_1 + 1))) = some r := by first | (rw [hy206]; with_reducible exact H) | (have H2_ := (Option.bind_some _ _).symm.trans H; rw [hy206]; with_reducible exact H2_) | (have H2_ := (Option.bind_some _ _).symm.trans H; with_reducible exact H2_) | with_reducible exact H | (rw [hy206]; exact H) | exact H
                have Ny206 := Aside0.mk hy206
                clear hy206
                have H' := Aside0.mk H
                clear H
                obtain ⟨Ao13, co13, eo13⟩ := Kd.R_slice HO_7.out
                subst eo13
                go_wp2_with (first | ((with_reducible refine gate_callee (f := 80) rfl ?_); refine goesL_ (some 39) rfl rfl Try.func80 (by kernel_rfl) rfl #[.slice Ao13 x7_2.length co13] rfl (by (try simp only [List.map_toArray, List.map_cons, List.map_nil]); first | done | rfl | (simp only [List.length_drop, List.length_take]; rfl)) ?_; (with_reducible refine (dropperref07_middle.calls k2 _ _ x7_2 t205 _ ?side1 ?side2 A11.out).mono ?_); (case side1 => repeat (first | exact (Kd.R_reads' HO_7.out).2.2 | (with_reducible refine Kd.C_alloc ?_ _) | (with_reducible refine Kd.C_drewN ?_ _) | (with_reducible refine Kd.C_drew ?_))); (case side2 => exact (Kd.R_reads' HO_7.out).2.1); rintro e w' ⟨rfl, ⟨nd, rfl⟩⟩; refine ⟨_, rfl, ?_⟩) | ((with_reducible refine gate_builtin (b := .append) (xs := #[.tmp 37, .tmp 40]) rfl ?_); at_builtin; refine Kd.R_append (Kd.int .i64) (w0 := w) w.heap.size rfl (.tmp 37) (.tmp 40) 22 3 (.int .i64 0) 8 rfl Try.underlying22 info3 rfl (by decide) (by omega) u5 x5_1 t205 [.int .i64 t205] (fun k_ => some k_ ≠ (.slice Ao13 x7_2.length co13 : Value).ownBlock) (fun _ => False) rfl rfl ?aP (fun _ hk => hk.elim) ?aF ?aO ?aB ?aS ?aL ?_; (case aP => exact rfl); (case aB => exact (by repeat (first | (with_reducible first | exact HB.out | apply below_alloc | apply pw_below_drewN | apply below_drew1) | exact HB.out))); (case aF => exact (fun k_ hk => Kd.fresh' (Kd.R_lt (by (with_reducible repeat (first | apply Kd.R_alloc | apply Kd.R_drewN | apply Kd.R_drew)); exact HO_7.out)) k_ hk)); (case aO => exact (by (with_reducible repeat (first | apply Kd.R_alloc | apply Kd.R_drewN | apply Kd.R_drew)); exact HO_5.out)); (case aS => exact (below_size (by repeat (first | (with_reducible first | exact HB.out | apply below_alloc | apply pw_below_drewN | apply below_drew1) | exact HB.out)))); (case aL => have := LMc12.out; omega); intro v207 w14 ho hb hg hat; rw [← Ny206.out] at ho; have n0_ := Aside0.mk (Kd.R_after (ok := (fun _ => True)) (by (with_reducible repeat (first | apply Kd.R_alloc | apply Kd.R_drewN | apply Kd.R_drew)); exact Kd.R_mono HO_7.out (fun _ hk => ⟨trivial, hk⟩)) hg hat); have n1_ := Aside0.mk (hb); have n2_ := Aside0.mk (ho); clear HO_7; clear HB; clear HO_5; have HO_7 := n0_; have HB := n1_; have HO208 := n2_; clear n0_ n1_ n2_; clear ho hb hg hat))
                go_roundg k2
                case measure => have := HK1.out; have := HK2.out; omega
                case rel => exact ⟨(y206), (wrap64 (x6_1 + 1)), (by first | rfl | (simp; done) | (simp [*]; done)), H', ⟨by have := HK1.out; have := HK2.out; omega⟩, ⟨by (with_reducible repeat (first | apply Kd.R_alloc | apply Kd.R_drewN | apply Kd.R_drew)); exact Kd.R_mono HO208.out (fun _ hk => trivial)⟩, ⟨by repeat (first | (with_reducible first | exact HB.out | apply below_alloc | apply pw_below_drewN | apply below_drew1) | exact HB.out)⟩⟩
              · rw [if_neg c12] at H
                exact absurd H (by simp)
      · rw [if_neg c3] at H
        have c3b0 : decide (x6_1 < (l0.length : Int)) = false := decide_eq_false c3
        clear c3
        obtain rfl := Option.some.inj H
        go_wp2
        go_ret
        exact ⟨_, by first | rfl | (simp [errW_none, errW_some] <;> rfl) | (simp [*, errW_none, errW_some] <;> rfl), by (with_reducible repeat (first | apply Kd.R_alloc | apply Kd.R_drewN | apply Kd.R_drew)); exact HO_5.out, by repeat (first | (with_reducible first | exact HB.out | apply below_alloc | apply pw_below_drewN | apply below_drew1) | exact HB.out)⟩

end Go.Proofs.Ytpdcpekjafcohaa.XWear

-- Written by wip/xprint.py of this repo, over the kit's print.py: out of the translation; the oracles in it are by hand. Not trusted: Lean checks it.
namespace Go.Proofs.Ytpdcpekjafcohaa.XWear
open Go.RowKit Go.Proofs.YtpdcpekjafcohaaW.PrintWords Go.Proofs.YtpdcpekjafcohaaW.PrintLast Go.Proofs.YtpdcpekjafcohaaW.PrintMore
attribute [local go_sem] max2_int min2_int max_two min_two max_three min_three max_four min_four   -- for this text's walks alone
set_option linter.unusedVariables false
set_option linter.unusedSimpArgs false

/-! ### dropperref07_Median: function 17 -/
def dropperref07_Median.f (k : Nat) (l0 : List Int) (a1 : Int) : Option (List Int × Int) := (dropperref07_asked.f k l0 a1).bind fun t209 => (if t209 = 0 then ((dropperref07_median.f k l0 a1).bind fun t210 => (some (t210, 0))) else (some (([] : List Int), t209)))
theorem dropperref07_Median.mono : ∀ a0 a1 k, LeO (dropperref07_Median.f k a0 a1) (dropperref07_Median.f (k + 1) a0 a1) := by
  intro a0 a1 k
  unfold dropperref07_Median.f
  repeat' first
      | (with_reducible exact dropperref07_asked.mono _ _ _)
      | (with_reducible exact dropperref07_median.mono _ _ _)
      | (with_reducible exact LeO.refl _)
      | (with_reducible exact LeO.none _)
      | (with_reducible refine LeO.ite ?_ ?_)
      | (with_reducible refine LeO.bind ?_ (fun _ => ?_))
      | exact dropperref07_asked.mono _ _ _
      | exact dropperref07_median.mono _ _ _
      | exact LeO.none _
      | refine LeO.ite ?_ ?_
      | refine LeO.bind ?_ (fun _ => ?_)
set_option maxHeartbeats 8000000 in
set_option maxRecDepth 100000 in
theorem dropperref07_Median.calls (k : Nat) (A0 : Option Addr) (c0 : Nat) (l0 : List Int) (a1 : Int) (r1 : List Int) (r2 : Int) (w : World) (hr0 : Kd.C (Kd.int .i64) w A0 l0.length l0) (hc0 : l0.length ≤ c0) (h : dropperref07_Median.f k l0 a1 = some (r1, r2)) :
    Calls Try.prog 17 #[.slice A0 l0.length c0, .int .i64 a1] w fun e w' => ∃ v0_ : Value, e = .returned (.tuple #[v0_, .int .i64 r2]) ∧ Kd.R (Kd.int .i64) 3 w' w.heap.size (fun _ => True) v0_ r1 ∧ Below w.heap.size w w' := by
  have HR0 := Aside0.mk hr0
  have HC0 := Aside0.mk hc0
  clear hr0 hc0
  have HB := Aside0.mk (Below.refl w.heap.size w)
  have H : ((dropperref07_asked.f k l0 a1).bind fun t209 => (if t209 = 0 then ((dropperref07_median.f k l0 a1).bind fun t210 => (some (t210, 0))) else (some (([] : List Int), t209)))) = some (r1, r2) := h
  clear h
  replace H := Option.bind_eq_some_iff.mp H
  obtain ⟨t209, A30, H⟩ := H
  replace H : (if t209 = 0 then ((dropperref07_median.f k l0 a1).bind fun t210 => (some (t210, 0))) else (some (([] : List Int), t209))) = some (r1, r2) := H
  have A3 := Aside0.mk A30
  clear A30
  by_cases c4 : t209 = 0
  · rw [if_pos c4] at H
    have c4b0 : (t209 == 0) = true := beq_iff_eq.mpr c4
    have c4b1 : (t209 != 0) = false := bne_eq_false_iff_eq.mpr c4
    clear c4
    replace H := Option.bind_eq_some_iff.mp H
    obtain ⟨t210, A50, H⟩ := H
    replace H : (some (t210, 0)) = some (r1, r2) := H
    have A5 := Aside0.mk A50
    clear A50
    simp only [Option.some.injEq, Prod.mk.injEq] at H
    obtain ⟨rfl, rfl⟩ := H
    go_enter Try.func17, Try.ntmps17
    go_wp2_with (first | ((with_reducible refine gate_callee (f := 54) rfl ?_); refine goesL_ (some 9) rfl rfl Try.func54 (by kernel_rfl) rfl #[.slice A0 l0.length c0, .int .i64 a1] rfl (by (try simp only [List.map_toArray, List.map_cons, List.map_nil]); first | done | rfl | (simp only [List.length_drop, List.length_take]; rfl)) ?_; (with_reducible refine (dropperref07_asked.calls k _ _ l0 a1 t209 _ ?side1 ?side2 A3.out).mono ?_); (case side1 => repeat (first | exact HR0.out | (with_reducible refine Kd.C_alloc ?_ _) | (with_reducible refine Kd.C_drewN ?_ _) | (with_reducible refine Kd.C_drew ?_))); (case side2 => exact HC0.out); rintro e w' ⟨rfl, ⟨nd, rfl⟩⟩; refine ⟨_, rfl, ?_⟩) | ((with_reducible refine gate_callee (f := 55) rfl ?_); refine goesL_ (some 15) rfl rfl Try.func55 (by kernel_rfl) rfl #[.slice A0 l0.length c0, .int .i64 a1] rfl (by (try simp only [List.map_toArray, List.map_cons, List.map_nil]); first | done | rfl | (simp only [List.length_drop, List.length_take]; rfl)) ?_; (with_reducible refine (dropperref07_median.calls k _ _ l0 a1 t210 _ ?side1 ?side2 A5.out).mono ?_); (case side1 => repeat (first | exact HR0.out | (with_reducible refine Kd.C_alloc ?_ _) | (with_reducible refine Kd.C_drewN ?_ _) | (with_reducible refine Kd.C_drew ?_))); (case side2 => exact HC0.out); rintro e w6 ⟨v211, rfl, ho0, hb⟩; refine ⟨_, rfl, ?_⟩; have n0_ := Aside0.mk (Kd.R_lower ho0 (below_size (by repeat (first | (with_reducible first | exact HB.out | apply below_alloc | apply pw_below_drewN | apply below_drew1) | exact HB.out)))); have n1_ := Aside0.mk (below_step (by repeat (first | (with_reducible first | exact HB.out | apply below_alloc | apply pw_below_drewN | apply below_drew1) | exact HB.out)) hb); clear HB; have HO212 := n0_; have HB := n1_; clear n0_ n1_; (try clear hb); (try clear hb2); (try clear hk); (try clear hi); (try clear ho0)))
    go_ret2
    exact ⟨_, by first | rfl | (simp [errW_none, errW_some] <;> rfl) | (simp [*, errW_none, errW_some] <;> rfl), by (with_reducible repeat (first | apply Kd.R_alloc | apply Kd.R_drewN | apply Kd.R_drew)); exact HO212.out, by repeat (first | (with_reducible first | exact HB.out | apply below_alloc | apply pw_below_drewN | apply below_drew1) | exact HB.out)⟩
  · rw [if_neg c4] at H
    have c4b0 : (t209 == 0) = false := beq_eq_false_iff_ne.mpr c4
    have c4b1 : (t209 != 0) = true := bne_iff_ne.mpr c4
    simp only [Option.some.injEq, Prod.mk.injEq] at H
    obtain ⟨rfl, rfl⟩ := H
    go_enter Try.func17, Try.ntmps17
    go_wp2_with (first | ((with_reducible refine gate_callee (f := 54) rfl ?_); refine goesL_ (some 9) rfl rfl Try.func54 (by kernel_rfl) rfl #[.slice A0 l0.length c0, .int .i64 a1] rfl (by (try simp only [List.map_toArray, List.map_cons, List.map_nil]); first | done | rfl | (simp only [List.length_drop, List.length_take]; rfl)) ?_; (with_reducible refine (dropperref07_asked.calls k _ _ l0 a1 t209 _ ?side1 ?side2 A3.out).mono ?_); (case side1 => repeat (first | exact HR0.out | (with_reducible refine Kd.C_alloc ?_ _) | (with_reducible refine Kd.C_drewN ?_ _) | (with_reducible refine Kd.C_drew ?_))); (case side2 => exact HC0.out); rintro e w' ⟨rfl, ⟨nd, rfl⟩⟩; refine ⟨_, rfl, ?_⟩))
    go_ret2
    exact ⟨_, by first | rfl | (simp [errW_none, errW_some] <;> rfl) | (simp [*, errW_none, errW_some] <;> rfl), by first | exact Kd.R_nil _ _ _ _ _ | exact Kd.N_nil _ _ _ _ _ | exact Kd.V_nil _ _ _ _ _ | exact Kd.Q_nil _ _ _ _ _ | exact Kd.S_nil _ _ _ _ _, by repeat (first | (with_reducible first | exact HB.out | apply below_alloc | apply pw_below_drewN | apply below_drew1) | exact HB.out)⟩

end Go.Proofs.Ytpdcpekjafcohaa.XWear

namespace Go.Proofs.Ytpdcpekjafcohaa.Plain
set_option linter.unusedVariables false
set_option linter.unusedSimpArgs false
open Go.RowKit Go.Proofs.Ytpdcpekjafcohaa.XWear Go.Proofs.YtpdcpekjafcohaaW.PrintWords Go.Proofs.YtpdcpekjafcohaaW.PrintLast Go.Proofs.YtpdcpekjafcohaaW.PrintMore

/-! ### rounds -/
theorem ev_const {α : Type} {o : Option α} {r : α} (h : o = some r) : Ev (fun _ => o) r := ⟨0, fun _ _ => h⟩
theorem ev_pos {α : Type} {c : Prop} [Decidable c] {a b : Nat → Option α} {r : α} (hc : c) (h : Ev a r) : Ev (fun k => if c then a k else b k) r :=
  Ev.congr (fun k => if_pos hc) h
theorem ev_neg {α : Type} {c : Prop} [Decidable c] {a b : Nat → Option α} {r : α} (hc : ¬ c) (h : Ev b r) : Ev (fun k => if c then a k else b k) r :=
  Ev.congr (fun k => if_neg hc) h
theorem ev_some {α β : Type} {a : α} {f : Nat → α → Option β} {r : β} (h : Ev (fun k => f k a) r) : Ev (fun k => (some a).bind (f k)) r := h
theorem ev_map {α : Type} {g : Nat → Option α} {r : α} (h : Ev g r) : Ev (fun k => (g k).bind fun t => some t) r := Ev.bind h (Ev.now r)

theorem wrap_id {x : Int} (h0 : -9223372036854775808 ≤ x) (h1 : x ≤ 9223372036854775807) : wrap64 x = x := by unfold wrap64; omega
theorem wrap_succ (n : Nat) (h : n ≤ 4000000000000000000) : wrap64 ((n : Int) + 1) = ((n + 1 : Nat) : Int) := by rw [wrap_id] <;> omega
theorem wrap_plus (n m : Nat) (h : n ≤ 4000000000000000000) (h2 : m ≤ 4000000000000000000) : wrap64 ((n : Int) + (m : Int)) = ((n + m : Nat) : Int) := by rw [wrap_id] <;> omega
theorem rd_eq (l : List Int) (i : Nat) (h : i < l.length) : rd l (i : Int) = l[i] := by simp [rd, List.getD_eq_getElem?_getD, h]

/-! ### valid readings -/
def ok (l : List Int) : Bool := decide (1 ≤ l.length) && decide (l.length ≤ 40) && l.all fun x => decide (0 ≤ x) && decide (x ≤ 10000)
theorem ok_iff (l : List Int) : ok l = true ↔ 1 ≤ l.length ∧ l.length ≤ 40 ∧ ∀ x ∈ l, 0 ≤ x ∧ x ≤ 10000 := by
  simp [ok, and_assoc]
theorem valid_f (l : List Int) : wear_Valid.f l = some (ok l) := rfl

theorem refValid_l (l : List Int) (hl : l.length ≤ 9223372036854775807) : ∀ (d i : Nat), i + d = l.length → (∀ j (h : j < l.length), j < i → 0 ≤ l[j] ∧ l[j] ≤ 10000) →
    Ev (fun k => dropperref07_Valid.l0 k l (i : Int)) (ok l) := by
  intro d
  induction d with
  | zero =>
    intro i hi hb
    refine Ev.step (fun k => by rw [dropperref07_Valid.l0]) ?_
    refine ev_neg (by omega) ?_
    have ha : ∀ x ∈ l, 0 ≤ x ∧ x ≤ 10000 := by
      intro x hx
      obtain ⟨j, hj, rfl⟩ := List.mem_iff_getElem.1 hx
      exact hb j hj (by omega)
    by_cases h1 : (l.length : Int) ≥ 1
    · refine ev_pos h1 (ev_const ?_)
      congr 1
      rw [Bool.eq_iff_iff, ok_iff, decide_eq_true_iff]
      constructor
      · intro h; exact ⟨by omega, by omega, ha⟩
      · rintro ⟨_, h, _⟩; omega
    · refine ev_neg h1 (ev_const ?_)
      congr 1
      symm
      rw [Bool.eq_false_iff]
      intro h
      have := (ok_iff l).1 h
      omega
  | succ d ih =>
    intro i hi hb
    have hlt : i < l.length := by omega
    have hrd := rd_eq l i hlt
    refine Ev.step (fun k => by rw [dropperref07_Valid.l0]) ?_
    refine ev_pos (by omega) (ev_pos (by omega) ?_)
    by_cases h0 : rd l (i : Int) < 0
    · refine ev_pos h0 (ev_const ?_)
      congr 1
      symm
      rw [Bool.eq_false_iff]
      intro h
      have := ((ok_iff l).1 h).2.2 l[i] (List.getElem_mem hlt)
      omega
    refine ev_neg h0 ?_
    by_cases h1 : rd l (i : Int) > 10000
    · refine ev_pos h1 (ev_const ?_)
      congr 1
      symm
      rw [Bool.eq_false_iff]
      intro h
      have := ((ok_iff l).1 h).2.2 l[i] (List.getElem_mem hlt)
      omega
    refine ev_neg h1 ?_
    have e : wrap64 ((i : Int) + 1) = ((i + 1 : Nat) : Int) := by rw [wrap_id] <;> omega
    rw [e]
    refine ih (i + 1) (by omega) (fun j hj hlt => ?_)
    by_cases hji : j < i
    · exact hb j hj hji
    · obtain rfl : j = i := by omega
      omega
theorem refValid_big (l : List Int) (hl : l.length ≤ 9223372036854775807) : Ev (fun k => dropperref07_Valid.f k l) (ok l) :=
  refValid_l l hl l.length 0 (by omega) (fun _ _ h => by omega)
theorem refValid (l : List Int) (hl : l.length ≤ 4000000000000000000) : Ev (fun k => dropperref07_Valid.f k l) (ok l) := refValid_big l (by omega)

/-! ### SameInts -/
theorem same_l (a b : List Int) (hab : a.length = b.length) (hl : a.length ≤ 4000000000000000000) : ∀ (d i : Nat), i + d = a.length → a.take i = b.take i →
    Ev (fun k => dropperlaw07_SameInts.l0 k a b (i : Int)) (decide (a = b)) := by
  intro d
  induction d with
  | zero =>
    intro i hi hb
    refine Ev.step (fun k => by rw [dropperlaw07_SameInts.l0]) ?_
    refine ev_neg (by omega) (ev_const ?_)
    rw [List.take_of_length_le (by omega), List.take_of_length_le (by omega)] at hb
    simp [hb]
  | succ d ih =>
    intro i hi hb
    refine Ev.step (fun k => by rw [dropperlaw07_SameInts.l0]) ?_
    refine ev_pos (by omega) (ev_pos (by omega) (ev_pos (by omega) ?_))
    rw [rd_eq a i (by omega), rd_eq b i (by omega)]
    by_cases h : a[i]'(by omega) = b[i]'(by omega)
    · refine ev_pos h ?_
      have e : wrap64 ((i : Int) + 1) = ((i + 1 : Nat) : Int) := by rw [wrap_id] <;> omega
      rw [e]
      refine ih (i + 1) (by omega) ?_
      rw [List.take_succ_eq_append_getElem (by omega), List.take_succ_eq_append_getElem (by omega), hb, h]
    · refine ev_neg h (ev_const ?_)
      congr 1
      symm
      rw [decide_eq_false_iff_not]
      rintro rfl
      exact h rfl
theorem same (a b : List Int) (hl : a.length ≤ 4000000000000000000) : Ev (fun k => dropperlaw07_SameInts.f k a b) (decide (a = b)) := by
  unfold dropperlaw07_SameInts.f
  by_cases h : a.length = b.length
  · exact ev_pos (by omega) (same_l a b h hl a.length 0 (by omega) (by simp))
  · refine ev_neg (by omega) (ev_const ?_)
    congr 1
    symm
    rw [decide_eq_false_iff_not]
    rintro rfl
    exact h rfl

/-! ### medians: the windows -/
/-- the reading at a place, the last one beyond the ends -/
def cl (l : List Int) (z : Int) : Int := rd l (mn (mx z 0) (wrap64 ((l.length : Int) - 1)))
def winFrom (l : List Int) (z : Int) (m : Nat) : List Int := (List.range m).map fun j => cl l (z + (j : Nat))
def win (l : List Int) (w i : Nat) : List Int := winFrom l ((i : Int) - (w : Int)) (2 * w + 1)
theorem winFrom_succ (l : List Int) (z : Int) (m : Nat) : winFrom l z (m + 1) = winFrom l z m ++ [cl l (z + (m : Nat))] := by
  simp [winFrom, List.range_succ]
theorem win_len (l : List Int) (w i : Nat) : (win l w i).length = 2 * w + 1 := by simp [win, winFrom]
theorem cl_in {l : List Int} (z : Int) (h : 1 ≤ l.length) (h2 : l.length ≤ 40) : 0 ≤ mn (mx z 0) (wrap64 ((l.length : Int) - 1)) ∧ mn (mx z 0) (wrap64 ((l.length : Int) - 1)) < (l.length : Int) := by
  rw [wrap_id (by omega) (by omega)]
  unfold mn mx
  constructor <;> (repeat split) <;> omega
theorem cl_mem {l : List Int} (z : Int) (h : 1 ≤ l.length) (h2 : l.length ≤ 40) : cl l z ∈ l := by
  obtain ⟨h3, h4⟩ := cl_in z h h2
  unfold cl
  obtain ⟨n, hn⟩ := Int.eq_ofNat_of_zero_le h3
  rw [hn] at h4 ⊢
  rw [rd_eq l n (by omega)]
  exact List.getElem_mem _
def srt (l : List Int) : List Int := l.mergeSort fun x y => decide (x ≤ y)
theorem sort_f (l : List Int) (h : l ≠ []) (h2 : l.length ≤ 1000) : slices_Sort_int_int.f l = some (srt l) := by
  unfold slices_Sort_int_int.f
  rw [if_neg]; · rfl
  intro h3
  rcases h3 with h3 | h3
  · exact h h3
  · omega
/-- the medians: of each window, sorted, the one in the middle -/
def med (l : List Int) (w : Nat) : List Int := (List.range l.length).map fun i => rd (srt (win l w i)) (w : Int)
theorem med_len (l : List Int) (w : Nat) : (med l w).length = l.length := by simp [med]
def medTo (l : List Int) (w i : Nat) : List Int := (List.range i).map fun i => rd (srt (win l w i)) (w : Int)
theorem medTo_succ (l : List Int) (w i : Nat) : medTo l w (i + 1) = medTo l w i ++ [rd (srt (win l w i)) (w : Int)] := by simp [medTo, List.range_succ]

theorem median_l1 {r : List Int} (l : List Int) (w i : Nat) (acc : List Int) (x10 x11 : Int) (h1 : 1 ≤ l.length) (h2 : l.length ≤ 40) (hi : i < l.length) (hw : w ≤ 10) (ha : acc.length ≤ 40)
    (hr : Ev (fun k => wear_median.l0 k l (w : Int) (acc ++ [rd (srt (win l w i)) (w : Int)]) x10 (wrap64 (x11 + 1))) r) :
    ∀ (d j : Nat), j + d = 2 * w + 1 → Ev (fun k => wear_median.l1 k l (w : Int) acc (i : Int) (winFrom l ((i : Int) - (w : Int)) j) ((i : Int) - (w : Int) + (j : Nat)) x10 x11) r := by
  intro d
  induction d with
  | zero =>
    intro j hj
    obtain rfl : j = 2 * w + 1 := by omega
    refine Ev.step (fun k => by rw [wear_median.l1]) ?_
    have hs : wrap64 ((i : Int) + (w : Int)) = (i : Int) + (w : Int) := wrap_id (by omega) (by omega)
    refine ev_neg (by rw [hs]; omega) ?_
    have hne : winFrom l ((i : Int) - (w : Int)) (2 * w + 1) ≠ [] := by simp [winFrom]
    have hlen : (winFrom l ((i : Int) - (w : Int)) (2 * w + 1)).length = 2 * w + 1 := win_len l w i
    rw [sort_f _ hne (by omega)]
    refine ev_some (ev_pos (by omega) (ev_pos (by omega) (ev_pos (by omega) ?_)))
    exact hr
  | succ d ih =>
    intro j hj
    refine Ev.step (fun k => by rw [wear_median.l1]) ?_
    have hs : wrap64 ((i : Int) + (w : Int)) = (i : Int) + (w : Int) := wrap_id (by omega) (by omega)
    have hc := cl_in (l := l) ((i : Int) - (w : Int) + (j : Nat)) h1 h2
    have hlen : (winFrom l ((i : Int) - (w : Int)) j).length = j := by simp [winFrom]
    refine ev_pos (by rw [hs]; omega) (ev_pos hc.1 (ev_pos hc.2 (ev_pos (by omega) ?_)))
    have e : wrap64 ((i : Int) - (w : Int) + (j : Nat) + 1) = (i : Int) - (w : Int) + ((j + 1 : Nat) : Int) := by rw [wrap_id] <;> omega
    rw [e]
    have := ih (j + 1) (by omega)
    rw [winFrom_succ] at this
    exact this
theorem median_l0 (l : List Int) (w : Nat) (h1 : 1 ≤ l.length) (h2 : l.length ≤ 40) (hw : w ≤ 10) : ∀ (d i : Nat), i + d = l.length →
    Ev (fun k => wear_median.l0 k l (w : Int) (medTo l w i) (l.length : Int) (i : Int)) (med l w) := by
  intro d
  induction d with
  | zero =>
    intro i hi
    obtain rfl : i = l.length := by omega
    refine Ev.step (fun k => by rw [wear_median.l0]) ?_
    exact ev_neg (by omega) (ev_const rfl)
  | succ d ih =>
    intro i hi
    refine Ev.step (fun k => by rw [wear_median.l0]) ?_
    refine ev_pos (by omega) ?_
    have e0 : wrap64 ((i : Int) - (w : Int)) = (i : Int) - (w : Int) + ((0 : Nat) : Int) := by rw [wrap_id] <;> omega
    rw [e0]
    have e1 : wrap64 ((i : Int) + 1) = ((i + 1 : Nat) : Int) := by rw [wrap_id] <;> omega
    refine median_l1 l w i (medTo l w i) _ _ h1 h2 (by omega) hw (by simp [medTo]; omega) ?_ (2 * w + 1) 0 (by omega)
    rw [← medTo_succ, e1]
    exact ih (i + 1) (by omega)
theorem median_ev (l : List Int) (w : Nat) (h1 : 1 ≤ l.length) (h2 : l.length ≤ 40) (hw : w ≤ 10) : Ev (fun k => wear_median.f k l (w : Int)) (med l w) :=
  median_l0 l w h1 h2 hw l.length 0 (by omega)

theorem within_f (a b c : Int) : wear_within.f a b c = some (decide (a ≤ b ∧ b ≤ c)) := by
  unfold wear_within.f
  by_cases h : a ≤ b
  · rw [if_pos h]; simp [h]
  · rw [if_neg h]; simp [h]
theorem Median_ev (l : List Int) (w : Int) : Ev (fun k => wear_Median.f k l w) (if ok l = true then (if 0 ≤ w ∧ w ≤ 10 then (med l w.toNat, 0) else ([], 2)) else ([], 70)) := by
  unfold wear_Median.f
  rw [valid_f]
  refine ev_some ?_
  by_cases h : ok l = true
  · have h' := (ok_iff l).1 h
    rw [if_pos h]
    refine ev_pos h ?_
    rw [within_f]
    refine ev_some ?_
    by_cases hw : 0 ≤ w ∧ w ≤ 10
    · rw [if_pos hw]
      refine ev_pos (by simpa using hw) ?_
      obtain ⟨n, rfl⟩ := Int.eq_ofNat_of_zero_le hw.1
      exact Ev.bind (median_ev l n h'.1 h'.2.1 (by omega)) (Ev.now _)
    · rw [if_neg hw]
      exact ev_neg (by simpa using hw) (Ev.now _)
  · rw [if_neg h]
    exact ev_neg h (Ev.now _)

/-! ### the document's middle -/
def cntLt (l : List Int) (x : Int) : Nat := l.countP fun y => decide (y < x)
def cntEq (l : List Int) (x : Int) : Nat := l.countP fun y => decide (y = x)
def isMid (l : List Int) (x : Int) : Bool := decide (cntLt l x ≤ l.length / 2) && decide (l.length / 2 < cntLt l x + cntEq l x)
def mid (l : List Int) : Int := (l.find? (isMid l)).getD 0
theorem countP_take_succ (p : Int → Bool) (l : List Int) (j : Nat) (h : j < l.length) : (l.take (j + 1)).countP p = (l.take j).countP p + (if p l[j] then 1 else 0) := by
  rw [List.take_succ_eq_append_getElem h, List.countP_append]
  simp [List.countP_cons]
theorem middle_l1 {r : Int} (l : List Int) (i : Nat) (hl : l.length ≤ 1000) (hi : i < l.length)
    (hno : isMid l l[i] = false → Ev (fun k => dropperref07_middle.l0 k l (wrap64 ((i : Int) + 1))) r) (hyes : isMid l l[i] = true → r = l[i]) :
    ∀ (d j : Nat), j + d = l.length → Ev (fun k => dropperref07_middle.l1 k l (i : Int) (((l.take j).countP fun y => decide (y < l[i]) : Nat) : Int) (((l.take j).countP fun y => decide (y = l[i]) : Nat) : Int) (j : Int)) r := by
  intro d
  have hrdi := rd_eq l i hi
  induction d with
  | zero =>
    intro j hj
    obtain rfl : j = l.length := by omega
    refine Ev.step (fun k => by rw [dropperref07_middle.l1]) ?_
    rw [List.take_length]
    have b1 : l.countP (fun y => decide (y < l[i])) ≤ l.length := List.countP_le_length
    have b2 : l.countP (fun y => decide (y = l[i])) ≤ l.length := List.countP_le_length
    have e1 : wrap64 ((l.length : Int) / 2) = ((l.length / 2 : Nat) : Int) := by rw [wrap_id] <;> omega
    have e2 : wrap64 (((l.countP fun y => decide (y < l[i]) : Nat) : Int) + ((l.countP fun y => decide (y = l[i]) : Nat) : Int)) = ((cntLt l l[i] + cntEq l l[i] : Nat) : Int) := wrap_plus _ _ (Nat.le_trans b1 (by omega)) (Nat.le_trans b2 (by omega))
    refine ev_neg (by omega) ?_
    rw [e1, e2]
    by_cases c1 : cntLt l l[i] ≤ l.length / 2
    · refine ev_pos (by simp only [cntLt] at c1; omega) ?_
      by_cases c2 : l.length / 2 < cntLt l l[i] + cntEq l l[i]
      · refine ev_pos (by omega) (ev_pos (by omega) (ev_pos (by omega) (ev_const ?_)))
        rw [hrdi, hyes (by simp [isMid, c1, c2])]
      · exact ev_neg (by omega) (hno (by simp [isMid, c2]))
    · exact ev_neg (by simp only [cntLt] at c1; omega) (hno (by simp [isMid, c1]))
  | succ d ih =>
    intro j hj
    have hj' : j < l.length := by omega
    have q1 : (j : Int) < (l.length : Int) := by omega
    have q2 : 0 ≤ (j : Int) := by omega
    have q3 : 0 ≤ (i : Int) := by omega
    have q4 : (i : Int) < (l.length : Int) := by omega
    refine Ev.step (fun k => by rw [dropperref07_middle.l1]) ?_
    refine ev_pos q1 (ev_pos q2 (ev_pos q3 (ev_pos q4 ?_)))
    have hrdj := rd_eq l j hj'
    have hrec := ih (j + 1) (by omega)
    have b1 : (l.take j).countP (fun y => decide (y < l[i])) ≤ j := Nat.le_trans List.countP_le_length (by simp; omega)
    have b2 : (l.take j).countP (fun y => decide (y = l[i])) ≤ j := Nat.le_trans List.countP_le_length (by simp; omega)
    rw [countP_take_succ _ _ _ hj', countP_take_succ _ _ _ hj'] at hrec
    have w1 : wrap64 (((List.countP (fun y => decide (y < l[i])) (l.take j) : Nat) : Int) + 1) = ((List.countP (fun y => decide (y < l[i])) (l.take j) + 1 : Nat) : Int) := wrap_succ _ (Nat.le_trans b1 (by omega))
    have w2 : wrap64 (((List.countP (fun y => decide (y = l[i])) (l.take j) : Nat) : Int) + 1) = ((List.countP (fun y => decide (y = l[i])) (l.take j) + 1 : Nat) : Int) := wrap_succ _ (Nat.le_trans b2 (by omega))
    have w3 : wrap64 ((j : Int) + 1) = ((j + 1 : Nat) : Int) := by rw [wrap_id] <;> omega
    rw [hrdi, hrdj, w1, w2, w3]
    by_cases c1 : l[j] < l[i]
    · have c2 : ¬ l[j] = l[i] := by omega
      refine ev_pos c1 (ev_neg c2 ?_)
      simp only [c1, c2, decide_true, decide_false, if_true, Bool.false_eq_true, if_false, Nat.add_zero] at hrec
      exact hrec
    · by_cases c2 : l[j] = l[i]
      · refine ev_neg c1 (ev_pos c2 ?_)
        simp only [c1, c2, decide_true, decide_false, if_true, Bool.false_eq_true, if_false, Nat.add_zero] at hrec
        have c3 : ¬ l[i] < l[i] := by omega
        simp only [c3, decide_false, Bool.false_eq_true, if_false, Nat.add_zero] at hrec
        exact hrec
      · refine ev_neg c1 (ev_neg c2 ?_)
        simp only [c1, c2, decide_false, Bool.false_eq_true, if_false, Nat.add_zero] at hrec
        exact hrec
theorem middle_l0 (l : List Int) (hl : l.length ≤ 1000) : ∀ (d i : Nat), i + d = l.length → (∀ j (h : j < l.length), j < i → isMid l l[j] = false) →
    Ev (fun k => dropperref07_middle.l0 k l (i : Int)) (mid l) := by
  intro d
  induction d with
  | zero =>
    intro i hi hb
    refine Ev.step (fun k => by rw [dropperref07_middle.l0]) ?_
    refine ev_neg (by omega) (ev_const ?_)
    have : l.find? (isMid l) = none := by
      rw [List.find?_eq_none]
      intro x hx
      obtain ⟨j, hj, rfl⟩ := List.mem_iff_getElem.1 hx
      simp [hb j hj (by omega)]
    simp [mid, this]
  | succ d ih =>
    intro i hi hb
    have hi' : i < l.length := by omega
    refine Ev.step (fun k => by rw [dropperref07_middle.l0]) ?_
    refine ev_pos (by omega) ?_
    have w3 : wrap64 ((i : Int) + 1) = ((i + 1 : Nat) : Int) := by rw [wrap_id] <;> omega
    refine middle_l1 l i hl hi' (fun hno => ?_) (fun hyes => ?_) l.length 0 (by omega)
    · rw [w3]
      refine ih (i + 1) (by omega) (fun j hj hlt => ?_)
      by_cases hji : j < i
      · exact hb j hj hji
      · obtain rfl : j = i := by omega
        exact hno
    · have : l.find? (isMid l) = some l[i] := by
        rw [List.find?_eq_some_iff_getElem]
        exact ⟨hyes, i, hi', rfl, fun j hj => by simp [hb j (by omega) hj]⟩
      simp [mid, this]
theorem middle_ev (l : List Int) (hl : l.length ≤ 1000) : Ev (fun k => dropperref07_middle.f k l) (mid l) :=
  middle_l0 l hl l.length 0 (by omega) (fun _ _ h => by omega)
/-! ### the document's medians -/
def medR (l : List Int) (w : Nat) : List Int := (List.range l.length).map fun i => mid (win l w i)
def medRTo (l : List Int) (w i : Nat) : List Int := (List.range i).map fun i => mid (win l w i)
theorem medRTo_succ (l : List Int) (w i : Nat) : medRTo l w (i + 1) = medRTo l w i ++ [mid (win l w i)] := by simp [medRTo, List.range_succ]
theorem rmedian_l1 {r : List Int} (l : List Int) (w i : Nat) (acc : List Int) (h1 : 1 ≤ l.length) (h2 : l.length ≤ 40) (hi : i < l.length) (hw : w ≤ 10) (ha : acc.length ≤ 40)
    (hr : Ev (fun k => dropperref07_median.l0 k l (w : Int) (acc ++ [mid (win l w i)]) (wrap64 ((i : Int) + 1))) r) :
    ∀ (d j : Nat), j + d = 2 * w + 1 → Ev (fun k => dropperref07_median.l1 k l (w : Int) acc (i : Int) (winFrom l ((i : Int) - (w : Int)) j) ((i : Int) - (w : Int) + (j : Nat))) r := by
  intro d
  induction d with
  | zero =>
    intro j hj
    obtain rfl : j = 2 * w + 1 := by omega
    refine Ev.step (fun k => by rw [dropperref07_median.l1]) ?_
    have hs : wrap64 ((i : Int) + (w : Int)) = (i : Int) + (w : Int) := wrap_id (by omega) (by omega)
    refine ev_neg (by rw [hs]; omega) ?_
    have hlen : (winFrom l ((i : Int) - (w : Int)) (2 * w + 1)).length = 2 * w + 1 := win_len l w i
    exact Ev.bind (middle_ev (winFrom l ((i : Int) - (w : Int)) (2 * w + 1)) (by omega)) (ev_pos (by omega) hr)
  | succ d ih =>
    intro j hj
    refine Ev.step (fun k => by rw [dropperref07_median.l1]) ?_
    have hs : wrap64 ((i : Int) + (w : Int)) = (i : Int) + (w : Int) := wrap_id (by omega) (by omega)
    have hc := cl_in (l := l) ((i : Int) - (w : Int) + (j : Nat)) h1 h2
    have hlen : (winFrom l ((i : Int) - (w : Int)) j).length = j := by simp [winFrom]
    refine ev_pos (by rw [hs]; omega) (ev_pos hc.1 (ev_pos hc.2 (ev_pos (by omega) ?_)))
    have e : wrap64 ((i : Int) - (w : Int) + (j : Nat) + 1) = (i : Int) - (w : Int) + ((j + 1 : Nat) : Int) := by rw [wrap_id] <;> omega
    rw [e]
    have := ih (j + 1) (by omega)
    rw [winFrom_succ] at this
    exact this
theorem rmedian_l0 (l : List Int) (w : Nat) (h1 : 1 ≤ l.length) (h2 : l.length ≤ 40) (hw : w ≤ 10) : ∀ (d i : Nat), i + d = l.length →
    Ev (fun k => dropperref07_median.l0 k l (w : Int) (medRTo l w i) (i : Int)) (medR l w) := by
  intro d
  induction d with
  | zero =>
    intro i hi
    obtain rfl : i = l.length := by omega
    refine Ev.step (fun k => by rw [dropperref07_median.l0]) ?_
    exact ev_neg (by omega) (ev_const rfl)
  | succ d ih =>
    intro i hi
    refine Ev.step (fun k => by rw [dropperref07_median.l0]) ?_
    refine ev_pos (by omega) ?_
    have e0 : wrap64 ((i : Int) - (w : Int)) = (i : Int) - (w : Int) + ((0 : Nat) : Int) := by rw [wrap_id] <;> omega
    rw [e0]
    refine rmedian_l1 l w i (medRTo l w i) h1 h2 (by omega) hw (by simp [medRTo]; omega) ?_ (2 * w + 1) 0 (by omega)
    rw [← medRTo_succ, wrap_succ _ (by omega)]
    exact ih (i + 1) (by omega)
theorem rmedian_ev (l : List Int) (w : Nat) (h1 : 1 ≤ l.length) (h2 : l.length ≤ 40) (hw : w ≤ 10) : Ev (fun k => dropperref07_median.f k l (w : Int)) (medR l w) :=
  rmedian_l0 l w h1 h2 hw l.length 0 (by omega)

/-! ### the middle of a sorted row -/
theorem srt_perm (l : List Int) : (srt l).Perm l := List.mergeSort_perm _ _
theorem srt_len (l : List Int) : (srt l).length = l.length := (srt_perm l).length_eq
theorem srt_sorted (l : List Int) : (srt l).Pairwise (· ≤ ·) := by
  have h := List.pairwise_mergeSort (le := fun x y : Int => decide (x ≤ y)) (fun a b c h1 h2 => by simp at *; omega) (fun a b => by simp; omega) l
  exact h.imp (fun h => by simpa using h)
/-- In a sorted row: how many are less than what stands at a place. -/
theorem sorted_count (x : Int) : ∀ (s : List Int), s.Pairwise (· ≤ ·) → ∀ j (h : j < s.length), (s[j] < x ↔ j < s.countP fun y => decide (y < x)) ∧ (s[j] ≤ x ↔ j < s.countP fun y => decide (y ≤ x)) := by
  intro s
  induction s with
  | nil => intro _ j h; simp at h
  | cons a s ih =>
    intro hs j h
    rw [List.pairwise_cons] at hs
    have key1 : ¬ a < x → s.countP (fun y => decide (y < x)) = 0 := by
      intro hax
      rw [List.countP_eq_zero]
      intro y hy
      have := hs.1 y hy
      simp; omega
    have key2 : ¬ a ≤ x → s.countP (fun y => decide (y ≤ x)) = 0 := by
      intro hax
      rw [List.countP_eq_zero]
      intro y hy
      have := hs.1 y hy
      simp; omega
    cases j with
    | zero =>
      simp only [List.getElem_cons_zero, List.countP_cons, decide_eq_true_eq]
      constructor
      · by_cases c : a < x
        · simp [c]
        · simp [c, key1 c]
      · by_cases c : a ≤ x
        · simp [c]
        · simp [c, key2 c]
    | succ j =>
      have hj : j < s.length := by simpa using h
      obtain ⟨i1, i2⟩ := ih hs.2 j hj
      have hm := hs.1 s[j] (List.getElem_mem hj)
      simp only [List.getElem_cons_succ, List.countP_cons, decide_eq_true_eq]
      constructor
      · by_cases c : a < x
        · simp [c, i1]
        · simp only [c, if_false, Nat.add_zero, key1 c]
          constructor
          · intro h2; omega
          · intro h2; omega
      · by_cases c : a ≤ x
        · simp [c, i2]
        · simp only [c, if_false, Nat.add_zero, key2 c]
          constructor
          · intro h2; omega
          · intro h2; omega
theorem count_le_split (l : List Int) (x : Int) : (l.countP fun y => decide (y ≤ x)) = cntLt l x + cntEq l x := by
  unfold cntLt cntEq
  induction l with
  | nil => rfl
  | cons a l ih =>
    simp only [List.countP_cons, decide_eq_true_eq, ih]
    rcases Int.lt_trichotomy a x with h | h | h
    · have h1 : a ≤ x := by omega
      have h2 : ¬ a = x := by omega
      simp only [h, h1, h2, if_true, if_false]; omega
    · subst h; simp only [Int.le_refl, Int.lt_irrefl, if_true, if_false]; omega
    · have h1 : ¬ a ≤ x := by omega
      have h2 : ¬ a = x := by omega
      have h3 : ¬ a < x := by omega
      simp only [h1, h2, h3, if_false]; omega
theorem isMid_iff (l : List Int) (x : Int) (hl : 0 < l.length) : isMid l x = true ↔ (srt l)[l.length / 2]'(by rw [srt_len]; omega) = x := by
  have hj : l.length / 2 < (srt l).length := by rw [srt_len]; omega
  obtain ⟨h1, h2⟩ := sorted_count x (srt l) (srt_sorted l) (l.length / 2) hj
  have e1 : (srt l).countP (fun y => decide (y < x)) = cntLt l x := (srt_perm l).countP_eq _
  have e2 : (srt l).countP (fun y => decide (y ≤ x)) = cntLt l x + cntEq l x := ((srt_perm l).countP_eq _).trans (count_le_split l x)
  rw [e1] at h1
  rw [e2] at h2
  simp only [isMid, Bool.and_eq_true, decide_eq_true_eq]
  constructor
  · rintro ⟨a, b⟩
    have c1 := h2.2 b
    have c2 : ¬ (srt l)[l.length / 2] < x := fun h => by have := h1.1 h; omega
    omega
  · intro h
    have c1 := h2.1 (by omega)
    have c2 : ¬ l.length / 2 < cntLt l x := fun hh => by have := h1.2 hh; omega
    exact ⟨by omega, c1⟩
theorem mid_eq (l : List Int) (hl : 0 < l.length) : mid l = rd (srt l) ((l.length / 2 : Nat) : Int) := by
  have hj : l.length / 2 < (srt l).length := by rw [srt_len]; omega
  rw [rd_eq _ _ hj]
  have hm : (srt l)[l.length / 2] ∈ l := (srt_perm l).mem_iff.1 (List.getElem_mem hj)
  unfold mid
  cases hf : l.find? (isMid l) with
  | none =>
    rw [List.find?_eq_none] at hf
    exact absurd ((isMid_iff l _ hl).2 rfl) (hf _ hm)
  | some x =>
    have := List.find?_some hf
    rw [isMid_iff l x hl] at this
    simp [this]
theorem med_eq (l : List Int) (w : Nat) : medR l w = med l w := by
  unfold medR med
  apply List.map_congr_left
  intro i _
  rw [mid_eq _ (by rw [win_len]; omega), win_len]
  congr 2
  omega

theorem asked_ev (l : List Int) (w : Int) (hl : l.length ≤ 4000000000000000000) : Ev (fun k => dropperref07_asked.f k l w) (if ok l = true then (if 0 ≤ w ∧ w ≤ 10 then 0 else 2) else 70) := by
  unfold dropperref07_asked.f
  refine Ev.bind (refValid l hl) ?_
  by_cases h : ok l = true
  · refine ev_pos h ?_
    rw [if_pos h]
    by_cases h1 : w < 0
    · have e : (if 0 ≤ w ∧ w ≤ 10 then (0 : Int) else 2) = 2 := if_neg (by omega)
      rw [e]; exact ev_pos h1 (Ev.now _)
    · refine ev_neg h1 ?_
      by_cases h2 : w > 10
      · have e : (if 0 ≤ w ∧ w ≤ 10 then (0 : Int) else 2) = 2 := if_neg (by omega)
        rw [e]; exact ev_pos h2 (Ev.now _)
      · have e : (if 0 ≤ w ∧ w ≤ 10 then (0 : Int) else 2) = 0 := if_pos (by omega)
        rw [e]; exact ev_neg h2 (Ev.now _)
  · refine ev_neg h ?_
    rw [if_neg h]
    exact Ev.now _
theorem RMedian_ev (l : List Int) (w : Int) (hl : l.length ≤ 4000000000000000000) : Ev (fun k => dropperref07_Median.f k l w) (if ok l = true then (if 0 ≤ w ∧ w ≤ 10 then (med l w.toNat, 0) else ([], 2)) else ([], 70)) := by
  unfold dropperref07_Median.f
  refine Ev.bind (asked_ev l w hl) ?_
  by_cases h : ok l = true
  · have h' := (ok_iff l).1 h
    rw [if_pos h, if_pos h]
    by_cases hw : 0 ≤ w ∧ w ≤ 10
    · rw [if_pos hw, if_pos hw]
      refine ev_pos rfl ?_
      obtain ⟨n, rfl⟩ := Int.eq_ofNat_of_zero_le hw.1
      have := rmedian_ev l n h'.1 h'.2.1 (by omega)
      rw [med_eq] at this
      exact Ev.bind this (Ev.now _)
    · rw [if_neg hw, if_neg hw]
      exact ev_neg (by decide) (Ev.now _)
  · rw [if_neg h, if_neg h]
    exact ev_neg (by decide) (Ev.now _)

/-! ### the examples -/
theorem first_near : wear_Nearest.f 60 [1, 3, 2, 4] = some ([⟨1, 1⟩, ⟨5, 2⟩, ⟨5, 2⟩, ⟨4, 1⟩], 0) := by kernel_rfl
theorem first_med : med [1, 9, 2, 3] 1 = [1, 2, 3, 3] := by rw [← med_eq]; decide +kernel
theorem first_same : dropperlaw07_SameRatios.f 60 [⟨1, 1⟩, ⟨5, 2⟩, ⟨5, 2⟩, ⟨4, 1⟩] [⟨1, 1⟩, ⟨5, 2⟩, ⟨5, 2⟩, ⟨4, 1⟩] = some true := by kernel_rfl
theorem first_ev : Ev (fun k => dropperlaw07_First.f k) true := by
  unfold dropperlaw07_First.f
  refine Ev.bind (Ev.of (wear_Nearest.mono _) first_near) ?_
  have h1 := Median_ev [1, 9, 2, 3] 1
  rw [if_pos (by decide), if_pos (by decide)] at h1
  have h2 : med [1, 9, 2, 3] (1 : Int).toNat = [1, 2, 3, 3] := first_med
  rw [h2] at h1
  refine Ev.bind h1 ?_
  refine ev_pos rfl (ev_pos rfl ?_)
  refine Ev.bind (Ev.of (dropperlaw07_SameRatios.mono _ _) first_same) (ev_pos rfl ?_)
  exact Ev.bind (same [1, 2, 3, 3] [1, 2, 3, 3] (by decide)) (Ev.now _)
end Go.Proofs.Ytpdcpekjafcohaa.Plain

namespace Go.Proofs.Ytpdcpekjafcohaa.Plain
set_option linter.unusedVariables false
set_option linter.unusedSimpArgs false
open Go.RowKit Go.Proofs.Ytpdcpekjafcohaa.XWear Go.Proofs.YtpdcpekjafcohaaW.PrintWords Go.Proofs.YtpdcpekjafcohaaW.PrintLast Go.Proofs.YtpdcpekjafcohaaW.PrintMore

/-! ### fractions in lowest terms -/
def R (n d : Int) : Int × Int := (n / (Int.gcd n d : Int), d / (Int.gcd n d : Int))
theorem gcd_pos {n d : Int} (hd : 0 < d) : 0 < (Int.gcd n d : Int) := by
  have : Int.gcd n d ≠ 0 := fun h => by have := (Int.gcd_eq_zero_iff.1 h).2; omega
  omega
theorem R_mul {n d : Int} (hd : 0 < d) : n = (Int.gcd n d : Int) * (R n d).1 ∧ d = (Int.gcd n d : Int) * (R n d).2 :=
  ⟨(Int.mul_ediv_cancel' (Int.gcd_dvd_left n d)).symm, (Int.mul_ediv_cancel' (Int.gcd_dvd_right n d)).symm⟩
theorem R_pos {n d : Int} (hd : 0 < d) : 0 < (R n d).2 := by
  have h := (R_mul (n := n) hd).2
  have g := gcd_pos (n := n) hd
  rcases Int.lt_trichotomy 0 (R n d).2 with h1 | h1 | h1
  · exact h1
  · rw [← h1] at h; omega
  · have := Int.mul_neg_of_pos_of_neg g h1
    omega
theorem R_nonneg {n d : Int} (hn : 0 ≤ n) (hd : 0 < d) : 0 ≤ (R n d).1 := Int.ediv_nonneg hn (by have := gcd_pos (n := n) hd; omega)
theorem R_le {n d : Int} (hn : 0 ≤ n) (hd : 0 < d) : (R n d).1 ≤ n ∧ (R n d).2 ≤ d := by
  have g := gcd_pos (n := n) hd
  exact ⟨Int.ediv_le_self _ hn, Int.ediv_le_self _ (by omega)⟩
/-- the order of the lowest terms is that of the fractions -/
theorem R_cmp {n d m e : Int} (hd : 0 < d) (he : 0 < e) : ((R n d).1 * (R m e).2 < (R m e).1 * (R n d).2 ↔ n * e < m * d) := by
  have g1 := gcd_pos (n := n) hd
  have g2 := gcd_pos (n := m) he
  obtain ⟨a1, a2⟩ := R_mul (n := n) hd
  obtain ⟨b1, b2⟩ := R_mul (n := m) he
  generalize (Int.gcd n d : Int) = g at *
  generalize (Int.gcd m e : Int) = k at *
  generalize (R n d).1 = p at *
  generalize (R n d).2 = q at *
  generalize (R m e).1 = p' at *
  generalize (R m e).2 = q' at *
  subst a1 a2 b1 b2
  have hgk : 0 < g * k := Int.mul_pos g1 g2
  have e1 : g * p * (k * q') = g * k * (p * q') := by grind
  have e2 : k * p' * (g * q) = g * k * (p' * q) := by grind
  rw [e1, e2]
  exact ⟨fun h => Int.mul_lt_mul_of_pos_left h hgk, fun h => Int.lt_of_mul_lt_mul_left h (by omega)⟩
theorem R_eq {n d m e : Int} (hn : 0 ≤ n) (hd : 0 < d) (hm : 0 ≤ m) (he : 0 < e) (h : n * e = m * d) : R n d = R m e := by
  have g1 := gcd_pos (n := n) hd
  have g2 := gcd_pos (n := m) he
  obtain ⟨a1, a2⟩ := R_mul (n := n) hd
  obtain ⟨b1, b2⟩ := R_mul (n := m) he
  have c1 : Int.gcd (R n d).1 (R n d).2 = 1 := Int.gcd_ediv_gcd_ediv_gcd (by omega)
  have c2 : Int.gcd (R m e).1 (R m e).2 = 1 := Int.gcd_ediv_gcd_ediv_gcd (by omega)
  have p1 := R_nonneg hn hd
  have p2 := R_nonneg hm he
  have q1 := R_pos (n := n) hd
  have q2 := R_pos (n := m) he
  have key : (R n d).1 * (R m e).2 = (R m e).1 * (R n d).2 := by
    generalize (Int.gcd n d : Int) = g at *
    generalize (Int.gcd m e : Int) = k at *
    generalize (R n d).1 = p at *
    generalize (R n d).2 = q at *
    generalize (R m e).1 = p' at *
    generalize (R m e).2 = q' at *
    subst a1 a2 b1 b2
    have hgk : g * k ≠ 0 := Int.mul_ne_zero (by omega) (by omega)
    apply Int.eq_of_mul_eq_mul_left hgk
    grind
  clear a1 a2 b1 b2
  have : (R n d).1 = (R m e).1 ∧ (R n d).2 = (R m e).2 := by
    generalize (R n d).1 = p at *
    generalize (R n d).2 = q at *
    generalize (R m e).1 = p' at *
    generalize (R m e).2 = q' at *
    obtain ⟨p, rfl⟩ := Int.eq_ofNat_of_zero_le p1
    obtain ⟨p', rfl⟩ := Int.eq_ofNat_of_zero_le p2
    obtain ⟨q, rfl⟩ := Int.eq_ofNat_of_zero_le (Int.le_of_lt q1)
    obtain ⟨q', rfl⟩ := Int.eq_ofNat_of_zero_le (Int.le_of_lt q2)
    have k1 : p * q' = p' * q := by exact_mod_cast key
    have c1' : Nat.Coprime p q := c1
    have c2' : Nat.Coprime p' q' := c2
    have d1 : q ∣ q' := (c1'.symm).dvd_of_dvd_mul_left (show q ∣ p * q' from ⟨p', by rw [k1, Nat.mul_comm]⟩)
    have d2 : q' ∣ q := (c2'.symm).dvd_of_dvd_mul_left (show q' ∣ p' * q from ⟨p, by rw [← k1, Nat.mul_comm]⟩)
    have hq : q = q' := Nat.dvd_antisymm d1 d2
    subst hq
    have : p = p' := Nat.eq_of_mul_eq_mul_right (by omega) k1
    exact ⟨by rw [this], rfl⟩
  exact Prod.ext this.1 this.2

/-! ### the program's fractions -/
theorem gcd_ev : ∀ (b a : Nat), a ≤ 4000000000000000000 → b ≤ 4000000000000000000 → Ev (fun k => wear_gcd.l0 k (a : Int) (b : Int)) (Int.gcd a b : Int) := by
  intro b
  induction b using Nat.strongRecOn with
  | _ b ih =>
    intro a ha hb
    refine Ev.step (fun k => by rw [wear_gcd.l0]) ?_
    by_cases h : b = 0
    · subst h
      refine ev_pos rfl (ev_const ?_)
      have e : wrap64 (-(a : Int)) = -(a : Int) := wrap_id (by omega) (by omega)
      rw [e]
      have : mx (a : Int) (-(a : Int)) = (a : Int) := by unfold mx; split <;> omega
      rw [this]; simp
    · refine ev_neg (by omega) ?_
      have hlt : a % b < b := Nat.mod_lt _ (by omega)
      have e : Int.tmod (a : Int) (b : Int) = ((a % b : Nat) : Int) := by
        rw [Int.tmod_eq_emod_of_nonneg (by omega)]; rfl
      rw [e]
      have := ih (a % b) hlt b hb (by omega)
      have e2 : Int.gcd (b : Int) ((a % b : Nat) : Int) = Int.gcd (a : Int) (b : Int) := by
        show Nat.gcd b (a % b) = Nat.gcd a b
        rw [Nat.gcd_comm b, ← Nat.gcd_rec, Nat.gcd_comm]
      rw [e2] at this
      exact this
theorem R_fits {n d : Int} (hn : 0 ≤ n) (hd : 0 < d) (hn2 : n ≤ 4000000000000000000) (hd2 : d ≤ 4000000000000000000) :
    wrap64 (Int.tdiv n (Int.gcd n d : Int)) = (R n d).1 ∧ wrap64 (Int.tdiv d (Int.gcd n d : Int)) = (R n d).2 := by
  have h1 := R_le hn hd
  have h2 := R_nonneg hn hd
  have h3 := R_pos (n := n) hd
  have e1 : Int.tdiv n (Int.gcd n d : Int) = (R n d).1 := Int.tdiv_eq_ediv_of_nonneg hn
  have e2 : Int.tdiv d (Int.gcd n d : Int) = (R n d).2 := Int.tdiv_eq_ediv_of_nonneg (by omega)
  rw [e1, e2]
  exact ⟨wrap_id (by omega) (by omega), wrap_id (by omega) (by omega)⟩
theorem ratio_ev {n d : Int} (hn : 0 ≤ n) (hd : 0 < d) (hn2 : n ≤ 4000000000000000000) (hd2 : d ≤ 4000000000000000000) : Ev (fun k => wear_ratio.f k n d) (R n d) := by
  obtain ⟨e1, e2⟩ := R_fits hn hd hn2 hd2
  have g := gcd_pos (n := n) hd
  have hg : Ev (fun k => wear_gcd.f k n d) (Int.gcd n d : Int) := by
    obtain ⟨n', rfl⟩ := Int.eq_ofNat_of_zero_le hn
    obtain ⟨d', rfl⟩ := Int.eq_ofNat_of_zero_le (Int.le_of_lt hd)
    exact gcd_ev d' n' (by omega) (by omega)
  unfold wear_ratio.f
  refine Ev.bind hg (ev_neg (by omega) (ev_const ?_))
  rw [e1, e2]
/-! ### sums -/
def pre (r : List Int) : Nat → Int
  | 0 => 0
  | i + 1 => pre r i + rd r (i : Int)
theorem rd_bound {r : List Int} (hv : ∀ x ∈ r, 0 ≤ x ∧ x ≤ 10000) (i : Nat) : 0 ≤ rd r (i : Int) ∧ rd r (i : Int) ≤ 10000 := by
  by_cases h : i < r.length
  · rw [rd_eq r i h]; exact hv _ (List.getElem_mem h)
  · have : rd r (i : Int) = 0 := by simp [rd, List.getD_eq_getElem?_getD, List.getElem?_eq_none (show r.length ≤ i by omega)]
    omega
theorem pre_bound {r : List Int} (hv : ∀ x ∈ r, 0 ≤ x ∧ x ≤ 10000) (a : Nat) : ∀ d : Nat, 0 ≤ pre r (a + d) - pre r a ∧ pre r (a + d) - pre r a ≤ 10000 * d := by
  intro d
  induction d with
  | zero => simp
  | succ d ih =>
    have := rd_bound hv (a + d)
    show 0 ≤ pre r (a + d) + rd r ((a + d : Nat) : Int) - pre r a ∧ _
    have e : pre r (a + (d + 1)) = pre r (a + d) + rd r ((a + d : Nat) : Int) := rfl
    rw [e]
    omega
def sm (r : List Int) (a c : Nat) : Int := pre r (a + c) - pre r a
theorem sm_bound {r : List Int} (hv : ∀ x ∈ r, 0 ≤ x ∧ x ≤ 10000) (a c : Nat) : 0 ≤ sm r a c ∧ sm r a c ≤ 10000 * c := pre_bound hv a c
theorem sm_one (r : List Int) (a : Nat) : sm r a 1 = rd r (a : Int) := by
  have : pre r (a + 1) = pre r a + rd r (a : Int) := rfl
  unfold sm; omega
theorem sm_add (r : List Int) (a c d : Nat) : sm r a (c + d) = sm r a c + sm r (a + c) d := by
  unfold sm; rw [← Nat.add_assoc]; omega

/-! ### blocks: a row of them, one behind the other -/
structure Blk where
  f : Nat
  c : Nat
/-- the mean of each beginning is not less than that of the block -/
def Okb (r : List Int) (b : Blk) : Prop := 1 ≤ b.c ∧ ∀ x, x ≤ b.c → sm r b.f b.c * x ≤ sm r b.f x * b.c
def Lt (r : List Int) (a b : Blk) : Prop := sm r a.f a.c * b.c < sm r b.f b.c * a.c
def Chain (r : List Int) : Nat → List Blk → Nat → Prop
  | f, [], n => f = n
  | f, b :: l, n => b.f = f ∧ Okb r b ∧ Chain r (f + b.c) l n
theorem chain_append (r : List Int) (l1 l2 : List Blk) : ∀ f n, Chain r f (l1 ++ l2) n ↔ ∃ m, Chain r f l1 m ∧ Chain r m l2 n := by
  induction l1 with
  | nil => intro f n; simp [Chain]
  | cons b l1 ih =>
    intro f n
    simp only [List.cons_append, Chain, ih]
    constructor
    · rintro ⟨a, b, m, c, d⟩; exact ⟨m, ⟨a, b, c⟩, d⟩
    · rintro ⟨m, ⟨a, b, c⟩, d⟩; exact ⟨a, b, m, c, d⟩
theorem chain_le (r : List Int) (l : List Blk) : ∀ f n, Chain r f l n → f + l.length ≤ n := by
  induction l with
  | nil => intro f n h; have : f = n := h; simp; omega
  | cons b l ih =>
    intro f n h
    have h1 := ih _ _ h.2.2
    have h2 := h.2.1.1
    simp; omega
theorem okb_one (r : List Int) (f : Nat) : Okb r ⟨f, 1⟩ := by
  refine ⟨Nat.le_refl _, fun x hx => ?_⟩
  have hx' : x ≤ 1 := hx
  rcases (show x = 0 ∨ x = 1 by omega) with rfl | rfl
  · show sm r f 1 * ((0 : Nat) : Int) ≤ sm r f 0 * ((1 : Nat) : Int)
    have : sm r f 0 = 0 := by simp [sm]
    rw [this]; simp
  · exact Int.le_refl _
/-- two blocks become one, if the first one's mean is not less -/
theorem okb_merge (r : List Int) (f c d : Nat) (h1 : Okb r ⟨f, c⟩) (h2 : Okb r ⟨f + c, d⟩) (h : sm r (f + c) d * c ≤ sm r f c * d) : Okb r ⟨f, c + d⟩ := by
  obtain ⟨a1, a2⟩ := h1
  obtain ⟨b1, b2⟩ := h2
  simp only at a1 a2 b1 b2
  refine ⟨by simp only; omega, fun x hx => ?_⟩
  simp only at hx ⊢
  rw [sm_add]
  generalize hs : sm r f c = s at *
  generalize ht : sm r (f + c) d = t at *
  have hcd : ((c + d : Nat) : Int) = (c : Int) + (d : Int) := by omega
  rw [hcd]
  have hc0 : (0 : Int) < (c : Int) := by omega
  have hd0 : (0 : Int) < (d : Int) := by omega
  by_cases hxc : x ≤ c
  · have h3 := a2 x hxc
    have hx0 : (0 : Int) ≤ (x : Int) := by omega
    generalize sm r f x = P at *
    generalize (c : Int) = C at *
    generalize (d : Int) = D at *
    generalize (x : Int) = X at *
    -- (s + t) X ≤ P (C + D): times C
    apply Int.le_of_mul_le_mul_left (a := C) _ hc0
    have k1 : s * X * (C + D) ≤ P * C * (C + D) := Int.mul_le_mul_of_nonneg_right h3 (by omega)
    have k2 : t * C * X ≤ s * D * X := Int.mul_le_mul_of_nonneg_right h hx0
    grind
  · obtain ⟨y, rfl⟩ : ∃ y, x = c + y := ⟨x - c, by omega⟩
    have h3 := b2 y (by omega)
    have hy : y ≤ d := by omega
    rw [sm_add, hs]
    have hcy : ((c + y : Nat) : Int) = (c : Int) + (y : Int) := by omega
    rw [hcy]
    have hy0 : (0 : Int) ≤ (d : Int) - (y : Int) := by omega
    generalize sm r (f + c) y = Q at *
    generalize (c : Int) = C at *
    generalize (d : Int) = D at *
    generalize (y : Int) = Y at *
    apply Int.le_of_mul_le_mul_left (a := D) _ hd0
    have k1 : t * Y * (C + D) ≤ Q * D * (C + D) := Int.mul_le_mul_of_nonneg_right h3 (by omega)
    have k2 : t * C * (D - Y) ≤ s * D * (D - Y) := Int.mul_le_mul_of_nonneg_right h hy0
    grind

/-! ### a line under the sums -/
def phi (r : List Int) (s q : Int) (x : Nat) : Int := q * pre r x - s * x
theorem phi_right (r : List Int) (s q : Int) (hq : 0 < q) (l : List Blk) : ∀ f n, Chain r f l n → (∀ b ∈ l, s * b.c ≤ sm r b.f b.c * q) → ∀ x, f ≤ x → x ≤ n → phi r s q f ≤ phi r s q x := by
  induction l with
  | nil =>
    intro f n h _ x h1 h2
    have : f = n := h
    obtain rfl : x = f := by omega
    exact Int.le_refl _
  | cons b l ih =>
    intro f n h hb x h1 h2
    obtain ⟨rfl, hok, hc⟩ := h
    have hs := hb b (by simp)
    have hin : ∀ y, y ≤ b.c → phi r s q b.f ≤ phi r s q (b.f + y) := by
      intro y hy
      have h3 := hok.2 y hy
      have hc0 : (0 : Int) < (b.c : Int) := by have := hok.1; omega
      have hy0 : (0 : Int) ≤ (y : Int) := by omega
      have e : phi r s q (b.f + y) = phi r s q b.f + (q * sm r b.f y - s * y) := by
        unfold phi sm
        have : ((b.f + y : Nat) : Int) = (b.f : Int) + (y : Int) := by omega
        rw [this]; grind
      rw [e]
      have : 0 ≤ q * sm r b.f y - s * y := by
        generalize sm r b.f y = P at *
        generalize sm r b.f b.c = S at *
        generalize (b.c : Int) = C at *
        generalize (y : Int) = Y at *
        apply Int.le_of_mul_le_mul_left (a := C) _ hc0
        have k1 : S * Y * q ≤ P * C * q := Int.mul_le_mul_of_nonneg_right h3 (by omega)
        have k2 : s * C * Y ≤ S * q * Y := Int.mul_le_mul_of_nonneg_right hs hy0
        grind
      omega
    by_cases hx : x ≤ b.f + b.c
    · obtain ⟨y, rfl⟩ : ∃ y, x = b.f + y := ⟨x - b.f, by omega⟩
      exact hin y (by omega)
    · have h4 := ih _ _ hc (fun b' hb' => hb b' (List.mem_cons_of_mem _ hb')) x (by omega) h2
      have h5 := hin b.c (Nat.le_refl _)
      omega
theorem phi_left (r : List Int) (s q : Int) (hq : 0 < q) (l : List Blk) : ∀ f n, Chain r f l n → (∀ b ∈ l, sm r b.f b.c * q ≤ s * b.c) → ∀ x, f ≤ x → x ≤ n → phi r s q n ≤ phi r s q x := by
  induction l with
  | nil =>
    intro f n h _ x h1 h2
    have : f = n := h
    obtain rfl : x = n := by omega
    exact Int.le_refl _
  | cons b l ih =>
    intro f n h hb x h1 h2
    obtain ⟨rfl, hok, hc⟩ := h
    have hs := hb b (by simp)
    have hrest := ih _ _ hc (fun b' hb' => hb b' (List.mem_cons_of_mem _ hb'))
    have hle := chain_le r l _ _ hc
    by_cases hx : b.f + b.c ≤ x
    · exact hrest x hx h2
    · have h4 := hrest (b.f + b.c) (Nat.le_refl _) (by omega)
      obtain ⟨y, rfl⟩ : ∃ y, x = b.f + y := ⟨x - b.f, by omega⟩
      have hy : y ≤ b.c := by omega
      have h3 := hok.2 y hy
      have hc0 : (0 : Int) < (b.c : Int) := by have := hok.1; omega
      have hy0 : (0 : Int) ≤ (b.c : Int) - (y : Int) := by omega
      have e : phi r s q (b.f + y) = phi r s q (b.f + b.c) + (q * sm r b.f y - s * y) - (q * sm r b.f b.c - s * b.c) := by
        unfold phi sm
        have e1 : ((b.f + y : Nat) : Int) = (b.f : Int) + (y : Int) := by omega
        have e2 : ((b.f + b.c : Nat) : Int) = (b.f : Int) + (b.c : Int) := by omega
        rw [e1, e2]; grind
      rw [e]
      have : 0 ≤ (q * sm r b.f y - s * y) - (q * sm r b.f b.c - s * b.c) := by
        generalize sm r b.f y = P at *
        generalize sm r b.f b.c = S at *
        generalize (b.c : Int) = C at *
        generalize (y : Int) = Y at *
        apply Int.le_of_mul_le_mul_left (a := C) _ hc0
        have k1 : S * Y * q ≤ P * C * q := Int.mul_le_mul_of_nonneg_right h3 (by omega)
        have k2 : S * q * (C - Y) ≤ s * C * (C - Y) := Int.mul_le_mul_of_nonneg_right hs hy0
        grind
      omega
/-- THE SUPPORT: under all sums lies the line of each block, if the means grow from block to block. -/
theorem support (r : List Int) (l : List Blk) (n : Nat) (h : Chain r 0 l n) (hp : l.Pairwise (Lt r)) (b : Blk) (hb : b ∈ l) :
    ∀ x, x ≤ n → phi r (sm r b.f b.c) b.c b.f ≤ phi r (sm r b.f b.c) b.c x := by
  obtain ⟨l1, l2, rfl⟩ := List.append_of_mem hb
  obtain ⟨m, h1, h2⟩ := (chain_append r l1 (b :: l2) 0 n).1 h
  obtain ⟨rfl, hok, h3⟩ := h2
  have hc0 : (0 : Int) < (b.c : Int) := by have := hok.1; omega
  obtain ⟨p1, p2, p3⟩ := List.pairwise_append.1 hp
  rw [List.pairwise_cons] at p2
  intro x hx
  by_cases hxf : x ≤ b.f
  · refine phi_left r _ _ hc0 l1 0 b.f h1 (fun a ha => ?_) x (Nat.zero_le _) hxf
    exact Int.le_of_lt (p3 a ha b (by simp))
  · refine phi_right r _ _ hc0 (b :: l2) b.f n ⟨rfl, hok, h3⟩ (fun a ha => ?_) x (by omega) hx
    rcases List.mem_cons.1 ha with rfl | ha
    · exact Int.le_refl _
    · exact Int.le_of_lt (p2.1 a ha)

/-! ### the program's blocks -/
def toS (r : List Int) (b : Blk) : S74 := ⟨(b.f : Int), sm r b.f b.c, (b.c : Int)⟩
def mn_ (r : List Int) (b : Blk) : Int × Int := R (sm r b.f b.c) b.c
theorem wrap_mul {a b A B : Int} (ha : 0 ≤ a) (hb : 0 ≤ b) (hA : a ≤ A) (hB : b ≤ B) (h : A * B ≤ 9223372036854775807) : wrap64 (a * b) = a * b := by
  have h1 : 0 ≤ a * b := Int.mul_nonneg ha hb
  have h2 : a * b ≤ A * B := Int.mul_le_mul hA hB hb (by omega)
  exact wrap_id (by omega) (by omega)
theorem less_f {n d m e : Int} (hn : 0 ≤ n) (hd : 0 < d) (hm : 0 ≤ m) (he : 0 < e) (bn : n ≤ 1000000) (bd : d ≤ 1000) (bm : m ≤ 1000000) (be : e ≤ 1000) :
    decide (wrap64 ((R n d).1 * (R m e).2) < wrap64 ((R m e).1 * (R n d).2)) = decide (n * e < m * d) := by
  have a1 := R_le hn hd
  have a2 := R_le hm he
  have a3 := R_nonneg hn hd
  have a4 := R_nonneg hm he
  have a5 := R_pos (n := n) hd
  have a6 := R_pos (n := m) he
  rw [wrap_mul a3 (Int.le_of_lt a6) (A := 1000000) (B := 1000) (by omega) (by omega) (by decide), wrap_mul a4 (Int.le_of_lt a5) (A := 1000000) (B := 1000) (by omega) (by omega) (by decide)]
  exact decide_eq_decide.2 (R_cmp hd he)
theorem block_mean_ev {f s c : Int} (hs : 0 ≤ s) (hc : 0 < c) (hs2 : s ≤ 1000000) (hc2 : c ≤ 1000) : Ev (fun k => wear_block_mean.f k f s c) (R s c) := by
  unfold wear_block_mean.f
  exact Ev.bind (ratio_ev hs hc (by omega) (by omega)) (Ev.now _)
theorem rd_S74 (xs : List S74) (i : Nat) (h : i < xs.length) : rd_T74 xs (i : Int) = xs[i] := by simp [rd_T74, List.getD_eq_getElem?_getD, h]
theorem rd_S35 (xs : List S35) (i : Nat) (h : i < xs.length) : rd_T35 xs (i : Int) = xs[i] := by simp [rd_T35, List.getD_eq_getElem?_getD, h]

theorem blocks_l1 (r : List Int) (h2 : r.length ≤ 40) (hv : ∀ x ∈ r, 0 ≤ x ∧ x ≤ 10000) (i : Nat) (hi : i < r.length) :
    ∀ (m : Nat) (L : List Blk) (b : Blk), L.length = m → Chain r 0 L b.f → L.Pairwise (Lt r) → Okb r b → b.f + b.c = i + 1 →
    ∃ L', Chain r 0 L' (i + 1) ∧ L'.Pairwise (Lt r) ∧ ∀ res, Ev (fun k => wear_blocks.l0 k (L'.map (toS r)) r (r.length : Int) ((i + 1 : Nat) : Int)) res →
      Ev (fun k => wear_blocks.l1 k (L.map (toS r)) ((m : Int) - 1) r (r.length : Int) (i : Int) (b.f : Int) (sm r b.f b.c) (b.c : Int)) res := by
  intro m
  have hw : wrap64 ((i : Int) + 1) = ((i + 1 : Nat) : Int) := wrap_succ _ (by omega)
  induction m with
  | zero =>
    intro L b hL hch hp hok hbi
    obtain rfl := List.length_eq_zero_iff.1 hL
    refine ⟨[b], ?_, by simp, ?_⟩
    · have : (0 : Nat) = b.f := hch
      exact ⟨this.symm, hok, show 0 + b.c = i + 1 by omega⟩
    · intro res h
      refine Ev.step (fun k => by rw [wear_blocks.l1]) ?_
      refine ev_neg (by omega) (ev_pos (by simp) ?_)
      rw [hw]
      exact h
  | succ m ih =>
    intro L b hL hch hp hok hbi
    rcases List.eq_nil_or_concat L with rfl | ⟨L0, t, he⟩
    · simp at hL
    rw [List.concat_eq_append] at he
    subst he
    have hL0 : L0.length = m := by simpa using hL
    obtain ⟨q, hc1, hc2⟩ := (chain_append r L0 [t] 0 b.f).1 hch
    obtain ⟨rfl, htok, hte⟩ := hc2
    have hte' : t.f + t.c = b.f := hte
    obtain ⟨p1, _, p3⟩ := List.pairwise_append.1 hp
    have bt := sm_bound hv t.f t.c
    have bb := sm_bound hv b.f b.c
    have c1 := htok.1
    have c2 := hok.1
    have hget : rd_T74 ((L0 ++ [t]).map (toS r)) (((m + 1 : Nat) : Int) - 1) = toS r t := by
      have e : (((m + 1 : Nat) : Int) - 1) = (m : Int) := by omega
      rw [e, rd_S74 _ m (by simp; omega)]
      simp [← hL0]
    have hx : ((m + 1 : Nat) : Int) - 1 = (m : Int) := by omega
    have hm40 : m + 1 ≤ 40 := by have := chain_le r _ _ _ hch; rw [List.length_append, hL0] at this; simp at this; omega
    have hlen : ((L0 ++ [t]).map (toS r)).length = m + 1 := by simp [hL0]
    have hstep : ∀ res, Ev (fun k => if decide (sm r t.f t.c * b.c < sm r b.f b.c * t.c) = true then
        (if ((L0 ++ [t]).map (toS r)).length < 5864062014805 then (wear_blocks.l0 k ((L0 ++ [t]).map (toS r) ++ [(⟨(b.f : Int), sm r b.f b.c, (b.c : Int)⟩ : S74)]) r (r.length : Int) (wrap64 ((i : Int) + 1))) else none)
        else (if (m : Int) ≤ (((L0 ++ [t]).map (toS r)).length : Int) then (wear_blocks.l1 k (((L0 ++ [t]).map (toS r)).take ((m : Int)).toNat) (wrap64 ((m : Int) - 1)) r (r.length : Int) (i : Int) (t.f : Int) (wrap64 (sm r t.f t.c + sm r b.f b.c)) (wrap64 ((t.c : Int) + (b.c : Int)))) else none)) res →
        Ev (fun k => wear_blocks.l1 k ((L0 ++ [t]).map (toS r)) (((m + 1 : Nat) : Int) - 1) r (r.length : Int) (i : Int) (b.f : Int) (sm r b.f b.c) (b.c : Int)) res := by
      intro res h
      refine Ev.step (fun k => by rw [wear_blocks.l1]) ?_
      rw [hget, hx]
      refine ev_pos (by omega) (ev_pos (by omega) (ev_pos (by rw [hlen]; omega) ?_))
      refine Ev.bind (block_mean_ev (f := (toS r t).f0) (s := sm r t.f t.c) (c := t.c) (by omega) (by omega) (by omega) (by omega)) ?_
      refine Ev.bind (block_mean_ev (f := (b.f : Int)) (s := sm r b.f b.c) (c := b.c) (by omega) (by omega) (by omega) (by omega)) ?_
      unfold wear_less.f
      rw [less_f (by omega) (by omega) (by omega) (by omega) (by omega) (by omega) (by omega) (by omega)]
      exact ev_some h
    by_cases hlt : sm r t.f t.c * b.c < sm r b.f b.c * t.c
    · refine ⟨(L0 ++ [t]) ++ [b], ?_, ?_, ?_⟩
      · exact (chain_append r (L0 ++ [t]) [b] 0 (i + 1)).2 ⟨b.f, hch, rfl, hok, hbi⟩
      · rw [List.pairwise_append]
        refine ⟨hp, by simp, ?_⟩
        intro a ha b' hb'
        obtain rfl : b' = b := by simpa using hb'
        rcases List.mem_append.1 ha with ha | ha
        · have h1 := p3 a ha t (by simp)
          -- a < t < b
          unfold Lt at h1 ⊢
          have ca : 1 ≤ a.c := by
            obtain ⟨l1, l2, e⟩ := List.append_of_mem ha
            rw [e] at hc1
            obtain ⟨_, _, h5⟩ := (chain_append r l1 (a :: l2) 0 t.f).1 hc1
            exact h5.2.1.1
          have t0 : (0 : Int) < (t.c : Int) := by omega
          have a0 : (0 : Int) < (a.c : Int) := by omega
          have b0 : (0 : Int) < (b'.c : Int) := by omega
          generalize sm r a.f a.c = A at *
          generalize sm r t.f t.c = T at *
          generalize sm r b'.f b'.c = B at *
          generalize (a.c : Int) = x at *
          generalize (t.c : Int) = y at *
          generalize (b'.c : Int) = z at *
          apply Int.lt_of_mul_lt_mul_left (a := y) _ (by omega)
          have k1 : A * y * z < T * x * z := Int.mul_lt_mul_of_pos_right h1 b0
          have k2 : T * z * x < B * y * x := Int.mul_lt_mul_of_pos_right hlt a0
          grind
        · obtain rfl : a = t := by simpa using ha
          exact hlt
      · intro res h
        refine hstep res (ev_pos (by simpa using hlt) (ev_pos (by rw [hlen]; omega) ?_))
        rw [hw]
        rw [List.map_append] at h
        exact h
    · have hmerge : Okb r ⟨t.f, t.c + b.c⟩ := by
        refine okb_merge r t.f t.c b.c htok ?_ ?_
        · rw [hte']; exact hok
        · rw [hte']; omega
      obtain ⟨L', k1, k2, k3⟩ := ih L0 ⟨t.f, t.c + b.c⟩ hL0 hc1 p1 hmerge (by simp only; omega)
      refine ⟨L', k1, k2, fun res h => ?_⟩
      refine hstep res (ev_neg (by simpa using hlt) (ev_pos (by rw [hlen]; omega) ?_))
      have e1 : ((L0 ++ [t]).map (toS r)).take ((m : Int)).toNat = L0.map (toS r) := by
        rw [Int.toNat_natCast, List.map_append, List.take_append_of_le_length (by simp; omega), List.take_of_length_le (by simp; omega)]
      have e2 : wrap64 ((m : Int) - 1) = (m : Int) - 1 := wrap_id (by omega) (by have := chain_le r _ _ _ hch; rw [List.length_append] at this; simp at this; omega)
      have e3 : wrap64 (sm r t.f t.c + sm r b.f b.c) = sm r t.f (t.c + b.c) := by
        rw [sm_add, hte']; exact wrap_id (by omega) (by omega)
      have e4 : wrap64 ((t.c : Int) + (b.c : Int)) = ((t.c + b.c : Nat) : Int) := wrap_plus _ _ (by omega) (by omega)
      rw [e1, e2, e3, e4]
      exact k3 res h
theorem blocks_l0 (r : List Int) (h2 : r.length ≤ 40) (hv : ∀ x ∈ r, 0 ≤ x ∧ x ≤ 10000) : ∀ (d i : Nat) (L : List Blk), i + d = r.length → Chain r 0 L i → L.Pairwise (Lt r) →
    ∃ L', Chain r 0 L' r.length ∧ L'.Pairwise (Lt r) ∧ Ev (fun k => wear_blocks.l0 k (L.map (toS r)) r (r.length : Int) (i : Int)) (L'.map (toS r)) := by
  intro d
  induction d with
  | zero =>
    intro i L hi hc hp
    obtain rfl : i = r.length := by omega
    refine ⟨L, hc, hp, ?_⟩
    refine Ev.step (fun k => by rw [wear_blocks.l0]) ?_
    exact ev_neg (by omega) (Ev.now _)
  | succ d ih =>
    intro i L hi hc hp
    have hlen := chain_le r L 0 i hc
    obtain ⟨L1, c1, p1, k1⟩ := blocks_l1 r h2 hv i (by omega) L.length L ⟨i, 1⟩ rfl hc hp (okb_one r i) rfl
    obtain ⟨L2, c2, p2, k2⟩ := ih (i + 1) L1 (by omega) c1 p1
    refine ⟨L2, c2, p2, ?_⟩
    refine Ev.step (fun k => by rw [wear_blocks.l0]) ?_
    refine ev_pos (by omega) (ev_pos (by omega) (ev_pos (by omega) ?_))
    have e1 : wrap64 (((L.map (toS r)).length : Int) - 1) = (L.length : Int) - 1 := by
      rw [List.length_map]; exact wrap_id (by omega) (by omega)
    rw [e1]
    have := k1 _ k2
    rw [sm_one] at this
    exact this
theorem blocks_ev (r : List Int) (h2 : r.length ≤ 40) (hv : ∀ x ∈ r, 0 ≤ x ∧ x ≤ 10000) :
    ∃ L, Chain r 0 L r.length ∧ L.Pairwise (Lt r) ∧ Ev (fun k => wear_blocks.f k r) (L.map (toS r)) :=
  blocks_l0 r h2 hv r.length 0 [] (by omega) rfl List.Pairwise.nil

/-! ### the program's nearest row -/
def toR (v : Int × Int) : S35 := ⟨v.1, v.2⟩
def nearL (r : List Int) (L : List Blk) : List S35 := L.flatMap fun b => List.replicate b.c (toR (mn_ r b))
theorem nearL_snoc (r : List Int) (L : List Blk) (b : Blk) : nearL r (L ++ [b]) = nearL r L ++ List.replicate b.c (toR (mn_ r b)) := by simp [nearL]
theorem nearL_len (r : List Int) (L : List Blk) : ∀ f n, Chain r f L n → (nearL r L).length = n - f := by
  induction L with
  | nil => intro f n h; have : f = n := h; simp [nearL]; omega
  | cons b L ih =>
    intro f n h
    have h1 := ih _ _ h.2.2
    have h2 := chain_le r _ _ _ h.2.2
    have e : nearL r (b :: L) = List.replicate b.c (toR (mn_ r b)) ++ nearL r L := rfl
    rw [e, List.length_append, List.length_replicate, h1]
    omega
theorem nearL_get (r : List Int) (L : List Blk) : ∀ f n, Chain r f L n → ∀ i, f ≤ i → i < n → ∃ b, b ∈ L ∧ b.f ≤ i ∧ i < b.f + b.c ∧ (nearL r L)[i - f]? = some (toR (mn_ r b)) := by
  induction L with
  | nil => intro f n h i h1 h2; have : f = n := h; omega
  | cons b L ih =>
    intro f n h i h1 h2
    obtain ⟨rfl, hok, hc⟩ := h
    have e : nearL r (b :: L) = List.replicate b.c (toR (mn_ r b)) ++ nearL r L := rfl
    by_cases hib : i < b.f + b.c
    · refine ⟨b, by simp, h1, hib, ?_⟩
      rw [e, List.getElem?_append_left (by simp; omega), List.getElem?_replicate]
      rw [if_pos (by omega)]
    · obtain ⟨b', hb', q1, q2, q3⟩ := ih _ _ hc i (by omega) h2
      refine ⟨b', List.mem_cons_of_mem _ hb', q1, q2, ?_⟩
      rw [e, List.getElem?_append_right (by simp; omega), List.length_replicate]
      have : i - b.f - b.c = i - (b.f + b.c) := by omega
      rw [this]; exact q3
theorem chain_mem (r : List Int) (L : List Blk) : ∀ f n, Chain r f L n → ∀ b ∈ L, Okb r b ∧ b.f + b.c ≤ n := by
  induction L with
  | nil => intro f n h b hb; simp at hb
  | cons a L ih =>
    intro f n h b hb
    obtain ⟨rfl, hok, hc⟩ := h
    have := chain_le r _ _ _ hc
    rcases List.mem_cons.1 hb with rfl | hb
    · exact ⟨hok, by omega⟩
    · exact ih _ _ hc b hb
theorem nearest_l0 (r : List Int) (h2 : r.length ≤ 40) (hv : ∀ x ∈ r, 0 ≤ x ∧ x ≤ 10000) (L : List Blk) (hc : Chain r 0 L r.length) : ∀ (d i : Nat), i + d = L.length →
    Ev (fun k => wear_nearest.l0 k (nearL r (L.take i)) (L.map (toS r)) (L.length : Int) (i : Int)) (nearL r L) := by
  intro d
  have hL := chain_le r L 0 _ hc
  induction d with
  | zero =>
    intro i hi
    obtain rfl : i = L.length := by omega
    refine Ev.step (fun k => by rw [wear_nearest.l0]) ?_
    rw [List.take_length]
    exact ev_neg (by omega) (Ev.now _)
  | succ d ih =>
    intro i hi
    have hlt : i < L.length := by omega
    refine Ev.step (fun k => by rw [wear_nearest.l0]) ?_
    have hg : rd_T74 (L.map (toS r)) (i : Int) = toS r L[i] := by
      rw [rd_S74 _ i (by simpa using hlt)]; simp
    rw [hg]
    have hb := chain_mem r L 0 _ hc L[i] (List.getElem_mem hlt)
    have hb1 := hb.1.1
    have hs := sm_bound hv L[i].f L[i].c
    refine ev_pos (by omega) (ev_pos (by omega) (ev_pos (by simp; omega) ?_))
    refine Ev.bind (block_mean_ev (f := (toS r L[i]).f0) (s := sm r L[i].f L[i].c) (c := L[i].c) (by omega) (by omega) (by omega) (by omega)) ?_
    have hrep : slices_Repeat_api_Ratio_api_Ratio.f [(⟨(R (sm r L[i].f L[i].c) L[i].c).1, (R (sm r L[i].f L[i].c) L[i].c).2⟩ : S35)] (toS r L[i]).f2 = some (List.replicate L[i].c (toR (mn_ r L[i]))) := by
      unfold slices_Repeat_api_Ratio_api_Ratio.f
      show (if 1 ≤ (L[i].c : Int) ∧ (L[i].c : Int) ≤ 1000 then _ else _) = _
      rw [if_pos (by omega)]
      rfl
    rw [hrep]
    have hlen : (nearL r (L.take i)).length ≤ 40 := by
      have hsplit : L = L.take i ++ L.drop i := (List.take_append_drop i L).symm
      have hc' := hc
      rw [hsplit] at hc'
      obtain ⟨m, m1, m2⟩ := (chain_append r _ _ 0 _).1 hc'
      have := chain_le r _ _ _ m2
      rw [nearL_len r _ _ _ m1]; omega
    refine ev_some (ev_pos (by simp only [List.length_replicate]; omega) ?_)
    rw [wrap_succ _ (by omega), ← nearL_snoc, ← List.take_succ_eq_append_getElem hlt]
    exact ih (i + 1) (by omega)
theorem nearest_of (r : List Int) (h2 : r.length ≤ 40) (hv : ∀ x ∈ r, 0 ≤ x ∧ x ≤ 10000) (L : List Blk) (hc : Chain r 0 L r.length) (hb : Ev (fun k => wear_blocks.f k r) (L.map (toS r))) :
    Ev (fun k => wear_nearest.f k r) (nearL r L) := by
  unfold wear_nearest.f
  refine Ev.bind hb ?_
  have := nearest_l0 r h2 hv L hc L.length 0 (by omega)
  rw [List.length_map]
  exact this

/-! ### the document's order -/
theorem refLess_f {n d m e : Int} (hn : 0 ≤ n) (hd : 0 < d) (hm : 0 ≤ m) (he : 0 < e) (bn : n ≤ 1000000) (bd : d ≤ 1000) (bm : m ≤ 1000000) (be : e ≤ 1000) :
    dropperref07_Less.f (R n d).1 (R n d).2 (R m e).1 (R m e).2 = some (decide (n * e < m * d)) := by
  unfold dropperref07_Less.f
  rw [less_f hn hd hm he bn bd bm be]
end Go.Proofs.Ytpdcpekjafcohaa.Plain

namespace Go.Proofs.Ytpdcpekjafcohaa.Plain
set_option linter.unusedVariables false
set_option linter.unusedSimpArgs false
open Go.RowKit Go.Proofs.Ytpdcpekjafcohaa.XWear Go.Proofs.YtpdcpekjafcohaaW.PrintWords Go.Proofs.YtpdcpekjafcohaaW.PrintLast Go.Proofs.YtpdcpekjafcohaaW.PrintMore

/-- ratios as described -/
def good (x : S35) : Prop := 1 ≤ x.f1 ∧ x.f1 ≤ 1000 ∧ 0 ≤ x.f0 ∧ x.f0 ≤ 10000 * x.f1
instance (x : S35) : Decidable (good x) := inferInstanceAs (Decidable (_ ∧ _ ∧ _ ∧ _))
def rowOk (r : List Int) (l : List S35) : Prop := l.length = r.length ∧ ∀ x ∈ l, good x
instance (r : List Int) (l : List S35) : Decidable (rowOk r l) := inferInstanceAs (Decidable (_ ∧ _))
theorem bad_iff (x : S35) : slices_ContainsFunc_api_Ratio_api_Ratio.bad x = decide (¬ good x) := by
  unfold slices_ContainsFunc_api_Ratio_api_Ratio.bad good
  rw [Bool.eq_iff_iff]
  simp only [Bool.or_eq_true, Bool.not_eq_true', Bool.and_eq_false_iff, decide_eq_false_iff_not, decide_eq_true_eq]
  by_cases h : 1 ≤ x.f1 ∧ x.f1 ≤ 1000
  · rw [wrap_id (x := 10000 * x.f1) (by omega) (by omega)]
    omega
  · omega
theorem asked_f (r : List Int) (l : List S35) : wear_asked.f r l = some (if ok r = true then (if rowOk r l then 0 else 2) else 70) := by
  unfold wear_asked.f
  rw [valid_f]
  by_cases h : ok r = true
  · simp only [Option.bind_some, h, if_true]
    by_cases hl : l.length = r.length
    · rw [if_pos (by omega)]
      show (some (l.any slices_ContainsFunc_api_Ratio_api_Ratio.bad)).bind _ = _
      by_cases ha : ∀ x ∈ l, good x
      · have : l.any slices_ContainsFunc_api_Ratio_api_Ratio.bad = false := by
          rw [List.any_eq_false]
          intro x hx
          rw [bad_iff]
          simp [ha x hx]
        rw [this, if_pos ⟨hl, ha⟩]; rfl
      · have : l.any slices_ContainsFunc_api_Ratio_api_Ratio.bad = true := by
          rw [List.any_eq_true]
          simp only [Classical.not_forall] at ha
          obtain ⟨x, hx, hb⟩ := ha
          exact ⟨x, hx, by rw [bad_iff]; simp [hb]⟩
        rw [this, if_neg (fun h => ha h.2)]; rfl
    · rw [if_neg (by omega), if_neg (fun h => hl h.1)]
  · simp [h]

/-- a growing row -/
def Asc (l : List S35) : Prop := ∀ i, i + 1 < l.length → (rd_T35 l (i : Int)).f0 * (rd_T35 l ((i + 1 : Nat) : Int)).f1 ≤ (rd_T35 l ((i + 1 : Nat) : Int)).f0 * (rd_T35 l (i : Int)).f1
theorem prod_bound {x y : S35} (hx : good x) (hy : good y) : 0 ≤ x.f0 * y.f1 ∧ x.f0 * y.f1 ≤ 10000000000 := by
  unfold good at hx hy
  exact ⟨Int.mul_nonneg hx.2.2.1 (by omega), Int.le_trans (Int.mul_le_mul (c := 10000000) (d := 1000) (by omega) hy.2.1 (by omega) (by omega)) (by decide)⟩
theorem cmp_eq {x y : S35} (hx : good x) (hy : good y) : slices_IsSortedFunc_api_Ratio_api_Ratio.cmp x y = x.f0 * y.f1 - y.f0 * x.f1 := by
  have h1 := prod_bound hx hy
  have h2 := prod_bound hy hx
  unfold slices_IsSortedFunc_api_Ratio_api_Ratio.cmp
  rw [wrap_id (x := x.f0 * y.f1) (by omega) (by omega), wrap_id (x := y.f0 * x.f1) (by omega) (by omega), wrap_id (by omega) (by omega)]
theorem rd_good {l : List S35} (h : ∀ x ∈ l, good x) (i : Nat) (hi : i < l.length) : good (rd_T35 l (i : Int)) := by
  rw [rd_S35 l i hi]; exact h _ (List.getElem_mem hi)
theorem asc_iff (l : List S35) (h : ∀ x ∈ l, good x) : slices_IsSortedFunc_api_Ratio_api_Ratio.asc l = true ↔ Asc l := by
  unfold slices_IsSortedFunc_api_Ratio_api_Ratio.asc Asc
  rw [List.all_eq_true]
  constructor
  · intro ha i hi
    have := ha i (List.mem_range.2 (by omega))
    rw [decide_eq_true_eq, show ((i : Int) + 1) = ((i + 1 : Nat) : Int) by omega, cmp_eq (rd_good h _ hi) (rd_good h _ (by omega))] at this
    omega
  · intro ha i hi
    have hi := List.mem_range.1 hi
    have := ha i (by omega)
    rw [decide_eq_true_eq, show ((i : Int) + 1) = ((i + 1 : Nat) : Int) by omega, cmp_eq (rd_good h _ (by omega)) (rd_good h _ (by omega))]
    omega
def growsOf (r : List Int) (l : List S35) (b : Bool) : Bool × Int := if ok r = true then (if rowOk r l then (b, 0) else (false, 2)) else (false, 70)
theorem Grows_f (r : List Int) (l : List S35) : wear_Grows.f r l = some (growsOf r l (slices_IsSortedFunc_api_Ratio_api_Ratio.asc l)) := by
  unfold wear_Grows.f growsOf
  rw [asked_f]
  by_cases h : ok r = true
  · by_cases hr : rowOk r l
    · simp only [h, hr, if_true]; rfl
    · simp [h, hr]
  · simp [h]

/-! ### the error -/
/-- the least common multiple, if it is not too great -/
def lcmL : List S35 → Int → Option Int
  | [], c => some c
  | x :: l, c => if c * (x.f1 / (Int.gcd c x.f1 : Int)) > 10000 then none else lcmL l (c * (x.f1 / (Int.gcd c x.f1 : Int)))
def sq (r : List Int) (l : List S35) (c : Int) (i : Nat) : Int := ((rd_T35 l (i : Int)).f0 * (c / (rd_T35 l (i : Int)).f1) - rd r (i : Int) * c) * ((rd_T35 l (i : Int)).f0 * (c / (rd_T35 l (i : Int)).f1) - rd r (i : Int) * c)
def sqs (r : List Int) (l : List S35) (c : Int) : Nat → Int
  | 0 => 0
  | n + 1 => sqs r l c n + sq r l c n
def errOf (r : List Int) (l : List S35) : Option Int → Int × Int × Int
  | none => (0, 0, 4)
  | some c => ((R (sqs r l c l.length) (c * c)).1, (R (sqs r l c l.length) (c * c)).2, 0)
theorem sq_bound {d : Int} (h0 : -100000000 ≤ d) (h1 : d ≤ 100000000) : 0 ≤ d * d ∧ d * d ≤ 10000000000000000 := by
  have h := Int.mul_nonneg (a := 100000000 - d) (b := 100000000 + d) (by omega) (by omega)
  have e : (100000000 - d) * (100000000 + d) = 10000000000000000 - d * d := by grind
  have h2 : 0 ≤ d * d := by
    rcases Int.le_total 0 d with h | h
    · exact Int.mul_nonneg h h
    · have := Int.mul_nonneg (a := -d) (b := -d) (by omega) (by omega)
      rwa [Int.neg_mul_neg] at this
  omega
theorem term_bound {x : S35} (hx : good x) {v c : Int} (hv : 0 ≤ v ∧ v ≤ 10000) (hc : 1 ≤ c ∧ c ≤ 10000) :
    (0 ≤ c / x.f1 ∧ c / x.f1 ≤ 10000) ∧ (0 ≤ x.f0 * (c / x.f1) ∧ x.f0 * (c / x.f1) ≤ 100000000) ∧ (0 ≤ v * c ∧ v * c ≤ 100000000) := by
  unfold good at hx
  have q0 : 0 ≤ c / x.f1 := Int.ediv_nonneg (by omega) (by omega)
  have q1 : c / x.f1 ≤ c := Int.ediv_le_self _ (by omega)
  have q2 : x.f1 * (c / x.f1) ≤ c := Int.mul_ediv_self_le (by omega)
  have n0 : 0 ≤ x.f0 * (c / x.f1) := Int.mul_nonneg hx.2.2.1 q0
  have n1 : x.f0 * (c / x.f1) ≤ 10000 * x.f1 * (c / x.f1) := Int.mul_le_mul_of_nonneg_right hx.2.2.2 q0
  rw [Int.mul_assoc] at n1
  have v0 : 0 ≤ v * c := Int.mul_nonneg hv.1 (by omega)
  have v1 : v * c ≤ 10000 * 10000 := Int.mul_le_mul hv.2 hc.2 (by omega) (by decide)
  omega
theorem sqs_bound (r : List Int) (hv : ∀ x ∈ r, 0 ≤ x ∧ x ≤ 10000) (l : List S35) (hl : ∀ x ∈ l, good x) {c : Int} (hc : 1 ≤ c ∧ c ≤ 10000) : ∀ n, n ≤ l.length → 0 ≤ sqs r l c n ∧ sqs r l c n ≤ 10000000000000000 * n ∧ (n < l.length → 0 ≤ sq r l c n ∧ sq r l c n ≤ 10000000000000000) := by
  intro n
  have hs : n < l.length → 0 ≤ sq r l c n ∧ sq r l c n ≤ 10000000000000000 := by
    intro h
    have := term_bound (rd_good hl n h) (rd_bound hv n) hc
    unfold sq
    exact sq_bound (by omega) (by omega)
  induction n with
  | zero => intro _; exact ⟨by simp [sqs], by simp [sqs], hs⟩
  | succ n ih =>
    intro h
    have a := ih (by
      intro h
      have := term_bound (rd_good hl n h) (rd_bound hv n) hc
      unfold sq
      exact sq_bound (by omega) (by omega)) (by omega)
    have b := a.2.2 (by omega)
    refine ⟨?_, ?_, hs⟩
    · rw [sqs]; omega
    · rw [sqs]; omega
/-- one square, as the code has it -/
theorem sq_code (r : List Int) (hv : ∀ x ∈ r, 0 ≤ x ∧ x ≤ 10000) (l : List S35) (hl : ∀ x ∈ l, good x) {c : Int} (hc : 1 ≤ c ∧ c ≤ 10000) (i : Nat) (hi : i < l.length) :
    wrap64 ((wrap64 ((wrap64 (((rd_T35 l (i : Int)).f0) * (wrap64 (Int.tdiv c ((rd_T35 l (i : Int)).f1))))) - (wrap64 ((rd r (i : Int)) * c)))) * (wrap64 ((wrap64 (((rd_T35 l (i : Int)).f0) * (wrap64 (Int.tdiv c ((rd_T35 l (i : Int)).f1))))) - (wrap64 ((rd r (i : Int)) * c))))) = sq r l c i := by
  have t := term_bound (rd_good hl i hi) (rd_bound hv i) hc
  have hg := rd_good hl i hi
  have hs := (sqs_bound r hv l hl hc i (by omega)).2.2 hi
  unfold sq at hs ⊢
  generalize rd_T35 l (i : Int) = x at *
  generalize rd r (i : Int) = v at *
  unfold good at hg
  rw [Int.tdiv_eq_ediv_of_nonneg (by omega)]
  generalize c / x.f1 = q at *
  rw [wrap_id (x := q) (by omega) (by omega)]
  generalize x.f0 * q = A at *
  generalize v * c = B at *
  rw [wrap_id (x := A) (by omega) (by omega), wrap_id (x := B) (by omega) (by omega), wrap_id (x := A - B) (by omega) (by omega)]
  exact wrap_id (by omega) (by omega)
theorem err_l1 (r : List Int) (h : ok r = true) (l : List S35) (hr : rowOk r l) {c : Int} (hc : 1 ≤ c ∧ c ≤ 10000) : ∀ (d i : Nat), i + d = l.length →
    Ev (fun k => wear_Error.l1 k r c (sqs r l c i) l (l.length : Int) (i : Int)) (errOf r l (some c)) := by
  have h' := (ok_iff r).1 h
  have hln := hr.1
  intro d
  induction d with
  | zero =>
    intro i hi
    obtain rfl : i = l.length := by omega
    have hb := sqs_bound r h'.2.2 l hr.2 hc l.length (Nat.le_refl _)
    have hcc : 0 < c * c := Int.mul_pos (by omega) (by omega)
    have hcc2 : c * c ≤ 10000 * 10000 := Int.mul_le_mul hc.2 hc.2 (by omega) (by decide)
    refine Ev.step (fun k => by rw [wear_Error.l1]) (ev_neg (by omega) ?_)
    rw [wrap_id (x := c * c) (by omega) (by omega)]
    exact Ev.bind (ratio_ev hb.1 hcc (by omega) (by omega)) (Ev.now _)
  | succ d ih =>
    intro i hi
    have hlt : i < l.length := by omega
    have hb := sqs_bound r h'.2.2 l hr.2 hc i (by omega)
    have hb2 := hb.2.2 hlt
    have hg := rd_good hr.2 i hlt
    refine Ev.step (fun k => by rw [wear_Error.l1]) (ev_pos (by omega) (ev_pos (by omega) (ev_pos (by omega) (ev_neg (by unfold good at hg; omega) (ev_pos (by omega) ?_)))))
    rw [sq_code r h'.2.2 l hr.2 hc i hlt, wrap_succ _ (by omega), wrap_id (x := sqs r l c i + sq r l c i) (by omega) (by omega)]
    exact ih (i + 1) (by omega)
theorem gcd_le_right {c x : Int} (hx : 0 < x) : (Int.gcd c x : Int) ≤ x := by
  have := Int.le_of_dvd hx (Int.gcd_dvd_right c x)
  exact this
theorem lcm_step {c x : Int} (hc : 1 ≤ c ∧ c ≤ 10000) (hx : 1 ≤ x ∧ x ≤ 1000) : 0 < (Int.gcd c x : Int) ∧ 1 ≤ x / (Int.gcd c x : Int) ∧ x / (Int.gcd c x : Int) ≤ 1000 ∧ 1 ≤ c * (x / (Int.gcd c x : Int)) ∧ c * (x / (Int.gcd c x : Int)) ≤ 10000000 := by
  have h0 : 0 < (Int.gcd c x : Int) := gcd_pos (by omega)
  have h1 : (Int.gcd c x : Int) ≤ x := gcd_le_right (by omega)
  have h2 : 1 ≤ x / (Int.gcd c x : Int) := by rw [Int.le_ediv_iff_mul_le h0]; omega
  have h3 : x / (Int.gcd c x : Int) ≤ x := Int.ediv_le_self _ (by omega)
  have h4 : c * (x / (Int.gcd c x : Int)) ≤ 10000 * 1000 := Int.mul_le_mul hc.2 (by omega) (by omega) (by decide)
  have h5 : 0 < c * (x / (Int.gcd c x : Int)) := Int.mul_pos (by omega) (by omega)
  omega
theorem err_l0 (r : List Int) (h : ok r = true) (l : List S35) (hr : rowOk r l) : ∀ (d i : Nat) (c : Int), i + d = l.length → 1 ≤ c → c ≤ 10000 →
    Ev (fun k => wear_Error.l0 k r l c l (l.length : Int) (i : Int)) (errOf r l (lcmL (l.drop i) c)) := by
  have h' := (ok_iff r).1 h
  have hln := hr.1
  intro d
  induction d with
  | zero =>
    intro i c hi h0 h1
    obtain rfl : i = l.length := by omega
    rw [List.drop_length]
    refine Ev.step (fun k => by rw [wear_Error.l0]) (ev_neg (by omega) ?_)
    exact err_l1 r h l hr ⟨h0, h1⟩ l.length 0 (by omega)
  | succ d ih =>
    intro i c hi h0 h1
    have hlt : i < l.length := by omega
    have hg := rd_good hr.2 i hlt
    rw [List.drop_eq_getElem_cons hlt]
    rw [rd_S35 l i hlt] at hg
    refine Ev.step (fun k => by rw [wear_Error.l0]) (ev_pos (by omega) (ev_pos (by omega) (ev_pos (by omega) ?_)))
    rw [rd_S35 l i hlt]
    unfold lcmL
    generalize l[i] = x at *
    unfold good at hg
    have ls := lcm_step ⟨h0, h1⟩ (show 1 ≤ x.f1 ∧ x.f1 ≤ 1000 by omega)
    have hgv := gcd_ev x.f1.toNat c.toNat (by omega) (by omega)
    rw [Int.toNat_of_nonneg (by omega), Int.toNat_of_nonneg (by omega)] at hgv
    refine Ev.bind hgv (ev_neg (by omega) ?_)
    rw [Int.tdiv_eq_ediv_of_nonneg (by omega)]
    generalize (Int.gcd c x.f1 : Int) = g at *
    generalize x.f1 / g = q at *
    rw [wrap_id (x := q) (by omega) (by omega)]
    generalize c * q = c' at *
    rw [wrap_id (x := c') (by omega) (by omega)]
    by_cases hc' : c' > 10000
    · rw [if_pos hc']; exact ev_pos hc' (Ev.now _)
    · rw [if_neg hc']
      refine ev_neg hc' ?_
      rw [wrap_succ _ (by omega)]
      exact ih (i + 1) c' (by omega) (by omega) (by omega)
def errorOf (r : List Int) (l : List S35) : Int × Int × Int := if ok r = true then (if rowOk r l then errOf r l (lcmL l 1) else (0, 0, 2)) else (0, 0, 70)
theorem Error_ev (r : List Int) (l : List S35) : Ev (fun k => wear_Error.f k r l) (errorOf r l) := by
  unfold wear_Error.f errorOf
  rw [asked_f]
  by_cases h : ok r = true
  · by_cases hr : rowOk r l
    · simp only [h, hr, if_true]
      exact ev_some (ev_pos rfl (err_l0 r h l hr l.length 0 1 (by omega) (by omega) (by omega)))
    · rw [if_pos h, if_neg hr]
      refine ev_some (ev_neg (by decide) ?_)
      rw [if_pos h, if_neg hr]
      exact Ev.now _
  · rw [if_neg h, if_neg h]
    exact ev_some (ev_neg (by decide) (Ev.now _))

end Go.Proofs.Ytpdcpekjafcohaa.Plain

namespace Go.Proofs.Ytpdcpekjafcohaa.Plain
set_option linter.unusedVariables false
set_option linter.unusedSimpArgs false
open Go.RowKit Go.Proofs.Ytpdcpekjafcohaa.XWear Go.Proofs.YtpdcpekjafcohaaW.PrintWords Go.Proofs.YtpdcpekjafcohaaW.PrintLast Go.Proofs.YtpdcpekjafcohaaW.PrintMore

theorem divisor_l0 : ∀ (b a : Nat), a ≤ 4000000000000000000 → b ≤ 4000000000000000000 → 0 < Nat.gcd a b → Ev (fun k => dropperref07_divisor.l0 k (a : Int) (b : Int)) (Int.gcd a b : Int) := by
  intro b
  induction b using Nat.strongRecOn with
  | _ b ih =>
    intro a ha hb hp
    refine Ev.step (fun k => by rw [dropperref07_divisor.l0]) ?_
    by_cases h : b = 0
    · subst h
      refine ev_pos rfl (ev_const ?_)
      rw [Nat.gcd_zero_right] at hp
      have : mx (a : Int) 1 = (a : Int) := by unfold mx; split <;> omega
      rw [this]; simp
    · refine ev_neg (by omega) ?_
      have hlt : a % b < b := Nat.mod_lt _ (by omega)
      have e : Int.tmod (a : Int) (b : Int) = ((a % b : Nat) : Int) := by
        rw [Int.tmod_eq_emod_of_nonneg (by omega)]; rfl
      rw [e]
      have e3 : Nat.gcd b (a % b) = Nat.gcd a b := by rw [Nat.gcd_comm b, ← Nat.gcd_rec, Nat.gcd_comm]
      have := ih (a % b) hlt b hb (by omega) (by rw [e3]; exact hp)
      have e2 : Int.gcd (b : Int) ((a % b : Nat) : Int) = Int.gcd (a : Int) (b : Int) := e3
      rw [e2] at this
      exact this
theorem rratio_ev {n d : Int} (hn : 0 ≤ n) (hd : 0 < d) (hn2 : n ≤ 4000000000000000000) (hd2 : d ≤ 4000000000000000000) : Ev (fun k => dropperref07_ratio.f k n d) (R n d) := by
  obtain ⟨e1, e2⟩ := R_fits hn hd hn2 hd2
  have g := gcd_pos (n := n) hd
  have hg : Ev (fun k => dropperref07_divisor.f k n d) (Int.gcd n d : Int) := by
    obtain ⟨n', rfl⟩ := Int.eq_ofNat_of_zero_le hn
    obtain ⟨d', rfl⟩ := Int.eq_ofNat_of_zero_le (Int.le_of_lt hd)
    unfold dropperref07_divisor.f
    have w1 : wrap64 (-(n' : Int)) = -(n' : Int) := wrap_id (by omega) (by omega)
    have w2 : wrap64 (-(d' : Int)) = -(d' : Int) := wrap_id (by omega) (by omega)
    have m1 : mx (n' : Int) (-(n' : Int)) = (n' : Int) := by unfold mx; split <;> omega
    have m2 : mx (d' : Int) (-(d' : Int)) = (d' : Int) := by unfold mx; split <;> omega
    rw [w1, w2, m1, m2]
    exact divisor_l0 d' n' (by omega) (by omega) (by have : (0 : Int) < (Int.gcd (n' : Int) (d' : Int) : Int) := g; have e : Int.gcd (n' : Int) (d' : Int) = Nat.gcd n' d' := rfl; omega)
  unfold dropperref07_ratio.f
  refine Ev.bind hg (ev_neg (by omega) (ev_const ?_))
  rw [e1, e2]


end Go.Proofs.Ytpdcpekjafcohaa.Plain

namespace Go.Proofs.Ytpdcpekjafcohaa.Plain
set_option linter.unusedVariables false
set_option linter.unusedSimpArgs false
open Go.RowKit Go.Proofs.Ytpdcpekjafcohaa.XWear Go.Proofs.YtpdcpekjafcohaaW.PrintWords Go.Proofs.YtpdcpekjafcohaaW.PrintLast Go.Proofs.YtpdcpekjafcohaaW.PrintMore

theorem isRow_l0 (r : List Int) (l : List S35) (hl : l.length ≤ 100) : ∀ (d i : Nat), i + d = l.length → (∀ j (h : j < l.length), j < i → good l[j]) →
    Ev (fun k => dropperref07_IsRow.l0 k r l (i : Int)) (decide (rowOk r l)) := by
  intro d
  induction d with
  | zero =>
    intro i hi hb
    refine Ev.step (fun k => by rw [dropperref07_IsRow.l0]) (ev_neg (by omega) (ev_const ?_))
    congr 1
    rw [Bool.eq_iff_iff, decide_eq_true_eq, beq_iff_eq]
    constructor
    · intro h
      refine ⟨by omega, fun x hx => ?_⟩
      obtain ⟨j, hj, rfl⟩ := List.mem_iff_getElem.1 hx
      exact hb j hj (by omega)
    · intro h; have := h.1; omega
  | succ d ih =>
    intro i hi hb
    have hlt : i < l.length := by omega
    have no : ¬ good l[i] → (false : Bool) = decide (rowOk r l) := by
      intro h
      symm
      rw [decide_eq_false_iff_not]
      intro h2
      exact h (h2.2 _ (List.getElem_mem hlt))
    refine Ev.step (fun k => by rw [dropperref07_IsRow.l0]) (ev_pos (by omega) (ev_pos (by omega) ?_))
    rw [rd_S35 l i hlt]
    have hnext : good l[i] → Ev (fun k => dropperref07_IsRow.l0 k r l (((i + 1 : Nat) : Nat) : Int)) (decide (rowOk r l)) := by
      intro hg
      refine ih (i + 1) (by omega) (fun j hj hji => ?_)
      by_cases h : j < i
      · exact hb j hj h
      · obtain rfl : j = i := by omega
        exact hg
    rw [wrap_succ _ (by omega)]
    generalize l[i] = x at *
    by_cases h1 : x.f1 < 1
    · exact ev_pos h1 (ev_const (congrArg some (no (by unfold good; omega))))
    refine ev_neg h1 ?_
    by_cases h2 : x.f1 > 1000
    · exact ev_pos h2 (ev_const (congrArg some (no (by unfold good; omega))))
    refine ev_neg h2 ?_
    by_cases h3 : x.f0 < 0
    · exact ev_pos h3 (ev_const (congrArg some (no (by unfold good; omega))))
    refine ev_neg h3 ?_
    rw [wrap_id (x := 10000 * x.f1) (by omega) (by omega)]
    by_cases h4 : x.f0 > 10000 * x.f1
    · exact ev_pos h4 (ev_const (congrArg some (no (by unfold good; omega))))
    refine ev_neg h4 ?_
    exact hnext (by unfold good; omega)
theorem isRow_ev (r : List Int) (l : List S35) (hl : l.length ≤ 100) : Ev (fun k => dropperref07_IsRow.f k r l) (decide (rowOk r l)) :=
  isRow_l0 r l hl l.length 0 (by omega) (fun j h hj => by omega)
theorem rgrows_l0 (l : List S35) (hl : l.length ≤ 100) (hg : ∀ x ∈ l, good x) : ∀ (d i : Nat), 1 ≤ i → (i + d = l.length ∨ l.length < i ∧ d = 0) → (∀ j, j + 1 < i → j + 1 < l.length → (rd_T35 l (j : Int)).f0 * (rd_T35 l ((j + 1 : Nat) : Int)).f1 ≤ (rd_T35 l ((j + 1 : Nat) : Int)).f0 * (rd_T35 l (j : Int)).f1) →
    Ev (fun k => dropperref07_Grows.l0 k l (i : Int)) (slices_IsSortedFunc_api_Ratio_api_Ratio.asc l, 0) := by
  intro d
  induction d with
  | zero =>
    intro i h1 hi hb
    refine Ev.step (fun k => by rw [dropperref07_Grows.l0]) (ev_neg (by omega) (ev_const ?_))
    rw [(asc_iff l hg).2 (fun j hj => hb j (by omega) hj)]
  | succ d ih =>
    intro i h1 hi hb
    have hlt : i < l.length := by omega
    have g1 := rd_good hg i hlt
    have g2 := rd_good hg (i - 1) (by omega)
    refine Ev.step (fun k => by rw [dropperref07_Grows.l0]) ?_
    have e : wrap64 ((i : Int) - 1) = ((i - 1 : Nat) : Int) := by rw [wrap_id] <;> omega
    rw [e]
    refine ev_pos (by omega) (ev_pos (by omega) (ev_pos (by omega) (ev_pos (by omega) ?_)))
    unfold dropperref07_Less.f
    have p1 := prod_bound g1 g2
    have p2 := prod_bound g2 g1
    rw [wrap_id (x := (rd_T35 l (i : Int)).f0 * (rd_T35 l ((i - 1 : Nat) : Int)).f1) (by omega) (by omega), wrap_id (x := (rd_T35 l ((i - 1 : Nat) : Int)).f0 * (rd_T35 l (i : Int)).f1) (by omega) (by omega)]
    refine ev_some ?_
    by_cases hlt2 : (rd_T35 l (i : Int)).f0 * (rd_T35 l ((i - 1 : Nat) : Int)).f1 < (rd_T35 l ((i - 1 : Nat) : Int)).f0 * (rd_T35 l (i : Int)).f1
    · refine ev_pos (decide_eq_true hlt2) (ev_const ?_)
      have : slices_IsSortedFunc_api_Ratio_api_Ratio.asc l = false := by
        rw [Bool.eq_false_iff]
        intro h
        have := (asc_iff l hg).1 h (i - 1) (by omega)
        rw [show i - 1 + 1 = i by omega] at this
        omega
      rw [this]
    · refine ev_neg (by simpa using hlt2) ?_
      rw [wrap_succ _ (by omega)]
      refine ih (i + 1) (by omega) (by omega) (fun j hj hj2 => ?_)
      by_cases h : j + 1 < i
      · exact hb j h hj2
      · obtain rfl : j = i - 1 := by omega
        rw [show i - 1 + 1 = i by omega]
        omega
theorem RGrows_ev (r : List Int) (l : List S35) (hl : r.length ≤ 100) (hl2 : l.length ≤ 100) : Ev (fun k => dropperref07_Grows.f k r l) (growsOf r l (slices_IsSortedFunc_api_Ratio_api_Ratio.asc l)) := by
  unfold dropperref07_Grows.f growsOf
  refine Ev.bind (refValid r (by omega)) ?_
  by_cases h : ok r = true
  · rw [if_pos h]
    refine ev_pos h (Ev.bind (isRow_ev r l hl2) ?_)
    by_cases hr : rowOk r l
    · rw [if_pos hr]
      refine ev_pos (decide_eq_true hr) ?_
      have h' := (ok_iff r).1 h
      exact rgrows_l0 l hl2 hr.2 (l.length - 1) 1 (by omega) (by have := hr.1; omega) (fun j h _ => by omega)
    · rw [if_neg hr]
      exact ev_neg (by simpa using hr) (Ev.now _)
  · rw [if_neg h]
    exact ev_neg h (Ev.now _)
theorem divisor_ev {n d : Int} (hn : 0 ≤ n) (hd : 0 < d) (hn2 : n ≤ 4000000000000000000) (hd2 : d ≤ 4000000000000000000) : Ev (fun k => dropperref07_divisor.f k n d) (Int.gcd n d : Int) := by
  have hg := gcd_pos (n := n) hd
  unfold dropperref07_divisor.f
  have e1 : mx n (wrap64 (-n)) = n := by rw [wrap_id (by omega) (by omega)]; unfold mx; omega
  have e2 : mx d (wrap64 (-d)) = d := by rw [wrap_id (by omega) (by omega)]; unfold mx; omega
  rw [e1, e2]
  have := divisor_l0 d.toNat n.toNat (by omega) (by omega) (by
    have : Int.gcd n d = Nat.gcd n.toNat d.toNat := by unfold Int.gcd; congr 1 <;> omega
    omega)
  rw [Int.toNat_of_nonneg hn, Int.toNat_of_nonneg (by omega)] at this
  exact this
theorem rerr_l1 (r : List Int) (h : ok r = true) (l : List S35) (hr : rowOk r l) {c : Int} (hc : 1 ≤ c ∧ c ≤ 10000) : ∀ (d i : Nat), i + d = l.length →
    Ev (fun k => dropperref07_Error.l1 k r l c (sqs r l c i) (i : Int)) (errOf r l (some c)) := by
  have h' := (ok_iff r).1 h
  have hln := hr.1
  intro d
  induction d with
  | zero =>
    intro i hi
    obtain rfl : i = l.length := by omega
    have hb := sqs_bound r h'.2.2 l hr.2 hc l.length (Nat.le_refl _)
    have hcc : 0 < c * c := Int.mul_pos (by omega) (by omega)
    have hcc2 : c * c ≤ 10000 * 10000 := Int.mul_le_mul hc.2 hc.2 (by omega) (by decide)
    refine Ev.step (fun k => by rw [dropperref07_Error.l1]) (ev_neg (by omega) ?_)
    rw [wrap_id (x := c * c) (by omega) (by omega)]
    exact Ev.bind (rratio_ev hb.1 hcc (by omega) (by omega)) (Ev.now _)
  | succ d ih =>
    intro i hi
    have hlt : i < l.length := by omega
    have hb := sqs_bound r h'.2.2 l hr.2 hc i (by omega)
    have hb2 := hb.2.2 hlt
    have hg := rd_good hr.2 i hlt
    refine Ev.step (fun k => by rw [dropperref07_Error.l1]) (ev_pos (by omega) (ev_pos (by omega) (ev_neg (by unfold good at hg; omega) (ev_pos (by omega) ?_))))
    rw [sq_code r h'.2.2 l hr.2 hc i hlt, wrap_succ _ (by omega), wrap_id (x := sqs r l c i + sq r l c i) (by omega) (by omega)]
    exact ih (i + 1) (by omega)
theorem rerr_l0 (r : List Int) (h : ok r = true) (l : List S35) (hr : rowOk r l) : ∀ (d i : Nat) (c : Int), i + d = l.length → 1 ≤ c → c ≤ 10000 →
    Ev (fun k => dropperref07_Error.l0 k r l c (i : Int)) (errOf r l (lcmL (l.drop i) c)) := by
  have h' := (ok_iff r).1 h
  have hln := hr.1
  intro d
  induction d with
  | zero =>
    intro i c hi h0 h1
    obtain rfl : i = l.length := by omega
    rw [List.drop_length]
    refine Ev.step (fun k => by rw [dropperref07_Error.l0]) (ev_neg (by omega) ?_)
    exact rerr_l1 r h l hr ⟨h0, h1⟩ l.length 0 (by omega)
  | succ d ih =>
    intro i c hi h0 h1
    have hlt : i < l.length := by omega
    have hg := rd_good hr.2 i hlt
    rw [List.drop_eq_getElem_cons hlt]
    rw [rd_S35 l i hlt] at hg
    refine Ev.step (fun k => by rw [dropperref07_Error.l0]) (ev_pos (by omega) (ev_pos (by omega) ?_))
    rw [rd_S35 l i hlt]
    unfold lcmL
    generalize l[i] = x at *
    unfold good at hg
    have ls := lcm_step ⟨h0, h1⟩ (show 1 ≤ x.f1 ∧ x.f1 ≤ 1000 by omega)
    have hgv := divisor_ev (n := c) (d := x.f1) (by omega) (by omega) (by omega) (by omega)
    refine Ev.bind hgv (ev_neg (by omega) ?_)
    rw [Int.tdiv_eq_ediv_of_nonneg (by omega)]
    have e : c / (Int.gcd c x.f1 : Int) * x.f1 = c * (x.f1 / (Int.gcd c x.f1 : Int)) := by
      rw [← Int.mul_ediv_assoc c (Int.gcd_dvd_right c x.f1), Int.mul_comm c x.f1, Int.mul_ediv_assoc x.f1 (Int.gcd_dvd_left c x.f1), Int.mul_comm]
    have b1 : 0 ≤ c / (Int.gcd c x.f1 : Int) := Int.ediv_nonneg (by omega) (by omega)
    have b2 : c / (Int.gcd c x.f1 : Int) ≤ c := Int.ediv_le_self _ (by omega)
    rw [wrap_id (x := c / (Int.gcd c x.f1 : Int)) (by omega) (by omega), e]
    clear e b1 b2
    generalize (Int.gcd c x.f1 : Int) = g at *
    generalize x.f1 / g = q at *
    generalize c * q = c' at *
    rw [wrap_id (x := c') (by omega) (by omega)]
    by_cases hc' : c' > 10000
    · rw [if_pos hc']; exact ev_pos hc' (Ev.now _)
    · rw [if_neg hc']
      refine ev_neg hc' ?_
      rw [wrap_succ _ (by omega)]
      exact ih (i + 1) c' (by omega) (by omega) (by omega)
theorem RError_ev (r : List Int) (l : List S35) (hl : r.length ≤ 100) (hl2 : l.length ≤ 100) : Ev (fun k => dropperref07_Error.f k r l) (errorOf r l) := by
  unfold dropperref07_Error.f errorOf
  refine Ev.bind (refValid r (by omega)) ?_
  by_cases h : ok r = true
  · rw [if_pos h]
    refine ev_pos h (Ev.bind (isRow_ev r l hl2) ?_)
    by_cases hr : rowOk r l
    · rw [if_pos hr]
      exact ev_pos (decide_eq_true hr) (rerr_l0 r h l hr l.length 0 1 (by omega) (by omega) (by omega))
    · rw [if_neg hr]
      exact ev_neg (by simpa using hr) (Ev.now _)
  · rw [if_neg h]
    exact ev_neg h (Ev.now _)

end Go.Proofs.Ytpdcpekjafcohaa.Plain

/- Which ratios (at most 100) are a growing row, and their error: program and document return the same, with the same errors. No condition but the statement's own. -/
namespace Go.Proofs.Ytpdcpekjafcohaa.Pure
set_option linter.unusedVariables false
set_option linter.unusedSimpArgs false
open Go.RowKit Go.Proofs.Ytpdcpekjafcohaa.XWear Go.Proofs.YtpdcpekjafcohaaW.PrintWords Go.Proofs.YtpdcpekjafcohaaW.PrintLast
open Go.Proofs.Ytpdcpekjafcohaa.Plain

theorem WearErrors : dropperlaw07_WearErrors.Pure := by
  intro r l _ _
  refine Ev.rounds (r := true) (g := fun k => dropperlaw07_WearErrors.f k r l) ?_
  unfold dropperlaw07_WearErrors.f dropperlaw07_Long.f
  by_cases h : (r.length : Int) > 100
  · rw [if_pos h]
    exact ev_some (ev_pos rfl (Ev.bind first_ev (Ev.now _)))
  rw [if_neg h]
  by_cases h2 : (l.length : Int) > 100
  · exact ev_some (ev_pos (decide_eq_true h2) (Ev.bind first_ev (Ev.now _)))
  refine ev_some (ev_neg (by simpa using h2) ?_)
  rw [Grows_f]
  refine ev_some (Ev.bind (RGrows_ev r l (by omega) (by omega)) (Ev.bind (Error_ev r l) (Ev.bind (RError_ev r l (by omega) (by omega)) ?_)))
  exact ev_pos (by simp) (ev_pos rfl (ev_pos (by simp) (ev_pos rfl (Ev.bind first_ev (Ev.now _)))))

end Go.Proofs.Ytpdcpekjafcohaa.Pure

-- Written by wip/xprint.py of this repo, over the kit's print.py: out of the translation; the oracles in it are by hand. Not trusted: Lean checks it.
namespace Go.Proofs.Ytpdcpekjafcohaa.wearErrors
open Go.ChangeShapes Go.WideShapes Go.ChangeAt Go.RowKit Go.Proofs.Ytpdcpekjafcohaa.Open Go.Proofs.Ytpdcpekjafcohaa.XWear Go.Proofs.YtpdcpekjafcohaaW.PrintWords Go.Proofs.YtpdcpekjafcohaaW.PrintLast Go.Proofs.YtpdcpekjafcohaaW.PrintMore
open Go.ChangeMaps (open_string shut_string)
set_option linter.unusedVariables false
set_option linter.unusedSimpArgs false
theorem own : ownKnob Try.prog.godebug = none := by kernel_rfl
theorem laidOut : laidOutB Try.prog = true := by kernel_rfl
set_option maxRecDepth 100000 in
theorem lifted (os : Os) (started : os.Started) (H : Type) (enc : TypeId × Value → H) :
    ReturnsInHanded {} Try.checked os 10 .any (Rows.wearErrorsSpec.pre6 enc Try.prog Try.f10 Rows.wearErrorsRow.domain false) (Rows.wearErrorsSpec.post enc Try.prog Try.f10 false true false false) := by
  refine returnsInHanded_of_change_sized (C := Try.checked) own started (by kernel_rfl) Try.func10
    (ChangeSpec.witness6 (enc := enc) (C := Try.checked) false ⟨#[], #[.slice none 0 0, .slice none 0 0], []⟩ 8 (by kernel_rfl) (by kernel_rfl) (by kernel_rfl) (by kernel_rfl)) ?_
  intro W base args ds gs before hval0 hW hcnd hsz0 _
  have hval : ∀ (j : Nat) t v, Try.f10.params[j]? = some t → args[j]? = some v → Value.okWide Try.prog W .any base t v := hval0
  have hW' := hW
  obtain ⟨p, q, hA0, hV, rfl, hfz, hnd⟩ := hW
  have hA : DataW.TrodAll enc Try.prog W 0 (fun _ => true) true Try.f10.params.toList args.toList ds p := hA0
  rw [Try.params10] at hA hval
  obtain ⟨v0, vs0, d0, ds0, p0, q0, hargs, rfl, rfl, h0, r0⟩ := trodAll_cons hA
  obtain ⟨v1, vs1, d1, ds1, p1, q1, rfl, rfl, rfl, h1, r1⟩ := trodAll_cons r0
  obtain ⟨rfl, rfl, rfl⟩ := trodAll_nil r1
  obtain rfl : args = #[v0, v1] := by cases args; simp_all
  obtain ⟨rfl, rfl⟩ := trodVars_none hV
  obtain ⟨b0, len0, cap0, rfl⟩ := okWide_slice Try.underlying22 (hval 0 22 v0 rfl rfl)
  have k0 := h0
  have lt0 : ∀ x ∈ p0, x.block < W.heap.size := by obtain ⟨m, hm⟩ := k0; exact DataW.trod_lt m _ _ _ hm
  obtain ⟨fuel0, hf0⟩ := h0
  obtain ⟨l0, ⟨A0, c0, hcs0, hc0, hr0⟩, hg0⟩ := (opens_slice Try.underlying22 (opens_int Try.underlying3) (by kernel_rfl)) H enc W fuel0 _ _ hf0
  simp [Value.cells] at hcs0
  obtain ⟨rfl, rfl, rfl⟩ := hcs0
  obtain ⟨b1, len1, cap1, rfl⟩ := okWide_slice Try.underlying31 (hval 1 31 v1 rfl rfl)
  have k1 := h1
  have lt1 : ∀ x ∈ p1, x.block < W.heap.size := by obtain ⟨m, hm⟩ := k1; exact DataW.trod_lt m _ _ _ hm
  obtain ⟨fuel1, hf1⟩ := h1
  obtain ⟨l1, ⟨A1, c1, hcs1, hc1, hr1⟩, hg1⟩ := (opens_slice Try.underlying31 (opens_iso (f := fun x : S35 => (x.f0, x.f1)) (fun p => ⟨p.1, p.2⟩) (fun _ => rfl) (opens_struct Try.underlying35 (by kernel_rfl) (opensF_cons rfl (by kernel_rfl) (opens_int Try.underlying3) (opensF_one rfl (by kernel_rfl) (opens_int Try.underlying3))))) (by kernel_rfl)) H enc W fuel1 _ _ hf1
  simp [Value.cells] at hcs1
  obtain ⟨rfl, rfl, rfl⟩ := hcs1
  clear hA0 hval0 hsz0
  obtain ⟨k, h⟩ := Pure.WearErrors l0 l1 hg0 hg1
  refine (dropperlaw07_WearErrors.calls k _ _ l0 _ _ l1 true W hr0 hc0 hr1 hc1 h).mono fun e W' ⟨he, bel0⟩ => ?_
  have bel : Below W.heap.size W W' := bel0
  subst he
  exact ⟨_, rfl, _, _, _, [], _, [], hW', trodAll_mk1 (shut_bool Try.underlying4 _), (trodAll_cons_mk (Below.trod laidOut (by kernel_rfl) (of_decide_eq_true (by kernel_rfl)) k0 bel lt0) (trodAll_cons_mk (Below.trod laidOut (by kernel_rfl) (of_decide_eq_true (by kernel_rfl)) k1 bel lt1) trodAll_mk0)), rfl, bel.frame _, fun h => by cases h⟩
theorem over : Rows.wearErrorsRow.holds Try.pinned (OpenSpec.ofChange Rows.wearErrorsSpec) :=
  OpenClaim.holds_of_wide 10 Try.f10 rfl rfl rfl rfl rfl rfl rfl ⟨rfl, rfl, rfl, rfl, rfl⟩ rfl rfl rfl rfl rfl (by kernel_rfl) Try.func10 (by kernel_rfl)
    (of_decide_eq_true (by kernel_rfl)) (by unfold Func.isWrapper; first | (rw [if_pos (by decide +kernel)]; kernel_rfl) | (rw [if_neg (by decide +kernel)]; exact ⟨rfl, rfl⟩))
    (fun os started H enc _ => lifted os started H enc)
theorem proved : Rows.WearErrorsSaid := over
#print axioms proved
end Go.Proofs.Ytpdcpekjafcohaa.wearErrors
namespace Go.Proofs.Ytpdcpekjafcohaa
/-- The row, under a short name, for the claim. -/
theorem wearErrors_holds : Rows.WearErrorsSaid := wearErrors.proved
end Go.Proofs.Ytpdcpekjafcohaa
