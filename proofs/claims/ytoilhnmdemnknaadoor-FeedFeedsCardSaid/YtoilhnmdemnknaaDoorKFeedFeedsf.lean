-- Written by wip/pack.py of this repo: texts of this claim, put together.
import Derived.Test.YtoilhnmdemnknaaDoorKFeedFeedse
namespace Go.Proofs.YtoilhnmdemnknaaDoor.XFeed
open Go.RowKit Go.Proofs.YtoilhnmdemnknaaDoorW.PrintWords Go.Proofs.YtoilhnmdemnknaaDoorW.PrintLast Go.Proofs.YtoilhnmdemnknaaDoorW.PrintMore
attribute [local go_sem] max2_int min2_int max_two min_two max_three min_three max_four min_four   -- for this text's walks alone
set_option linter.unusedVariables false
set_option linter.unusedSimpArgs false
/-! ### feed_choose: function 81 -/
mutual
def feed_choose.l0 : Nat → List (S114) → Int → Int → List (S114) → Int → Int → Option ((List (List Int)) × Bool)
 | 0, _, _, _, _, _, _ => none
 | k + 1, x0, x1, x2, x14, x15, x16 => if x16 < x15 then (if 0 ≤ x16 then (if x16 < (x14.length : Int) then (if (Go.bits .and .i64 ((rd_T114 x14 x16).f0) x2) = 0 then (if 0 ≤ (wrap64 (x16 + 1)) then (if (wrap64 (x16 + 1)) ≤ (x0.length : Int) then ((feed_choose.f k (x0.drop ((wrap64 (x16 + 1)) : Int).toNat) (wrap64 (x1 - 1)) (Go.bits .or .i64 x2 ((rd_T114 x14 x16).f0))).bind fun bt682 => (if bt682.2 = true then ((some (([(rd_T114 x14 x16).f1] : List (List Int)) : List (List Int))).bind fun y686 => (if y686.length + bt682.1.length < 5864062014805 then (some ((y686 ++ bt682.1), true)) else (none))) else (feed_choose.l0 k x0 x1 x2 x14 x15 (wrap64 (x16 + 1))))) else (none)) else (none)) else (feed_choose.l0 k x0 x1 x2 x14 x15 (wrap64 (x16 + 1)))) else (none)) else (none)) else (some (([] : List (List Int)), false))
def feed_choose.f : Nat → List (S114) → Int → Int → Option ((List (List Int)) × Bool)
 | 0, _, _, _ => none
 | k + 1, l0, a1, a2 => if a1 = 0 then (some (([] : List (List Int)), true)) else (feed_choose.l0 k l0 a1 a2 l0 (l0.length : Int) 0)
end
theorem feed_choose.mono_l : ∀ k, (∀ y0 y1 y2, LeO (feed_choose.f k y0 y1 y2) (feed_choose.f (k + 1) y0 y1 y2)) ∧ (∀ y0 y1 y2 y3 y4 y5, LeO (feed_choose.l0 k y0 y1 y2 y3 y4 y5) (feed_choose.l0 (k + 1) y0 y1 y2 y3 y4 y5))
 | 0 => ⟨fun _ _ _ r h => by simp [feed_choose.f] at h, fun _ _ _ _ _ _ r h => by simp [feed_choose.l0] at h⟩
 | k + 1 => by
  obtain ⟨ih0, ih1⟩ := feed_choose.mono_l k
  refine ⟨?_, ?_⟩
  ·
   intro y0 y1 y2
   unfold feed_choose.f
   repeat' first
   | (with_reducible exact ih0 _ _ _)
   | (with_reducible exact ih1 _ _ _ _ _ _)
   | (with_reducible exact LeO.refl _)
   | (with_reducible exact LeO.none _)
   | (with_reducible refine LeO.ite ?_ ?_)
   | (with_reducible refine LeO.bind ?_ (fun _ => ?_))
   | exact ih0 _ _ _
   | exact ih1 _ _ _ _ _ _
   | exact LeO.none _
   | refine LeO.ite ?_ ?_
   | refine LeO.bind ?_ (fun _ => ?_)
  ·
   intro y0 y1 y2 y3 y4 y5
   unfold feed_choose.l0
   repeat' first
   | (with_reducible exact ih0 _ _ _)
   | (with_reducible exact ih1 _ _ _ _ _ _)
   | (with_reducible exact LeO.refl _)
   | (with_reducible exact LeO.none _)
   | (with_reducible refine LeO.ite ?_ ?_)
   | (with_reducible refine LeO.bind ?_ (fun _ => ?_))
   | exact ih0 _ _ _
   | exact ih1 _ _ _ _ _ _
   | exact LeO.none _
   | refine LeO.ite ?_ ?_
   | refine LeO.bind ?_ (fun _ => ?_)
theorem feed_choose.mono : ∀ a0 a1 a2 k, LeO (feed_choose.f k a0 a1 a2) (feed_choose.f (k + 1) a0 a1 a2) := by
 intro a0 a1 a2 k
 obtain ⟨ih0, ih1⟩ := feed_choose.mono_l k
 exact ih0 a0 a1 a2
def feed_choose.T7 : Bool × List (List Nat × List Nat) := (true, [([], []), ([], []), ([1], [1]), ([0, 2], [0, 2]), ([], []), ([4], [4]), ([], []), ([], []), ([7], [7]), ([6, 8], [6, 8]), ([3, 5, 9], [3, 5, 9]), ([10], [10]), ([11], [11]), ([11], [11]), ([12, 10, 0, 1, 2, 3, 4, 5, 6, 7, 8, 9, 10, 11, 12], [12]), ([13, 14, 0, 1, 2, 3, 4, 5, 6, 7, 8, 9, 10, 11, 12, 13, 14], [13])])
def feed_choose.B7 : List Nat := [0, 0, 2, 7, 0, 16, 0, 0, 128, 448, 1023, 2047, 4095, 4095, 8191, 32767]
theorem feed_choose.tab7 : rtab .any (opsOf Tryd.f81 7) = feed_choose.T7 := by kernel_rfl
theorem feed_choose.bits7 : waitsOk feed_choose.T7.2 feed_choose.B7 = true := by kernel_rfl
set_option maxHeartbeats 8000000 in
set_option maxRecDepth 100000 in
theorem feed_choose.calls (k : Nat) : ∀ (P0_ : Nat → Prop) (A0 : Option Addr) (c0 : Nat) (l0 : List (S114)) (a1 : Int) (a2 : Int) (r1 : List (List Int)) (r2 : Bool) (w : World) (hs0 : Kd.V k114 114 w w.heap.size (fun k_ => P0_ k_) (.slice A0 l0.length c0) l0) (h : feed_choose.f k l0 a1 a2 = some (r1, r2)),
  Calls Tryd.prog 81 #[.slice A0 l0.length c0, .int .i64 a1, .int .i64 a2] w fun e w' => ∃ v0_ : Value, e = .returned (.tuple #[v0_, .bool r2]) ∧ Kd.N (Kd.slice 3 (Kd.int .i64)) 28 w' w.heap.size (fun k_ => (P0_ k_ ∨ w.heap.size ≤ k_)) v0_ r1 ∧ Below w.heap.size w w' := by
 induction k using Nat.strongRecOn with
 | _ k ih =>
 intro P0_ A0 c0 l0 a1 a2 r1 r2 w hs0 h
 cases k with
 | zero => exact absurd h (by simp [feed_choose.f])
 | succ k =>
 simp only [feed_choose.f] at h
 have hu114 := Tryd.underlying114
 have HO0 := Aside0.mk (show Kd.V k114 114 w w.heap.size (fun k_ => (P0_ k_ ∨ w.heap.size ≤ k_)) (.slice A0 l0.length c0) l0 from Kd.V_mono hs0 (fun k_ hk => .inl hk))
 have HB := Aside0.mk (Below.refl w.heap.size w)
 have H : (if a1 = 0 then (some (([] : List (List Int)), true)) else (feed_choose.l0 k l0 a1 a2 l0 (l0.length : Int) 0)) = some (r1, r2) := h
 clear h
 by_cases c4 : a1 = 0
 ·
  rw [if_pos c4] at H
  have c4b0 : (a1 == 0) = true := beq_iff_eq.mpr c4
  have c4b1 : (a1 != 0) = false := bne_eq_false_iff_eq.mpr c4
  clear c4
  simp only [Option.some.injEq, Prod.mk.injEq] at H
  obtain ⟨rfl, rfl⟩ := H
  go_enter Tryd.func81, Tryd.ntmps81
  go_wp2
  go_ret2
  exact ⟨_, ezz, by first | exact Kd.S_nil _ _ _ _ _ | exact Kd.N_nil _ _ _ _ _ | exact Kd.V_nil _ _ _ _ _ | exact Kd.Q_nil _ _ _ _ _ | exact Kd.R_nil _ _ _ _ _, bel⟩
 ·
  rw [if_neg c4] at H
  have c4b0 : (a1 == 0) = false := beq_eq_false_iff_ne.mpr c4
  have c4b1 : (a1 != 0) = true := bne_iff_ne.mpr c4
  have H' := Aside0.mk H
  clear H
  go_enter Tryd.func81, Tryd.ntmps81
  go_wp2
  go_loopg [16] k (fun kq v16 w' => ∃ (x16_1 : Int), v16 = .int .i64 x16_1 ∧ Aside0 (feed_choose.l0 kq l0 a1 a2 l0 (l0.length : Int) x16_1 = some (r1, r2)) ∧ Aside0 (kq ≤ k) ∧ Aside0 (Kd.V k114 114 w' w.heap.size (fun k_ => (P0_ k_ ∨ w.heap.size ≤ k_)) (.slice A0 l0.length c0) l0) ∧ Aside0 (Kd.V k114 114 w' w.heap.size (fun k_ => (P0_ k_ ∨ w.heap.size ≤ k_)) (.slice A0 l0.length c0) l0) ∧ Aside0 (Below w.heap.size w w'))
  case atStart => exact ⟨(0), rsz, H', ⟨Nat.le_refl _⟩, ⟨by (with_reducible repeat (first | apply Kd.V_alloc | apply Kd.V_drewN | apply Kd.V_drew)); exact HO0.out⟩, ⟨by (with_reducible repeat (first | apply Kd.V_alloc | apply Kd.V_drewN | apply Kd.V_drew)); exact HO0.out⟩, ⟨bel⟩⟩
  case round =>
   clear H'
   try clear p2
   try clear c4
   try clear c4b0
   try clear c4b1
   obtain ⟨x16_1, rfl, HA, HK1, HO_0, HO_14, HB⟩ := hrel
   cases gk with
   | zero => exact absurd HA.out (by simp [feed_choose.l0])
   | succ k1 =>
    have H := HA.out
    clear HA
    simp only [feed_choose.l0] at H
    by_cases c5 : x16_1 < (l0.length : Int)
    ·
     rw [if_pos c5] at H
     have c5b0 : decide (x16_1 < (l0.length : Int)) = true := decide_eq_true c5
     clear c5
     by_cases c6 : 0 ≤ x16_1
     ·
      rw [if_pos c6] at H
      have c6b0 : decide (0 ≤ x16_1) = true := decide_eq_true c6
      clear c6
      by_cases c7 : x16_1 < (l0.length : Int)
      ·
       rw [if_pos c7] at H
       have c7b0 : decide (x16_1 < (l0.length : Int)) = true := decide_eq_true c7
       clear c7
       by_cases c8 : (Go.bits .and .i64 ((rd_T114 l0 x16_1).f0) a2) = 0
       ·
        rw [if_pos c8] at H
        have c8b0 : ((Go.bits .and .i64 ((rd_T114 l0 x16_1).f0) a2) == 0) = true := beq_iff_eq.mpr c8
        have c8b1 : ((Go.bits .and .i64 ((rd_T114 l0 x16_1).f0) a2) != 0) = false := bne_eq_false_iff_eq.mpr c8
        clear c8
        obtain ⟨ji9, hji9⟩ : ∃ j_ : Int, (wrap64 (x16_1 + 1)) = j_ := ⟨_, rfl⟩
        replace H : (if 0 ≤ (ji9) then (if (ji9) ≤ (l0.length : Int) then ((feed_choose.f k1 (l0.drop ((ji9) : Int).toNat) (wrap64 (a1 - 1)) (Go.bits .or .i64 a2 ((rd_T114 l0 x16_1).f0))).bind fun bt682 => (if bt682.2 = true then ((some (([(rd_T114 l0 x16_1).f1] : List (List Int)) : List (List Int))).bind fun y686 => (if y686.length + bt682.1.length < 5864062014805 then (some ((y686 ++ bt682.1), true)) else (none))) else (feed_choose.l0 k1 l0 a1 a2 l0 (l0.length : Int) ji9))) else (none)) else (none)) = some (r1, r2) := by first | (rw [hji9] at H; exact H) | (simp only [hji9] at H ⊢; exact H)
        have hji9w : (IntKind.i64.wrap (x16_1 + 1)) = ji9 := (i64_w _).trans hji9
        by_cases c10 : 0 ≤ (ji9)
        ·
         rw [if_pos c10] at H
         have c10b0 := eq_true c10
         have c10b1 : decide (0 ≤ (ji9)) = true := decide_eq_true c10
         clear c10
         by_cases c11 : (ji9) ≤ (l0.length : Int)
         ·
          rw [if_pos c11] at H
          have c11b0 := eq_true c11
          have c11b1 : decide ((ji9) ≤ (l0.length : Int)) = true := decide_eq_true c11
          clear c11
          obtain ⟨y677, hy677⟩ : ∃ y_ : List (S114), y_ = (l0.drop ((ji9) : Int).toNat) := ⟨_, rfl⟩
          replace H : ((feed_choose.f k1 y677 (wrap64 (a1 - 1)) (Go.bits .or .i64 a2 ((rd_T114 l0 x16_1).f0))).bind fun bt682 => (if bt682.2 = true then ((some (([(rd_T114 l0 x16_1).f1] : List (List Int)) : List (List Int))).bind fun y686 => (if y686.length + bt682.1.length < 5864062014805 then (some ((y686 ++ bt682.1), true)) else (none))) else (feed_choose.l0 k1 l0 a1 a2 l0 (l0.length : Int) ji9))) = some (r1, r2) := by first | (rw [hy677]; with_reducible exact H) | (have H2_ := (Option.bind_some _ _).symm.trans H; rw [hy677]; with_reducible exact H2_) | (have H2_ := (Option.bind_some _ _).symm.trans H; with_reducible exact H2_) | with_reducible exact H | (rw [hy677]; exact H) | exact H
          have Ny677 := Aside0.mk hy677
          clear hy677
          replace H := Option.bind_eq_some_iff.mp H
          obtain ⟨⟨t682, t685⟩, A120, H⟩ := H
          replace H : (if t685 = true then ((some (([(rd_T114 l0 x16_1).f1] : List (List Int)) : List (List Int))).bind fun y686 => (if y686.length + t682.length < 5864062014805 then (some ((y686 ++ t682), true)) else (none))) else (feed_choose.l0 k1 l0 a1 a2 l0 (l0.length : Int) ji9)) = some (r1, r2) := H
          have A12 := Aside0.mk A120
          clear A120
          by_cases c13 : t685 = true
          ·
           subst c13
           have H1 : ((some (([(rd_T114 l0 x16_1).f1] : List (List Int)) : List (List Int))).bind fun y686 => (if y686.length + t682.length < 5864062014805 then (some ((y686 ++ t682), true)) else (none))) = some (r1, r2) := by rw [if_pos rfl] at H; exact H
           clear H
           have H := H1
           clear H1
           obtain ⟨y686, hy686⟩ : ∃ y_ : List (List Int), y_ = (([(rd_T114 l0 x16_1).f1] : List (List Int))) := ⟨_, rfl⟩
           replace H : (if y686.length + t682.length < 5864062014805 then (some ((y686 ++ t682), true)) else (none)) = some (r1, r2) := by first | (rw [hy686]; with_reducible exact H) | (have H2_ := (Option.bind_some _ _).symm.trans H; rw [hy686]; with_reducible exact H2_) | (have H2_ := (Option.bind_some _ _).symm.trans H; with_reducible exact H2_) | with_reducible exact H | (rw [hy686]; exact H) | exact H
           have Ny686 := Aside0.mk hy686
           clear hy686
           by_cases c14 : y686.length + t682.length < 5864062014805
           ·
            rw [if_pos c14] at H
            have LMc14 := Aside0.mk c14
            clear c14
            obtain ⟨y689, hy689⟩ : ∃ y_ : List (List Int), y_ = (y686 ++ t682) := ⟨_, rfl⟩
            replace H : (some (y689, true)) = some (r1, r2) := by first | (rw [hy689]; with_reducible exact H) | (have H2_ := (Option.bind_some _ _).symm.trans H; rw [hy689]; with_reducible exact H2_) | (have H2_ := (Option.bind_some _ _).symm.trans H; with_reducible exact H2_) | with_reducible exact H | (rw [hy689]; exact H) | exact H
            have Ny689 := Aside0.mk hy689
            clear hy689
            simp only [Option.some.injEq, Prod.mk.injEq] at H
            obtain ⟨rfl, rfl⟩ := H
            have p675 : 0 ≤ (x16_1 : Int) := of_decide_eq_true asz
            have q675 : x16_1 < (l0.length : Int) := of_decide_eq_true asz
            obtain ⟨ad675, A675_1, c675_1, e675, hx675_0, hx675_1, hl675_1, hi675_1⟩ := at_T114 (Kd.V_reads' HO_14.out).2.2 x16_1 p675 q675
            cases e675
            obtain ⟨ce675, hce675, hMe675, hcc675⟩ := Kd.V_get HO_14.out z114 x16_1 p675 (by first | exact q675 | exact of_decide_eq_true asz | (have e_ := (Kd.V_reads' HO_14.out).1; omega))
            obtain ⟨ua675_1, uc675_1, rfl, ul675_1, ge675_1⟩ := k114_openF hMe675
            have hv675_1 := hcc675 1 _ rfl
            rw [add_field _ _ 1 (by omega)] at hv675_1
            replace hv675_1 := Option.some.inj (hv675_1.symm.trans hx675_1)
            injection hv675_1 with hva_ hvn_ hvc_
            rw [hva_] at ge675_1
            rw [hvc_] at ul675_1
            have HL675_1 := Aside0.mk (show Kd.V (Kd.int .i64) 3 _ w.heap.size _ _ ((rd_T114 l0 x16_1).f1) from Kd.V_mk ul675_1 ge675_1)
            clear hva_ hvn_ hvc_ ge675_1 ul675_1
            clear hcc675 hce675
            have HR675_1 := Aside0.mk hi675_1
            have HC675_1 := Aside0.mk hl675_1
            clear hi675_1 hl675_1
            replace p675 := eq_true p675
            replace q675 := eq_true q675
            try go_wp2_with (first | ((with_reducible refine gate_dst (N := 9) rfl ?_); refine box_event ?hg (N := 9) ?hd (cs := #[.int .i64 0, .slice none 0 0]) (t := 114) ?hr ?_; (case hd => rfl); (case hg => rfl); (case hr => first | (go_simp; done) | (go_simp; rfl)); intro gb676 hg w15 hbox hb; have BK676 := Aside0.mk (hbox); have GW676 := bsz (w := w) hg; have GE676 := GW676; replace HO_0 := Aside0.mk (Kd.V_below (Kd.V_elderB (by (with_reducible repeat (first | apply Kd.V_alloc | apply Kd.V_drewN | apply Kd.V_drew)); exact HO_0.out) gb676 (Nat.le_of_eq hg.symm)) hb); replace HO_14 := Aside0.mk (Kd.V_below (Kd.V_elderB (by (with_reducible repeat (first | apply Kd.V_alloc | apply Kd.V_drewN | apply Kd.V_drew)); exact HO_14.out) gb676 (Nat.le_of_eq hg.symm)) hb); replace HL675_1 := Aside0.mk (Kd.V_below (Kd.V_elderB (by (with_reducible repeat (first | apply Kd.V_alloc | apply Kd.V_drewN | apply Kd.V_drew)); exact HL675_1.out) gb676 (Nat.le_of_eq hg.symm)) hb); replace HR675_1 := Aside0.mk (Kd.C_below (by repeat (first | (with_reducible exact HR675_1.out) | (with_reducible refine Kd.C_alloc ?_ _) | (with_reducible refine Kd.C_drewN ?_ _) | (with_reducible refine Kd.C_drew ?_) | exact HR675_1.out)) hb); replace HB := Aside0.mk (below_step bel hb); clear hb hbox hg; have hcz16_0 := blkc BK676.out 0 (.int .i64 0) rfl; have hcz16_1 := blkc BK676.out 1 (.slice none 0 0) rfl; have hfz16_0 := blk_frozen BK676.out 0; have hfz16_1 := blk_frozen BK676.out 1))
            have n0_ : Aside0 (Kd.V k114 114 ((w15.setCell ⟨gb676, 0, none⟩ (.int .i64 ((rd_T114 l0 x16_1).f0))).setCell ⟨gb676, 1, none⟩ (.slice A675_1 ((rd_T114 l0 x16_1).f1).length c675_1)) w.heap.size (fun k_ => (P0_ k_ ∨ w.heap.size ≤ k_) ∧ k_ ≠ gb676) (.slice (some ad675) l0.length c0) l0) := ⟨by (with_reducible repeat (first | apply Kd.V_alloc | apply Kd.V_drewN | apply Kd.V_drew)); exact Kd.V_mono (Kd.V_far (p := ⟨gb676, 1, none⟩) (Kd.V_far (p := ⟨gb676, 0, none⟩) (Kd.V_mono HO_0.out (fun k_ hk => (⟨hk, hk.2⟩ : _ ∧ k_ ≠ gb676))) (fun _ hk => hk.2) (.int .i64 ((rd_T114 l0 x16_1).f0))) (fun _ hk => hk.2) (.slice A675_1 ((rd_T114 l0 x16_1).f1).length c675_1)) (fun _ hk => ⟨hk.1.1, hk.1.2⟩)⟩
            have n1_ : Aside0 (Kd.V k114 114 ((w15.setCell ⟨gb676, 0, none⟩ (.int .i64 ((rd_T114 l0 x16_1).f0))).setCell ⟨gb676, 1, none⟩ (.slice A675_1 ((rd_T114 l0 x16_1).f1).length c675_1)) w.heap.size (fun k_ => (P0_ k_ ∨ w.heap.size ≤ k_) ∧ k_ ≠ gb676) (.slice (some ad675) l0.length c0) l0) := ⟨by (with_reducible repeat (first | apply Kd.V_alloc | apply Kd.V_drewN | apply Kd.V_drew)); exact Kd.V_mono (Kd.V_far (p := ⟨gb676, 1, none⟩) (Kd.V_far (p := ⟨gb676, 0, none⟩) (Kd.V_mono HO_14.out (fun k_ hk => (⟨hk, hk.2⟩ : _ ∧ k_ ≠ gb676))) (fun _ hk => hk.2) (.int .i64 ((rd_T114 l0 x16_1).f0))) (fun _ hk => hk.2) (.slice A675_1 ((rd_T114 l0 x16_1).f1).length c675_1)) (fun _ hk => ⟨hk.1.1, hk.1.2⟩)⟩
            have n2_ : Aside0 (Kd.V (Kd.int .i64) 3 ((w15.setCell ⟨gb676, 0, none⟩ (.int .i64 ((rd_T114 l0 x16_1).f0))).setCell ⟨gb676, 1, none⟩ (.slice A675_1 ((rd_T114 l0 x16_1).f1).length c675_1)) w.heap.size (fun k_ => (P0_ k_ ∨ w.heap.size ≤ k_) ∧ k_ ≠ gb676) (.slice A675_1 ((rd_T114 l0 x16_1).f1).length c675_1) ((rd_T114 l0 x16_1).f1)) := ⟨by (with_reducible repeat (first | apply Kd.V_alloc | apply Kd.V_drewN | apply Kd.V_drew)); exact Kd.V_mono (Kd.V_far (p := ⟨gb676, 1, none⟩) (Kd.V_far (p := ⟨gb676, 0, none⟩) (Kd.V_mono HL675_1.out (fun k_ hk => (⟨hk, hk.2⟩ : _ ∧ k_ ≠ gb676))) (fun _ hk => hk.2) (.int .i64 ((rd_T114 l0 x16_1).f0))) (fun _ hk => hk.2) (.slice A675_1 ((rd_T114 l0 x16_1).f1).length c675_1)) (fun _ hk => ⟨hk.1.1, hk.1.2⟩)⟩
            have n3_ : Aside0 (((w15.setCell ⟨gb676, 0, none⟩ (.int .i64 ((rd_T114 l0 x16_1).f0))).setCell ⟨gb676, 1, none⟩ (.slice A675_1 ((rd_T114 l0 x16_1).f1).length c675_1)).heap[gb676]? = some (.cells #[.int .i64 ((rd_T114 l0 x16_1).f0), .slice A675_1 ((rd_T114 l0 x16_1).f1).length c675_1] 114 (0, 0))) := ⟨by (with_reducible repeat (first | refine blk_drewN ?_ _ | refine blk_drew ?_ | refine blk_alloc ?_ _)); refine blk_put (cs := #[.int .i64 ((rd_T114 l0 x16_1).f0), .slice none 0 0]) ?_ 1 _ rfl; (with_reducible repeat (first | refine blk_drewN ?_ _ | refine blk_drew ?_ | refine blk_alloc ?_ _)); refine blk_put (cs := #[.int .i64 0, .slice none 0 0]) ?_ 0 _ rfl; (with_reducible repeat (first | refine blk_drewN ?_ _ | refine blk_drew ?_ | refine blk_alloc ?_ _)); exact BK676.out⟩
            have n4_ : Aside0 (Below w.heap.size w ((w15.setCell ⟨gb676, 0, none⟩ (.int .i64 ((rd_T114 l0 x16_1).f0))).setCell ⟨gb676, 1, none⟩ (.slice A675_1 ((rd_T114 l0 x16_1).f1).length c675_1))) := ⟨bel⟩
            (try clear HO_0)
            (try clear HO_14)
            (try clear HL675_1)
            (try clear BK676)
            (try clear HB)
            generalize ((w15.setCell ⟨gb676, 0, none⟩ (.int .i64 ((rd_T114 l0 x16_1).f0))).setCell ⟨gb676, 1, none⟩ (.slice A675_1 ((rd_T114 l0 x16_1).f1).length c675_1)) = w17 at n0_ n1_ n2_ n3_ n4_ ⊢
            have HO_0 := n0_
            have HO_14 := n1_
            have HL675_1 := n2_
            have BK676 := n3_
            have HB := n4_
            clear n0_ n1_ n2_ n3_ n4_
            have n0_ := Aside0.mk (Kd.V_drew HO_0.out)
            have n1_ := Aside0.mk (Kd.V_drew HO_14.out)
            have n2_ := Aside0.mk (Kd.V_drew HL675_1.out)
            have n3_ := Aside0.mk (blk_drew BK676.out)
            have n4_ := Aside0.mk (below_drew1 HB.out)
            clear HO_0
            clear HO_14
            clear HL675_1
            clear BK676
            clear HB
            have HO_0 := n0_
            have HO_14 := n1_
            have HL675_1 := n2_
            have BK676 := n3_
            have HB := n4_
            clear n0_ n1_ n2_ n3_ n4_
            have q19 : ((ji9) : Int) ≤ ((l0.length : Int) : Int) := of_decide_eq_true asz
            obtain ⟨i019, hi019, _, hsz19, _⟩ := info_parts info114
            have hroom19 : l0.length ≤ c0 := (Kd.V_reads' HO_0.out).2.1
            have hC19 : Kd.F k114 _ _ (some ad675) l0.length l0 := (Kd.V_at (base := w.heap.size) HO_0.out).2.2
            have q019 : (0 : Int) ≤ ((ji9) : Int) := of_decide_eq_true asz
            have hcut19 := cut_from (P := Tryd.prog) 111 114 .i64 Tryd.underlying111 hi019 2 hsz19 (some ad675) l0.length c0 (ji9) q019 q19
            have hr19 := Kd.F_cut (m := ((ji9) : Int).toNat) (c := c0) hC19 (by omega) hroom19
            obtain ⟨A19, hA19⟩ : ∃ A1, A1 = (if c0 = ((ji9) : Int).toNat then (some ad675) else ((some ad675) : Option Addr).map (·.add (((ji9) : Int).toNat * 2))) := ⟨_, rfl⟩
            obtain ⟨c19, hc19⟩ : ∃ c1, c1 = c0 - ((ji9) : Int).toNat := ⟨_, rfl⟩
            have hy19 : y677.length = l0.length - ((ji9) : Int).toNat := (by rw [Ny677.out, List.length_drop] <;> omega)
            rw [show (l0).drop ((ji9) : Int).toNat = y677 from Ny677.out.symm] at hr19
            replace hr19 : Kd.F k114 _ _ A19 y677.length y677 := (by rw [hA19]; exact hr19)
            rw [← hy19, ← hA19, ← hc19] at hcut19
            have HO681 := Aside0.mk (show Kd.V k114 114 _ w.heap.size _ (.slice A19 y677.length c19) y677 from Kd.V_mk (by rw [hy19, hc19]; exact Nat.sub_le_sub_right hroom19 _) hr19)
            have HC681 := Aside0.mk (show y677.length ≤ c19 from by rw [hy19, hc19]; exact Nat.sub_le_sub_right hroom19 _)
            clear hr19 hC19 hroom19 hi019 hsz19 hc19
            have KY19 := Aside0.mk hy19
            have KA19 := Aside0.mk hA19
            clear hy19 hA19
            replace q19 := eq_true q19
            refine start_ (n := 16) (S := fun w' => w'.cell? ⟨gb676, 0, none⟩ = some (.int .i64 ((rd_T114 l0 x16_1).f0)) ∧ w'.cell? ⟨gb676, 1, none⟩ = some (.slice A675_1 ((rd_T114 l0 x16_1).f1).length c675_1)) (ds := []) #[false, false, false, false, false, false, false, false, false, false, false, false, false, false, false, false] (by kernel_rfl) rfl rfl ⟨(blk_cell BK676.out 0).trans rfl, (blk_cell BK676.out 1).trans rfl⟩ (fun hHeld => ?_); refine with_tabW feed_choose.tab7 feed_choose.bits7 (fun HT_ HW_ => ?_)
            generalize w17.drew = w18 at HO_0 HO_14 HL675_1 BK676 HB HO681 hHeld ⊢
            refine pst (i := 0) (N := some 27) (bz 16 1) (any_of HT_.out (by kernel_rfl)) ?_
            refine pst (i := 1) (N := some 28) (bz 16 3) (any_of HT_.out (by kernel_rfl)) ?_
            refine pst (i := 2) (N := some 29) (bz 16 7) (any_of HT_.out (by kernel_rfl)) ?_
            refine pst (i := 3) (N := some 30) (bz 16 15) (any_of HT_.out (by kernel_rfl)) ?_
            refine pst (i := 4) (N := some 31) (bz 16 31) (any_of HT_.out (by kernel_rfl)) ?_
            refine pst (i := 5) (N := some 32) (bz 16 63) (any_of HT_.out (by kernel_rfl)) ?_
            refine pst (i := 6) (N := some 33) (bz 16 127) (any_of HT_.out (by kernel_rfl)) ?_
            refine pst (i := 7) (N := some 34) (bz 16 255) (any_of HT_.out (by kernel_rfl)) ?_
            refine tst2 (i := 8) (N := some 35) (bz 16 511) (take_ofW HT_.out HW_.out (by kernel_rfl)) hHeld ?_
            refine pst (i := 9) (N := some 36) (bz 16 1023) (any_of HT_.out (by kernel_rfl)) ?_
            refine one_ (i := 10) (N := some 37) #[true, true, true, true, true, true, true, true, true, true, true, false, false, false, false, false] rfl rfl (one_of HT_.out (by kernel_rfl)) (by decide) (fun K hK => ?_)
            refine goes_ Tryd.func81 (by kernel_rfl) rfl #[.slice A19 y677.length c19, .int .i64 (wrap64 (a1 - 1)), .int .i64 (Go.bits .or .i64 a2 ((rd_T114 l0 x16_1).f0))] (by rfl) rfl rfl mapz ?_
            with_reducible refine (ih k1 (by have := HK1.out; omega) (fun k_ => ((P0_ k_ ∨ w.heap.size ≤ k_) ∧ k_ ≠ gb676)) _ _ y677 (wrap64 (a1 - 1)) (Go.bits .or .i64 a2 ((rd_T114 l0 x16_1).f0)) t682 true _ ?side1 A12.out).mono ?_
            (case side1 => exact HO681.out)
            rintro e w20 ⟨v683, rfl, ho0, hb⟩
            refine ⟨_, rfl, ?_⟩
            have n0_ := Aside0.mk (Kd.V_elder' (by (with_reducible repeat (first | apply Kd.V_alloc | apply Kd.V_drewN | apply Kd.V_drew)); exact HO_0.out) (Kd.N_base ho0) hb)
            have n1_ := Aside0.mk (Kd.V_elder' (by (with_reducible repeat (first | apply Kd.V_alloc | apply Kd.V_drewN | apply Kd.V_drew)); exact HO_14.out) (Kd.N_base ho0) hb)
            have n2_ := Aside0.mk (Kd.V_elder' (by (with_reducible repeat (first | apply Kd.V_alloc | apply Kd.V_drewN | apply Kd.V_drew)); exact HL675_1.out) (Kd.N_base ho0) hb)
            have n3_ := Aside0.mk (Kd.V_elder' (by (with_reducible repeat (first | apply Kd.V_alloc | apply Kd.V_drewN | apply Kd.V_drew)); exact HO681.out) (Kd.N_base ho0) hb)
            have n4_ := Aside0.mk (Kd.N_lower (Kd.N_mono (ok' := fun k_ => (P0_ k_ ∨ w.heap.size ≤ k_) ∧ k_ ≠ gb676) ho0 (fun k_ hk_ => ⟨Or.elim hk_ (fun hs_ => hs_.1) (fun hn_ => (.inr (Nat.le_trans (below_size bel) hn_))), Or.elim hk_ (fun hs_ => hs_.2) (fun hn_ => (Kd.freshB (g := gb676) (o := .cells #[.int .i64 ((rd_T114 l0 x16_1).f0), .slice A675_1 ((rd_T114 l0 x16_1).f1).length c675_1] 114 (0, 0)) blkz k_ hn_))⟩)) (below_size bel))
            have n5_ := Aside0.mk (blk_below (g := gb676) blkz hb)
            have n6_ := Aside0.mk (below_step bel hb)
            clear HO_0
            clear HO_14
            clear HL675_1
            clear HO681
            clear BK676
            clear HB
            have HO_0 := n0_
            have HO_14 := n1_
            have HL675_1 := n2_
            have HO681 := n3_
            have HO684 := n4_
            have BK676 := n5_
            have HB := n6_
            clear n0_ n1_ n2_ n3_ n4_ n5_ n6_
            (try clear hb)
            (try clear hb2)
            (try clear hk)
            (try clear hi)
            (try clear ho0)
            refine hK.out _ _ ⟨(blk_cell BK676.out 0).trans rfl, (blk_cell BK676.out 1).trans rfl⟩ (fun hHeld => ?_)
            clear hK K
            refine norm_ (a' := ?_) ?_ ?_
            rotate_left
            ·
             show Act.put _ (some 37) _ = _
             simp only [Act.put, List.setIfInBounds_toArray, List.set_cons_zero, List.set_cons_succ, i64_w, i32_w]
             rfl
            refine pst (i := 11) (N := some 26) (bz 16 4095) (any_of HT_.out (by kernel_rfl)) ?_
            refine pst (i := 12) (N := some 38) (bz 16 8191) (any_of HT_.out (by kernel_rfl)) ?_
            refine pst (i := 13) (N := some 39) (bz 16 16383) (any_of HT_.out (by kernel_rfl)) ?_
            refine pst (i := 14) (N := some 10) (bz 16 32767) (any_of HT_.out (by kernel_rfl)) ?_
            refine pst (i := 15) (N := some 11) (bz 16 65535) (any_of HT_.out (by kernel_rfl)) ?_
            refine done_ (done_of HT_.out (by kernel_rfl)) ?_
            have hcz21_0 := blkc BK676.out 0 (.int .i64 ((rd_T114 l0 x16_1).f0)) rfl
            have hcz21_1 := blkc BK676.out 1 (.slice A675_1 ((rd_T114 l0 x16_1).f1).length c675_1) rfl
            have hfz21_0 := blk_frozen BK676.out 0
            have hfz21_1 := blk_frozen BK676.out 1
            try go_wp2_with (first | ((with_reducible refine gate_dst (N := 43) rfl ?_); refine Kd.N_lit (Kd.slice 3 (Kd.int .i64)) _ 28 ?hg (N' := 43) ?hd (xs := ([(rd_T114 l0 x16_1).f1] : List (List Int))) (inner := [.slice A675_1 ((rd_T114 l0 x16_1).f1).length c675_1]) (ok := (fun k_ => (P0_ k_ ∨ w.heap.size ≤ k_) ∧ some k_ ≠ (v683 : Value).ownBlock ∧ k_ ≠ gb676)) (okp := (fun k_ => (P0_ k_ ∨ w.heap.size ≤ k_) ∧ some k_ ≠ (v683 : Value).ownBlock ∧ k_ ≠ gb676)) ?hr ?hp (fun _ hk => hk) ((show ∀ k_, w20.heap.size ≤ k_ → (fun k_ => (P0_ k_ ∨ w.heap.size ≤ k_) ∧ some k_ ≠ (v683 : Value).ownBlock ∧ k_ ≠ gb676) k_ from fun k_ hk => ⟨(.inr (Nat.le_trans (below_size bel) hk)), Kd.fresh' (Kd.N_lt (by (with_reducible repeat (first | apply Kd.N_alloc | apply Kd.N_drewN | apply Kd.N_drew)); exact HO684.out)) k_ hk, Kd.freshB (g := gb676) (o := .cells #[.int .i64 ((rd_T114 l0 x16_1).f0), .slice A675_1 ((rd_T114 l0 x16_1).f1).length c675_1] 114 (0, 0)) blkz k_ hk⟩) _ (Nat.le_refl _)) (Below.refl _ _) (Nat.le_refl _) (by simp) ?_; (case hd => rfl); (case hg => rfl); (case hr => first | (go_simp; done) | (go_simp; rfl)); (case hp => exact (Reps.one (show Kd.FK (Kd.slice 3 (Kd.int .i64)) _ _ ((rd_T114 l0 x16_1).f1) [.slice A675_1 ((rd_T114 l0 x16_1).f1).length c675_1] from (Kd.FK_slice_mk (Kd.V_reads' (Kd.V_mono (ok' := (fun k_ => (P0_ k_ ∨ w.heap.size ≤ k_) ∧ some k_ ≠ (v683 : Value).ownBlock ∧ k_ ≠ gb676)) (HL675_1.out) (fun k_ hk => ⟨hk.1.1, ⟨hk.2, hk.1.2⟩⟩))).2.1 (Kd.V_F (Kd.V_mono (ok' := (fun k_ => (P0_ k_ ∨ w.heap.size ≤ k_) ∧ some k_ ≠ (v683 : Value).ownBlock ∧ k_ ≠ gb676)) (HL675_1.out) (fun k_ hk => ⟨hk.1.1, ⟨hk.2, hk.1.2⟩⟩))))) (Reps.none _ _))); intro v687 w22 ho23 hb hg_ hnew_; clear hg_ hnew_; (first | rw [← Ny686.out] at ho23 | (simp only [Int.reduceToNat] at ho23; rw [← Ny686.out] at ho23)); have HO688 := Aside0.mk (Kd.N_lower ho23 (below_size bel)); replace HO_0 := Aside0.mk (Kd.V_elder' (by (with_reducible repeat (first | apply Kd.V_alloc | apply Kd.V_drewN | apply Kd.V_drew)); exact HO_0.out) (Kd.N_base ho23) hb); replace HO_14 := Aside0.mk (Kd.V_elder' (by (with_reducible repeat (first | apply Kd.V_alloc | apply Kd.V_drewN | apply Kd.V_drew)); exact HO_14.out) (Kd.N_base ho23) hb); replace HL675_1 := Aside0.mk (Kd.V_elder' (by (with_reducible repeat (first | apply Kd.V_alloc | apply Kd.V_drewN | apply Kd.V_drew)); exact HL675_1.out) (Kd.N_base ho23) hb); replace HO681 := Aside0.mk (Kd.V_elder' (by (with_reducible repeat (first | apply Kd.V_alloc | apply Kd.V_drewN | apply Kd.V_drew)); exact HO681.out) (Kd.N_base ho23) hb); replace HO684 := Aside0.mk (Kd.N_elder' (by (with_reducible repeat (first | apply Kd.N_alloc | apply Kd.N_drewN | apply Kd.N_drew)); exact HO684.out) (Kd.N_base ho23) hb); replace BK676 := Aside0.mk (blk_below (g := gb676) blkz hb); replace HB := Aside0.mk (below_step bel hb); clear hb ho23; obtain ⟨Ao25, co25, eo25⟩ := Kd.N_slice HO684.out; subst eo25) | ((with_reducible refine gate_builtin (b := .append) (xs := #[.tmp 43, .tmp 44]) rfl ?_); at_builtin; refine Kd.N_append_rows (Kd.slice 3 (Kd.int .i64)) (w0 := w) w.heap.size rfl (.tmp 43) (.tmp 44) 60 28 (.slice none 0 0) 24 rfl Tryd.underlying60 info28 rfl (by decide) (by omega) v687 y686 t682 _ _ _ (fun k_ => (P0_ k_ ∨ w.heap.size ≤ k_) ∧ k_ ≠ gb676) (fun k_ => ((fun k_ => (P0_ k_ ∨ w.heap.size ≤ k_) ∧ k_ ≠ gb676)) k_ ∧ some k_ ≠ (v687 : Value).ownBlock) rfl rfl ?aO ?aR (fun _ hk => hk) ?aF ?aB ?aS ?aL ?_; (case aR => exact (by skip; exact Kd.N_F (Kd.N_mono (ok' := (fun k_ => ((fun k_ => (P0_ k_ ∨ w.heap.size ≤ k_) ∧ k_ ≠ gb676)) k_ ∧ some k_ ≠ (v687 : Value).ownBlock)) (HO684.out) (fun k_ hk => ⟨⟨hk.1.1, hk.1.2⟩, hk.2⟩)))); (case aB => exact bel); (case aF => exact (fun k_ hk => ⟨(.inr (Nat.le_trans (below_size bel) hk)), Kd.freshB (g := gb676) (o := .cells #[.int .i64 ((rd_T114 l0 x16_1).f0), .slice A675_1 ((rd_T114 l0 x16_1).f1).length c675_1] 114 (0, 0)) blkz k_ hk⟩)); (case aO => exact (by (with_reducible repeat (first | apply Kd.N_alloc | apply Kd.N_drewN | apply Kd.N_drew)); exact Kd.N_mono HO688.out (fun _ hk => ⟨hk.1, hk.2.2⟩))); (case aS => exact (below_size bel)); (case aL => have := LMc14.out; omega); intro v690 w24 ho hb hg hat; rw [← Ny689.out] at ho; have n0_ := Aside0.mk (Kd.V_afterv (ok := (fun k_ => (P0_ k_ ∨ w.heap.size ≤ k_) ∧ some k_ ≠ (.slice Ao25 t682.length co25 : Value).ownBlock ∧ k_ ≠ gb676)) (by (with_reducible repeat (first | apply Kd.V_alloc | apply Kd.V_drewN | apply Kd.V_drew)); exact Kd.V_mono HO_0.out (fun _ hk => ⟨⟨hk.1.1.1, ⟨hk.1.2, hk.1.1.2⟩⟩, hk.2⟩)) hg hat); have n1_ := Aside0.mk (Kd.V_afterv (ok := (fun k_ => (P0_ k_ ∨ w.heap.size ≤ k_) ∧ some k_ ≠ (.slice Ao25 t682.length co25 : Value).ownBlock ∧ k_ ≠ gb676)) (by (with_reducible repeat (first | apply Kd.V_alloc | apply Kd.V_drewN | apply Kd.V_drew)); exact Kd.V_mono HO_14.out (fun _ hk => ⟨⟨hk.1.1.1, ⟨hk.1.2, hk.1.1.2⟩⟩, hk.2⟩)) hg hat); have n2_ := Aside0.mk (Kd.V_afterv (ok := (fun k_ => (P0_ k_ ∨ w.heap.size ≤ k_) ∧ some k_ ≠ (.slice Ao25 t682.length co25 : Value).ownBlock ∧ k_ ≠ gb676)) (by (with_reducible repeat (first | apply Kd.V_alloc | apply Kd.V_drewN | apply Kd.V_drew)); exact Kd.V_mono HL675_1.out (fun _ hk => ⟨⟨hk.1.1.1, ⟨hk.1.2, hk.1.1.2⟩⟩, hk.2⟩)) hg hat); have n3_ := Aside0.mk (blk_grown (g := gb676) (o := .cells #[.int .i64 ((rd_T114 l0 x16_1).f0), .slice A675_1 ((rd_T114 l0 x16_1).f1).length c675_1] 114 (0, 0)) blkz hg (Kd.N_ne HO688.out BK676.out (by decide))); have n4_ := Aside0.mk (Kd.V_afterv (ok := (fun k_ => (P0_ k_ ∨ w.heap.size ≤ k_) ∧ some k_ ≠ (.slice Ao25 t682.length co25 : Value).ownBlock ∧ k_ ≠ gb676)) (by (with_reducible repeat (first | apply Kd.V_alloc | apply Kd.V_drewN | apply Kd.V_drew)); exact Kd.V_mono HO681.out (fun _ hk => ⟨⟨hk.1.1.1, ⟨hk.1.2, hk.1.1.2⟩⟩, hk.2⟩)) hg hat); have n5_ := Aside0.mk (Kd.N_afterv (ok := (fun k_ => (P0_ k_ ∨ w.heap.size ≤ k_) ∧ k_ ≠ gb676)) (by (with_reducible repeat (first | apply Kd.N_alloc | apply Kd.N_drewN | apply Kd.N_drew)); exact HO684.out) hg hat); have n6_ := Aside0.mk (hb); have n7_ := Aside0.mk (ho); clear HO_0; clear HO_14; clear HL675_1; clear BK676; clear HO681; clear HO684; clear HB; clear HO688; have HO_0 := n0_; have HO_14 := n1_; have HL675_1 := n2_; have BK676 := n3_; have HO681 := n4_; have HO684 := n5_; have HB := n6_; have HO691 := n7_; clear n0_ n1_ n2_ n3_ n4_ n5_ n6_ n7_; clear ho hb hg hat))
            go_ret2
            exact ⟨_, by first | rfl | (simp [errW_none, errW_some] <;> rfl) | (simp only [← hji9]; first | rfl | (simp [errW_none, errW_some] <;> rfl)) | (simp [*, errW_none, errW_some] <;> rfl), by (with_reducible repeat (first | apply Kd.N_alloc | apply Kd.N_drewN | apply Kd.N_drew)); exact Kd.N_mono HO691.out (fun _ hk => hk.1), bel⟩
           ·
            rw [if_neg c14] at H
            exact absurd H (by simp)
          ·
           replace c13 := Bool.eq_false_iff.mpr c13
           subst c13
           have H1 : (feed_choose.l0 k1 l0 a1 a2 l0 (l0.length : Int) ji9) = some (r1, r2) := by rw [if_neg (show ¬ (false = true) by decide)] at H; exact H
           clear H
           have H := H1
           clear H1
           have H' := Aside0.mk H
           clear H
           have p675 : 0 ≤ (x16_1 : Int) := of_decide_eq_true asz
           have q675 : x16_1 < (l0.length : Int) := of_decide_eq_true asz
           obtain ⟨ad675, A675_1, c675_1, e675, hx675_0, hx675_1, hl675_1, hi675_1⟩ := at_T114 (Kd.V_reads' HO_14.out).2.2 x16_1 p675 q675
           cases e675
           obtain ⟨ce675, hce675, hMe675, hcc675⟩ := Kd.V_get HO_14.out z114 x16_1 p675 (by first | exact q675 | exact of_decide_eq_true asz | (have e_ := (Kd.V_reads' HO_14.out).1; omega))
           obtain ⟨ua675_1, uc675_1, rfl, ul675_1, ge675_1⟩ := k114_openF hMe675
           have hv675_1 := hcc675 1 _ rfl
           rw [add_field _ _ 1 (by omega)] at hv675_1
           replace hv675_1 := Option.some.inj (hv675_1.symm.trans hx675_1)
           injection hv675_1 with hva_ hvn_ hvc_
           rw [hva_] at ge675_1
           rw [hvc_] at ul675_1
           have HL675_1 := Aside0.mk (show Kd.V (Kd.int .i64) 3 _ w.heap.size _ _ ((rd_T114 l0 x16_1).f1) from Kd.V_mk ul675_1 ge675_1)
           clear hva_ hvn_ hvc_ ge675_1 ul675_1
           clear hcc675 hce675
           have HR675_1 := Aside0.mk hi675_1
           have HC675_1 := Aside0.mk hl675_1
           clear hi675_1 hl675_1
           replace p675 := eq_true p675
           replace q675 := eq_true q675
           try go_wp2_with (first | ((with_reducible refine gate_dst (N := 9) rfl ?_); refine box_event ?hg (N := 9) ?hd (cs := #[.int .i64 0, .slice none 0 0]) (t := 114) ?hr ?_; (case hd => rfl); (case hg => rfl); (case hr => first | (go_simp; done) | (go_simp; rfl)); intro gb676 hg w26 hbox hb; have BK676 := Aside0.mk (hbox); have GW676 := bsz (w := w) hg; have GE676 := GW676; replace HO_0 := Aside0.mk (Kd.V_below (Kd.V_elderB (by (with_reducible repeat (first | apply Kd.V_alloc | apply Kd.V_drewN | apply Kd.V_drew)); exact HO_0.out) gb676 (Nat.le_of_eq hg.symm)) hb); replace HO_14 := Aside0.mk (Kd.V_below (Kd.V_elderB (by (with_reducible repeat (first | apply Kd.V_alloc | apply Kd.V_drewN | apply Kd.V_drew)); exact HO_14.out) gb676 (Nat.le_of_eq hg.symm)) hb); replace HL675_1 := Aside0.mk (Kd.V_below (Kd.V_elderB (by (with_reducible repeat (first | apply Kd.V_alloc | apply Kd.V_drewN | apply Kd.V_drew)); exact HL675_1.out) gb676 (Nat.le_of_eq hg.symm)) hb); replace HR675_1 := Aside0.mk (Kd.C_below (by repeat (first | (with_reducible exact HR675_1.out) | (with_reducible refine Kd.C_alloc ?_ _) | (with_reducible refine Kd.C_drewN ?_ _) | (with_reducible refine Kd.C_drew ?_) | exact HR675_1.out)) hb); replace HB := Aside0.mk (below_step bel hb); clear hb hbox hg; have hcz27_0 := blkc BK676.out 0 (.int .i64 0) rfl; have hcz27_1 := blkc BK676.out 1 (.slice none 0 0) rfl; have hfz27_0 := blk_frozen BK676.out 0; have hfz27_1 := blk_frozen BK676.out 1))
           have n0_ : Aside0 (Kd.V k114 114 ((w26.setCell ⟨gb676, 0, none⟩ (.int .i64 ((rd_T114 l0 x16_1).f0))).setCell ⟨gb676, 1, none⟩ (.slice A675_1 ((rd_T114 l0 x16_1).f1).length c675_1)) w.heap.size (fun k_ => (P0_ k_ ∨ w.heap.size ≤ k_) ∧ k_ ≠ gb676) (.slice (some ad675) l0.length c0) l0) := ⟨by (with_reducible repeat (first | apply Kd.V_alloc | apply Kd.V_drewN | apply Kd.V_drew)); exact Kd.V_mono (Kd.V_far (p := ⟨gb676, 1, none⟩) (Kd.V_far (p := ⟨gb676, 0, none⟩) (Kd.V_mono HO_0.out (fun k_ hk => (⟨hk, hk.2⟩ : _ ∧ k_ ≠ gb676))) (fun _ hk => hk.2) (.int .i64 ((rd_T114 l0 x16_1).f0))) (fun _ hk => hk.2) (.slice A675_1 ((rd_T114 l0 x16_1).f1).length c675_1)) (fun _ hk => ⟨hk.1.1, hk.1.2⟩)⟩
           have n1_ : Aside0 (Kd.V k114 114 ((w26.setCell ⟨gb676, 0, none⟩ (.int .i64 ((rd_T114 l0 x16_1).f0))).setCell ⟨gb676, 1, none⟩ (.slice A675_1 ((rd_T114 l0 x16_1).f1).length c675_1)) w.heap.size (fun k_ => (P0_ k_ ∨ w.heap.size ≤ k_) ∧ k_ ≠ gb676) (.slice (some ad675) l0.length c0) l0) := ⟨by (with_reducible repeat (first | apply Kd.V_alloc | apply Kd.V_drewN | apply Kd.V_drew)); exact Kd.V_mono (Kd.V_far (p := ⟨gb676, 1, none⟩) (Kd.V_far (p := ⟨gb676, 0, none⟩) (Kd.V_mono HO_14.out (fun k_ hk => (⟨hk, hk.2⟩ : _ ∧ k_ ≠ gb676))) (fun _ hk => hk.2) (.int .i64 ((rd_T114 l0 x16_1).f0))) (fun _ hk => hk.2) (.slice A675_1 ((rd_T114 l0 x16_1).f1).length c675_1)) (fun _ hk => ⟨hk.1.1, hk.1.2⟩)⟩
           have n2_ : Aside0 (Kd.V (Kd.int .i64) 3 ((w26.setCell ⟨gb676, 0, none⟩ (.int .i64 ((rd_T114 l0 x16_1).f0))).setCell ⟨gb676, 1, none⟩ (.slice A675_1 ((rd_T114 l0 x16_1).f1).length c675_1)) w.heap.size (fun k_ => (P0_ k_ ∨ w.heap.size ≤ k_) ∧ k_ ≠ gb676) (.slice A675_1 ((rd_T114 l0 x16_1).f1).length c675_1) ((rd_T114 l0 x16_1).f1)) := ⟨by (with_reducible repeat (first | apply Kd.V_alloc | apply Kd.V_drewN | apply Kd.V_drew)); exact Kd.V_mono (Kd.V_far (p := ⟨gb676, 1, none⟩) (Kd.V_far (p := ⟨gb676, 0, none⟩) (Kd.V_mono HL675_1.out (fun k_ hk => (⟨hk, hk.2⟩ : _ ∧ k_ ≠ gb676))) (fun _ hk => hk.2) (.int .i64 ((rd_T114 l0 x16_1).f0))) (fun _ hk => hk.2) (.slice A675_1 ((rd_T114 l0 x16_1).f1).length c675_1)) (fun _ hk => ⟨hk.1.1, hk.1.2⟩)⟩
           have n3_ : Aside0 (((w26.setCell ⟨gb676, 0, none⟩ (.int .i64 ((rd_T114 l0 x16_1).f0))).setCell ⟨gb676, 1, none⟩ (.slice A675_1 ((rd_T114 l0 x16_1).f1).length c675_1)).heap[gb676]? = some (.cells #[.int .i64 ((rd_T114 l0 x16_1).f0), .slice A675_1 ((rd_T114 l0 x16_1).f1).length c675_1] 114 (0, 0))) := ⟨by (with_reducible repeat (first | refine blk_drewN ?_ _ | refine blk_drew ?_ | refine blk_alloc ?_ _)); refine blk_put (cs := #[.int .i64 ((rd_T114 l0 x16_1).f0), .slice none 0 0]) ?_ 1 _ rfl; (with_reducible repeat (first | refine blk_drewN ?_ _ | refine blk_drew ?_ | refine blk_alloc ?_ _)); refine blk_put (cs := #[.int .i64 0, .slice none 0 0]) ?_ 0 _ rfl; (with_reducible repeat (first | refine blk_drewN ?_ _ | refine blk_drew ?_ | refine blk_alloc ?_ _)); exact BK676.out⟩
           have n4_ : Aside0 (Below w.heap.size w ((w26.setCell ⟨gb676, 0, none⟩ (.int .i64 ((rd_T114 l0 x16_1).f0))).setCell ⟨gb676, 1, none⟩ (.slice A675_1 ((rd_T114 l0 x16_1).f1).length c675_1))) := ⟨bel⟩
           (try clear HO_0)
           (try clear HO_14)
           (try clear HL675_1)
           (try clear BK676)
           (try clear HB)
           generalize ((w26.setCell ⟨gb676, 0, none⟩ (.int .i64 ((rd_T114 l0 x16_1).f0))).setCell ⟨gb676, 1, none⟩ (.slice A675_1 ((rd_T114 l0 x16_1).f1).length c675_1)) = w28 at n0_ n1_ n2_ n3_ n4_ ⊢
           have HO_0 := n0_
           have HO_14 := n1_
           have HL675_1 := n2_
           have BK676 := n3_
           have HB := n4_
           clear n0_ n1_ n2_ n3_ n4_
           have n0_ := Aside0.mk (Kd.V_drew HO_0.out)
           have n1_ := Aside0.mk (Kd.V_drew HO_14.out)
           have n2_ := Aside0.mk (Kd.V_drew HL675_1.out)
           have n3_ := Aside0.mk (blk_drew BK676.out)
           have n4_ := Aside0.mk (below_drew1 HB.out)
           clear HO_0
           clear HO_14
           clear HL675_1
           clear BK676
           clear HB
           have HO_0 := n0_
           have HO_14 := n1_
           have HL675_1 := n2_
           have BK676 := n3_
           have HB := n4_
           clear n0_ n1_ n2_ n3_ n4_
           have q30 : ((ji9) : Int) ≤ ((l0.length : Int) : Int) := of_decide_eq_true asz
           obtain ⟨i030, hi030, _, hsz30, _⟩ := info_parts info114
           have hroom30 : l0.length ≤ c0 := (Kd.V_reads' HO_0.out).2.1
           have hC30 : Kd.F k114 _ _ (some ad675) l0.length l0 := (Kd.V_at (base := w.heap.size) HO_0.out).2.2
           have q030 : (0 : Int) ≤ ((ji9) : Int) := of_decide_eq_true asz
           have hcut30 := cut_from (P := Tryd.prog) 111 114 .i64 Tryd.underlying111 hi030 2 hsz30 (some ad675) l0.length c0 (ji9) q030 q30
           have hr30 := Kd.F_cut (m := ((ji9) : Int).toNat) (c := c0) hC30 (by omega) hroom30
           obtain ⟨A30, hA30⟩ : ∃ A1, A1 = (if c0 = ((ji9) : Int).toNat then (some ad675) else ((some ad675) : Option Addr).map (·.add (((ji9) : Int).toNat * 2))) := ⟨_, rfl⟩
           obtain ⟨c30, hc30⟩ : ∃ c1, c1 = c0 - ((ji9) : Int).toNat := ⟨_, rfl⟩
           have hy30 : y677.length = l0.length - ((ji9) : Int).toNat := (by rw [Ny677.out, List.length_drop] <;> omega)
           rw [show (l0).drop ((ji9) : Int).toNat = y677 from Ny677.out.symm] at hr30
           replace hr30 : Kd.F k114 _ _ A30 y677.length y677 := (by rw [hA30]; exact hr30)
           rw [← hy30, ← hA30, ← hc30] at hcut30
           have HO681 := Aside0.mk (show Kd.V k114 114 _ w.heap.size _ (.slice A30 y677.length c30) y677 from Kd.V_mk (by rw [hy30, hc30]; exact Nat.sub_le_sub_right hroom30 _) hr30)
           have HC681 := Aside0.mk (show y677.length ≤ c30 from by rw [hy30, hc30]; exact Nat.sub_le_sub_right hroom30 _)
           clear hr30 hC30 hroom30 hi030 hsz30 hc30
           have KY30 := Aside0.mk hy30
           have KA30 := Aside0.mk hA30
           clear hy30 hA30
           replace q30 := eq_true q30
           refine start_ (n := 16) (S := fun w' => w'.cell? ⟨gb676, 0, none⟩ = some (.int .i64 ((rd_T114 l0 x16_1).f0)) ∧ w'.cell? ⟨gb676, 1, none⟩ = some (.slice A675_1 ((rd_T114 l0 x16_1).f1).length c675_1)) (ds := []) #[false, false, false, false, false, false, false, false, false, false, false, false, false, false, false, false] (by kernel_rfl) rfl rfl ⟨(blk_cell BK676.out 0).trans rfl, (blk_cell BK676.out 1).trans rfl⟩ (fun hHeld => ?_); refine with_tabW feed_choose.tab7 feed_choose.bits7 (fun HT_ HW_ => ?_)
           generalize w28.drew = w29 at HO_0 HO_14 HL675_1 BK676 HB HO681 hHeld ⊢
           refine pst (i := 0) (N := some 27) (bz 16 1) (any_of HT_.out (by kernel_rfl)) ?_
           refine pst (i := 1) (N := some 28) (bz 16 3) (any_of HT_.out (by kernel_rfl)) ?_
           refine pst (i := 2) (N := some 29) (bz 16 7) (any_of HT_.out (by kernel_rfl)) ?_
           refine pst (i := 3) (N := some 30) (bz 16 15) (any_of HT_.out (by kernel_rfl)) ?_
           refine pst (i := 4) (N := some 31) (bz 16 31) (any_of HT_.out (by kernel_rfl)) ?_
           refine pst (i := 5) (N := some 32) (bz 16 63) (any_of HT_.out (by kernel_rfl)) ?_
           refine pst (i := 6) (N := some 33) (bz 16 127) (any_of HT_.out (by kernel_rfl)) ?_
           refine pst (i := 7) (N := some 34) (bz 16 255) (any_of HT_.out (by kernel_rfl)) ?_
           refine tst2 (i := 8) (N := some 35) (bz 16 511) (take_ofW HT_.out HW_.out (by kernel_rfl)) hHeld ?_
           refine pst (i := 9) (N := some 36) (bz 16 1023) (any_of HT_.out (by kernel_rfl)) ?_
           refine one_ (i := 10) (N := some 37) #[true, true, true, true, true, true, true, true, true, true, true, false, false, false, false, false] rfl rfl (one_of HT_.out (by kernel_rfl)) (by decide) (fun K hK => ?_)
           refine goes_ Tryd.func81 (by kernel_rfl) rfl #[.slice A30 y677.length c30, .int .i64 (wrap64 (a1 - 1)), .int .i64 (Go.bits .or .i64 a2 ((rd_T114 l0 x16_1).f0))] (by rfl) rfl rfl mapz ?_
           with_reducible refine (ih k1 (by have := HK1.out; omega) (fun k_ => ((P0_ k_ ∨ w.heap.size ≤ k_) ∧ k_ ≠ gb676)) _ _ y677 (wrap64 (a1 - 1)) (Go.bits .or .i64 a2 ((rd_T114 l0 x16_1).f0)) t682 false _ ?side1 A12.out).mono ?_
           (case side1 => exact HO681.out)
           rintro e w31 ⟨v683, rfl, ho0, hb⟩
           refine ⟨_, rfl, ?_⟩
           have n0_ := Aside0.mk (Kd.V_elder' (by (with_reducible repeat (first | apply Kd.V_alloc | apply Kd.V_drewN | apply Kd.V_drew)); exact HO_0.out) (Kd.N_base ho0) hb)
           have n1_ := Aside0.mk (Kd.V_elder' (by (with_reducible repeat (first | apply Kd.V_alloc | apply Kd.V_drewN | apply Kd.V_drew)); exact HO_14.out) (Kd.N_base ho0) hb)
           have n2_ := Aside0.mk (Kd.V_elder' (by (with_reducible repeat (first | apply Kd.V_alloc | apply Kd.V_drewN | apply Kd.V_drew)); exact HL675_1.out) (Kd.N_base ho0) hb)
           have n3_ := Aside0.mk (Kd.V_elder' (by (with_reducible repeat (first | apply Kd.V_alloc | apply Kd.V_drewN | apply Kd.V_drew)); exact HO681.out) (Kd.N_base ho0) hb)
           have n4_ := Aside0.mk (Kd.N_lower (Kd.N_mono (ok' := fun k_ => (P0_ k_ ∨ w.heap.size ≤ k_) ∧ k_ ≠ gb676) ho0 (fun k_ hk_ => ⟨Or.elim hk_ (fun hs_ => hs_.1) (fun hn_ => (.inr (Nat.le_trans (below_size bel) hn_))), Or.elim hk_ (fun hs_ => hs_.2) (fun hn_ => (Kd.freshB (g := gb676) (o := .cells #[.int .i64 ((rd_T114 l0 x16_1).f0), .slice A675_1 ((rd_T114 l0 x16_1).f1).length c675_1] 114 (0, 0)) blkz k_ hn_))⟩)) (below_size bel))
           have n5_ := Aside0.mk (blk_below (g := gb676) blkz hb)
           have n6_ := Aside0.mk (below_step bel hb)
           clear HO_0
           clear HO_14
           clear HL675_1
           clear HO681
           clear BK676
           clear HB
           have HO_0 := n0_
           have HO_14 := n1_
           have HL675_1 := n2_
           have HO681 := n3_
           have HO684 := n4_
           have BK676 := n5_
           have HB := n6_
           clear n0_ n1_ n2_ n3_ n4_ n5_ n6_
           (try clear hb)
           (try clear hb2)
           (try clear hk)
           (try clear hi)
           (try clear ho0)
           refine hK.out _ _ ⟨(blk_cell BK676.out 0).trans rfl, (blk_cell BK676.out 1).trans rfl⟩ (fun hHeld => ?_)
           clear hK K
           refine norm_ (a' := ?_) ?_ ?_
           rotate_left
           ·
            show Act.put _ (some 37) _ = _
            simp only [Act.put, List.setIfInBounds_toArray, List.set_cons_zero, List.set_cons_succ, i64_w, i32_w]
            rfl
           refine pst (i := 11) (N := some 26) (bz 16 4095) (any_of HT_.out (by kernel_rfl)) ?_
           refine pst (i := 12) (N := some 38) (bz 16 8191) (any_of HT_.out (by kernel_rfl)) ?_
           refine pst (i := 13) (N := some 39) (bz 16 16383) (any_of HT_.out (by kernel_rfl)) ?_
           refine pst (i := 14) (N := some 10) (bz 16 32767) (any_of HT_.out (by kernel_rfl)) ?_
           refine pst (i := 15) (N := some 11) (bz 16 65535) (any_of HT_.out (by kernel_rfl)) ?_
           refine done_ (done_of HT_.out (by kernel_rfl)) ?_
           try go_wp2
           go_roundg k1
           case measure => have := HK1.out; omega
           case rel => exact ⟨(ji9), (by first | rfl | (simp; done) | (simp only [← hji9] <;> (first | rfl | simp)) | (simp [*]; done)), H', ⟨by have := HK1.out; omega⟩, ⟨by (with_reducible repeat (first | apply Kd.V_alloc | apply Kd.V_drewN | apply Kd.V_drew)); exact Kd.V_mono HO_0.out (fun _ hk => hk.1.1)⟩, ⟨by (with_reducible repeat (first | apply Kd.V_alloc | apply Kd.V_drewN | apply Kd.V_drew)); exact Kd.V_mono HO_14.out (fun _ hk => hk.1.1)⟩, ⟨bel⟩⟩
         ·
          rw [if_neg c11] at H
          exact absurd H (by simp)
        ·
         rw [if_neg c10] at H
         exact absurd H (by simp)
       ·
        rw [if_neg c8] at H
        have c8b0 : ((Go.bits .and .i64 ((rd_T114 l0 x16_1).f0) a2) == 0) = false := beq_eq_false_iff_ne.mpr c8
        have c8b1 : ((Go.bits .and .i64 ((rd_T114 l0 x16_1).f0) a2) != 0) = true := bne_iff_ne.mpr c8
        have H' := Aside0.mk H
        clear H
        have p675 : 0 ≤ (x16_1 : Int) := of_decide_eq_true asz
        have q675 : x16_1 < (l0.length : Int) := of_decide_eq_true asz
        obtain ⟨ad675, A675_1, c675_1, e675, hx675_0, hx675_1, hl675_1, hi675_1⟩ := at_T114 (Kd.V_reads' HO_14.out).2.2 x16_1 p675 q675
        cases e675
        obtain ⟨ce675, hce675, hMe675, hcc675⟩ := Kd.V_get HO_14.out z114 x16_1 p675 (by first | exact q675 | exact of_decide_eq_true asz | (have e_ := (Kd.V_reads' HO_14.out).1; omega))
        obtain ⟨ua675_1, uc675_1, rfl, ul675_1, ge675_1⟩ := k114_openF hMe675
        have hv675_1 := hcc675 1 _ rfl
        rw [add_field _ _ 1 (by omega)] at hv675_1
        replace hv675_1 := Option.some.inj (hv675_1.symm.trans hx675_1)
        injection hv675_1 with hva_ hvn_ hvc_
        rw [hva_] at ge675_1
        rw [hvc_] at ul675_1
        have HL675_1 := Aside0.mk (show Kd.V (Kd.int .i64) 3 _ w.heap.size _ _ ((rd_T114 l0 x16_1).f1) from Kd.V_mk ul675_1 ge675_1)
        clear hva_ hvn_ hvc_ ge675_1 ul675_1
        clear hcc675 hce675
        have HR675_1 := Aside0.mk hi675_1
        have HC675_1 := Aside0.mk hl675_1
        clear hi675_1 hl675_1
        replace p675 := eq_true p675
        replace q675 := eq_true q675
        go_wp2_with (first | ((with_reducible refine gate_dst (N := 9) rfl ?_); refine box_event ?hg (N := 9) ?hd (cs := #[.int .i64 0, .slice none 0 0]) (t := 114) ?hr ?_; (case hd => rfl); (case hg => rfl); (case hr => first | (go_simp; done) | (go_simp; rfl)); intro gb676 hg w32 hbox hb; have BK676 := Aside0.mk (hbox); have GW676 := bsz (w := w) hg; have GE676 := GW676; replace HO_0 := Aside0.mk (Kd.V_below (Kd.V_elderB (by (with_reducible repeat (first | apply Kd.V_alloc | apply Kd.V_drewN | apply Kd.V_drew)); exact HO_0.out) gb676 (Nat.le_of_eq hg.symm)) hb); replace HO_14 := Aside0.mk (Kd.V_below (Kd.V_elderB (by (with_reducible repeat (first | apply Kd.V_alloc | apply Kd.V_drewN | apply Kd.V_drew)); exact HO_14.out) gb676 (Nat.le_of_eq hg.symm)) hb); replace HL675_1 := Aside0.mk (Kd.V_below (Kd.V_elderB (by (with_reducible repeat (first | apply Kd.V_alloc | apply Kd.V_drewN | apply Kd.V_drew)); exact HL675_1.out) gb676 (Nat.le_of_eq hg.symm)) hb); replace HR675_1 := Aside0.mk (Kd.C_below (by repeat (first | (with_reducible exact HR675_1.out) | (with_reducible refine Kd.C_alloc ?_ _) | (with_reducible refine Kd.C_drewN ?_ _) | (with_reducible refine Kd.C_drew ?_) | exact HR675_1.out)) hb); replace HB := Aside0.mk (below_step bel hb); clear hb hbox hg; have hcz33_0 := blkc BK676.out 0 (.int .i64 0) rfl; have hcz33_1 := blkc BK676.out 1 (.slice none 0 0) rfl; have hfz33_0 := blk_frozen BK676.out 0; have hfz33_1 := blk_frozen BK676.out 1))
        go_roundg k1
        case measure => have := HK1.out; omega
        case rel => exact ⟨(wrap64 (x16_1 + 1)), rsz, H', ⟨by have := HK1.out; omega⟩, ⟨by (with_reducible repeat (first | apply Kd.V_alloc | apply Kd.V_drewN | apply Kd.V_drew)); exact Kd.V_mono (Kd.V_far (p := ⟨gb676, 1, none⟩) (Kd.V_far (p := ⟨gb676, 0, none⟩) (Kd.V_mono HO_0.out (fun k_ hk => (⟨hk, hk.2⟩ : _ ∧ k_ ≠ gb676))) (fun _ hk => hk.2) (.int .i64 ((rd_T114 l0 x16_1).f0))) (fun _ hk => hk.2) (.slice A675_1 ((rd_T114 l0 x16_1).f1).length c675_1)) (fun _ hk => hk.1.1)⟩, ⟨by (with_reducible repeat (first | apply Kd.V_alloc | apply Kd.V_drewN | apply Kd.V_drew)); exact Kd.V_mono (Kd.V_far (p := ⟨gb676, 1, none⟩) (Kd.V_far (p := ⟨gb676, 0, none⟩) (Kd.V_mono HO_14.out (fun k_ hk => (⟨hk, hk.2⟩ : _ ∧ k_ ≠ gb676))) (fun _ hk => hk.2) (.int .i64 ((rd_T114 l0 x16_1).f0))) (fun _ hk => hk.2) (.slice A675_1 ((rd_T114 l0 x16_1).f1).length c675_1)) (fun _ hk => hk.1.1)⟩, ⟨bel⟩⟩
      ·
       rw [if_neg c7] at H
       exact absurd H (by simp)
     ·
      rw [if_neg c6] at H
      exact absurd H (by simp)
    ·
     rw [if_neg c5] at H
     have c5b0 : decide (x16_1 < (l0.length : Int)) = false := decide_eq_false c5
     clear c5
     simp only [Option.some.injEq, Prod.mk.injEq] at H
     obtain ⟨rfl, rfl⟩ := H
     go_wp2
     go_ret2
     exact ⟨_, ezz, by first | exact Kd.S_nil _ _ _ _ _ | exact Kd.N_nil _ _ _ _ _ | exact Kd.V_nil _ _ _ _ _ | exact Kd.Q_nil _ _ _ _ _ | exact Kd.R_nil _ _ _ _ _, bel⟩

/-! ### feed_grid_paths: function 82 -/
mutual
def feed_grid_paths.j0 : Nat → Int → Int → Int → List (S114) → Int → List (S69) → List (S71) → Int → List Int → Option ((List (S114)))
 | 0, _, _, _, _, _, _, _, _, _ => none
 | k + 1, x1, x2, x3, x11, x693000, x693001, x693002, x694000, x694001 => feed_grid_paths.l0 k x1 x2 x3 x11 x693001 (x693001.length : Int) 0 x693000 x693001 x693002 x694000 x694001
def feed_grid_paths.l0 : Nat → Int → Int → Int → List (S114) → List (S69) → Int → Int → Int → List (S69) → List (S71) → Int → List Int → Option ((List (S114)))
 | 0, _, _, _, _, _, _, _, _, _, _, _, _ => none
 | k + 1, x1, x2, x3, x11, x25, x26, x27, x693000, x693001, x693002, x694000, x694001 => if x27 < x26 then (if 0 ≤ x27 then (if x27 < (x25.length : Int) then (if (Go.bits .and .i64 (shr .i64 x1 x27) 1) = 0 then (feed_grid_paths.j2 k x1 x2 x3 x11 x27 x25 x26 x27 true x693000 x693001 x693002 x694000 x694001 ((rd_T69 x25 x27).f0) ((rd_T69 x25 x27).f1)) else (if ((rd_T69 x25 x27).f0) = x2 then (feed_grid_paths.j2 k x1 x2 x3 x11 x27 x25 x26 x27 false x693000 x693001 x693002 x694000 x694001 ((rd_T69 x25 x27).f0) ((rd_T69 x25 x27).f1)) else (feed_grid_paths.j2 k x1 x2 x3 x11 x27 x25 x26 x27 (((rd_T69 x25 x27).f1) != x2) x693000 x693001 x693002 x694000 x694001 ((rd_T69 x25 x27).f0) ((rd_T69 x25 x27).f1)))) else (none)) else (none)) else (some x11)
def feed_grid_paths.j2 : Nat → Int → Int → Int → List (S114) → Int → List (S69) → Int → Int → Bool → Int → List (S69) → List (S71) → Int → List Int → Int → Int → Option ((List (S114)))
 | 0, _, _, _, _, _, _, _, _, _, _, _, _, _, _, _, _ => none
 | k + 1, x1, x2, x3, x11, x12, x25, x26, x27, x48, x693000, x693001, x693002, x694000, x694001, x700000, x700001 => if x48 = true then (feed_grid_paths.l0 k x1 x2 x3 x11 x25 x26 (wrap64 (x27 + 1)) x693000 x693001 x693002 x694000 x694001) else (if 0 ≤ (wrap64 ((wrap64 (x700000 + x700001)) - x2)) then (if (Go.bits .and .u64 (shr .u64 x3 (wrap64 ((wrap64 (x700000 + x700001)) - x2))) 1) = 0 then (if 0 ≤ x12 then ((some (([x12] : List Int) : List Int)).bind fun y700 => (if y700.length + x694001.length < 17592186044416 then ((feed_grid_paths.f k x693000 x693001 x693002 x1 (wrap64 ((wrap64 (x700000 + x700001)) - x2)) (Go.bits .or .u64 x3 (shl .u64 1 (wrap64 ((wrap64 (x700000 + x700001)) - x2)))) (Go.bits .or .i64 x694000 (shl .i64 1 x12)) (y700 ++ x694001)).bind fun t707 => (if x11.length + t707.length < 4398046511104 then (feed_grid_paths.l0 k x1 x2 x3 (x11 ++ t707) x25 x26 (wrap64 (x27 + 1)) x693000 x693001 x693002 x694000 x694001) else (none))) else (none))) else (none)) else (feed_grid_paths.l0 k x1 x2 x3 x11 x25 x26 (wrap64 (x27 + 1)) x693000 x693001 x693002 x694000 x694001)) else (none))
def feed_grid_paths.f : Nat → Int → List (S69) → List (S71) → Int → Int → Int → Int → List Int → Option ((List (S114)))
 | 0, _, _, _, _, _, _, _, _ => none
 | k + 1, a0_0, l0_1, l0_2, a1, a2, a3, a4_0, l4_1 => (feed_grid_atHome.f a0_0 l0_1 l0_2 a2).bind fun t694 => (if t694 = true then (if ([] : List (S114)).length < 4398046511104 then (feed_grid_paths.j0 k a1 a2 a3 (([] : List (S114)) ++ [(⟨a4_0, l4_1⟩ : S114)]) a0_0 l0_1 l0_2 a4_0 l4_1) else (none)) else (feed_grid_paths.j0 k a1 a2 a3 ([] : List (S114)) a0_0 l0_1 l0_2 a4_0 l4_1))
end
theorem feed_grid_paths.mono_l : ∀ k, (∀ y0 y1 y2 y3 y4 y5 y6 y7, LeO (feed_grid_paths.f k y0 y1 y2 y3 y4 y5 y6 y7) (feed_grid_paths.f (k + 1) y0 y1 y2 y3 y4 y5 y6 y7)) ∧ (∀ y0 y1 y2 y3 y4 y5 y6 y7 y8, LeO (feed_grid_paths.j0 k y0 y1 y2 y3 y4 y5 y6 y7 y8) (feed_grid_paths.j0 (k + 1) y0 y1 y2 y3 y4 y5 y6 y7 y8)) ∧ (∀ y0 y1 y2 y3 y4 y5 y6 y7 y8 y9 y10 y11, LeO (feed_grid_paths.l0 k y0 y1 y2 y3 y4 y5 y6 y7 y8 y9 y10 y11) (feed_grid_paths.l0 (k + 1) y0 y1 y2 y3 y4 y5 y6 y7 y8 y9 y10 y11)) ∧ (∀ y0 y1 y2 y3 y4 y5 y6 y7 y8 y9 y10 y11 y12 y13 y14 y15, LeO (feed_grid_paths.j2 k y0 y1 y2 y3 y4 y5 y6 y7 y8 y9 y10 y11 y12 y13 y14 y15) (feed_grid_paths.j2 (k + 1) y0 y1 y2 y3 y4 y5 y6 y7 y8 y9 y10 y11 y12 y13 y14 y15))
 | 0 => ⟨fun _ _ _ _ _ _ _ _ r h => by simp [feed_grid_paths.f] at h, fun _ _ _ _ _ _ _ _ _ r h => by simp [feed_grid_paths.j0] at h, fun _ _ _ _ _ _ _ _ _ _ _ _ r h => by simp [feed_grid_paths.l0] at h, fun _ _ _ _ _ _ _ _ _ _ _ _ _ _ _ _ r h => by simp [feed_grid_paths.j2] at h⟩
 | k + 1 => by
  obtain ⟨ih0, ih1, ih2, ih3⟩ := feed_grid_paths.mono_l k
  refine ⟨?_, ?_, ?_, ?_⟩
  ·
   intro y0 y1 y2 y3 y4 y5 y6 y7
   unfold feed_grid_paths.f
   repeat' first
   | (with_reducible exact ih0 _ _ _ _ _ _ _ _)
   | (with_reducible exact ih1 _ _ _ _ _ _ _ _ _)
   | (with_reducible exact ih2 _ _ _ _ _ _ _ _ _ _ _ _)
   | (with_reducible exact ih3 _ _ _ _ _ _ _ _ _ _ _ _ _ _ _ _)
   | (with_reducible exact LeO.refl _)
   | (with_reducible exact LeO.none _)
   | (with_reducible refine LeO.ite ?_ ?_)
   | (with_reducible refine LeO.bind ?_ (fun _ => ?_))
   | exact ih0 _ _ _ _ _ _ _ _
   | exact ih1 _ _ _ _ _ _ _ _ _
   | exact ih2 _ _ _ _ _ _ _ _ _ _ _ _
   | exact ih3 _ _ _ _ _ _ _ _ _ _ _ _ _ _ _ _
   | exact LeO.none _
   | refine LeO.ite ?_ ?_
   | refine LeO.bind ?_ (fun _ => ?_)
  ·
   intro y0 y1 y2 y3 y4 y5 y6 y7 y8
   unfold feed_grid_paths.j0
   repeat' first
   | (with_reducible exact ih0 _ _ _ _ _ _ _ _)
   | (with_reducible exact ih1 _ _ _ _ _ _ _ _ _)
   | (with_reducible exact ih2 _ _ _ _ _ _ _ _ _ _ _ _)
   | (with_reducible exact ih3 _ _ _ _ _ _ _ _ _ _ _ _ _ _ _ _)
   | (with_reducible exact LeO.refl _)
   | (with_reducible exact LeO.none _)
   | (with_reducible refine LeO.ite ?_ ?_)
   | (with_reducible refine LeO.bind ?_ (fun _ => ?_))
   | exact ih0 _ _ _ _ _ _ _ _
   | exact ih1 _ _ _ _ _ _ _ _ _
   | exact ih2 _ _ _ _ _ _ _ _ _ _ _ _
   | exact ih3 _ _ _ _ _ _ _ _ _ _ _ _ _ _ _ _
   | exact LeO.none _
   | refine LeO.ite ?_ ?_
   | refine LeO.bind ?_ (fun _ => ?_)
  ·
   intro y0 y1 y2 y3 y4 y5 y6 y7 y8 y9 y10 y11
   unfold feed_grid_paths.l0
   repeat' first
   | (with_reducible exact ih0 _ _ _ _ _ _ _ _)
   | (with_reducible exact ih1 _ _ _ _ _ _ _ _ _)
   | (with_reducible exact ih2 _ _ _ _ _ _ _ _ _ _ _ _)
   | (with_reducible exact ih3 _ _ _ _ _ _ _ _ _ _ _ _ _ _ _ _)
   | (with_reducible exact LeO.refl _)
   | (with_reducible exact LeO.none _)
   | (with_reducible refine LeO.ite ?_ ?_)
   | (with_reducible refine LeO.bind ?_ (fun _ => ?_))
   | exact ih0 _ _ _ _ _ _ _ _
   | exact ih1 _ _ _ _ _ _ _ _ _
   | exact ih2 _ _ _ _ _ _ _ _ _ _ _ _
   | exact ih3 _ _ _ _ _ _ _ _ _ _ _ _ _ _ _ _
   | exact LeO.none _
   | refine LeO.ite ?_ ?_
   | refine LeO.bind ?_ (fun _ => ?_)
  ·
   intro y0 y1 y2 y3 y4 y5 y6 y7 y8 y9 y10 y11 y12 y13 y14 y15
   unfold feed_grid_paths.j2
   repeat' first
   | (with_reducible exact ih0 _ _ _ _ _ _ _ _)
   | (with_reducible exact ih1 _ _ _ _ _ _ _ _ _)
   | (with_reducible exact ih2 _ _ _ _ _ _ _ _ _ _ _ _)
   | (with_reducible exact ih3 _ _ _ _ _ _ _ _ _ _ _ _ _ _ _ _)
   | (with_reducible exact LeO.refl _)
   | (with_reducible exact LeO.none _)
   | (with_reducible refine LeO.ite ?_ ?_)
   | (with_reducible refine LeO.bind ?_ (fun _ => ?_))
   | exact ih0 _ _ _ _ _ _ _ _
   | exact ih1 _ _ _ _ _ _ _ _ _
   | exact ih2 _ _ _ _ _ _ _ _ _ _ _ _
   | exact ih3 _ _ _ _ _ _ _ _ _ _ _ _ _ _ _ _
   | exact LeO.none _
   | refine LeO.ite ?_ ?_
   | refine LeO.bind ?_ (fun _ => ?_)
theorem feed_grid_paths.mono : ∀ a0 a1 a2 a3 a4 a5 a6 a7 k, LeO (feed_grid_paths.f k a0 a1 a2 a3 a4 a5 a6 a7) (feed_grid_paths.f (k + 1) a0 a1 a2 a3 a4 a5 a6 a7) := by
 intro a0 a1 a2 a3 a4 a5 a6 a7 k
 obtain ⟨ih0, ih1, ih2, ih3⟩ := feed_grid_paths.mono_l k
 exact ih0 a0 a1 a2 a3 a4 a5 a6 a7
def feed_grid_paths.T10 : Bool × List (List Nat × List Nat) := (true, [([], []), ([0], [0]), ([], []), ([2], [2]), ([1, 3], [1, 3]), ([], []), ([5], [5]), ([], []), ([7], [7]), ([6, 8], [6, 8]), ([4, 9], [4, 9]), ([], []), ([11, 10, 9, 0, 1, 2, 3, 4, 5, 6, 7, 8, 9, 10, 11], [10, 11])])
def feed_grid_paths.B10 : List Nat := [0, 1, 0, 4, 15, 0, 32, 0, 128, 480, 1023, 0, 4095]
theorem feed_grid_paths.tab10 : rtab .any (opsOf Tryd.f82 10) = feed_grid_paths.T10 := by kernel_rfl
theorem feed_grid_paths.bits10 : waitsOk feed_grid_paths.T10.2 feed_grid_paths.B10 = true := by kernel_rfl
def feed_grid_paths.T11 : Bool × List (List Nat × List Nat) := (true, [([], []), ([], []), ([], []), ([], []), ([], []), ([], []), ([5], [5]), ([4, 6], [4, 6]), ([], []), ([1, 2, 3, 7, 8], [1, 2, 3, 7, 8]), ([0, 9, 9], [0, 9]), ([10, 10, 0, 1, 2, 3, 4, 5, 6, 7, 8, 9, 10], [0, 10])])
def feed_grid_paths.B11 : List Nat := [0, 0, 0, 0, 0, 0, 32, 112, 0, 510, 1023, 2047]
theorem feed_grid_paths.tab11 : rtab .any (opsOf Tryd.f82 11) = feed_grid_paths.T11 := by kernel_rfl
theorem feed_grid_paths.bits11 : waitsOk feed_grid_paths.T11.2 feed_grid_paths.B11 = true := by kernel_rfl
set_option maxHeartbeats 8000000 in
set_option maxRecDepth 100000 in
theorem feed_grid_paths.calls (k : Nat) : ∀ (a0_0 : Int) (A0_1 : Option Addr) (c0_1 : Nat) (l0_1 : List (S69)) (A0_2 : Option Addr) (c0_2 : Nat) (l0_2 : List (S71)) (a1 : Int) (a2 : Int) (a3 : Int) (a4_0 : Int) (P4_1_ : Nat → Prop) (A4_1 : Option Addr) (c4_1 : Nat) (l4_1 : List Int) (r : List (S114)) (w : World) (hr0_1 : Kd.C k69 w A0_1 l0_1.length l0_1) (hc0_1 : l0_1.length ≤ c0_1) (hr0_2 : Kd.C k71 w A0_2 l0_2.length l0_2) (hc0_2 : l0_2.length ≤ c0_2) (hs4_1 : Kd.V (Kd.int .i64) 3 w w.heap.size (fun k_ => P4_1_ k_) (.slice A4_1 l4_1.length c4_1) l4_1) (h : feed_grid_paths.f k a0_0 l0_1 l0_2 a1 a2 a3 a4_0 l4_1 = some r),
  Calls Tryd.prog 82 #[.agg #[.int .i64 a0_0, .slice A0_1 l0_1.length c0_1, .slice A0_2 l0_2.length c0_2], .int .i64 a1, .int .i64 a2, .int .u64 a3, .agg #[.int .i64 a4_0, .slice A4_1 l4_1.length c4_1]] w fun e w' => ∃ v0_ : Value, e = .returned (v0_) ∧ Kd.N k114 114 w' w.heap.size (fun k_ => (P4_1_ k_ ∨ w.heap.size ≤ k_)) v0_ r ∧ Below w.heap.size w w' := by
 induction k using Nat.strongRecOn with
 | _ k ih =>
 intro a0_0 A0_1 c0_1 l0_1 A0_2 c0_2 l0_2 a1 a2 a3 a4_0 P4_1_ A4_1 c4_1 l4_1 r w hr0_1 hc0_1 hr0_2 hc0_2 hs4_1 h
 cases k with
 | zero => exact absurd h (by simp [feed_grid_paths.f])
 | succ k =>
 simp only [feed_grid_paths.f] at h
 have hu73 := Tryd.underlying73
 have hu114 := Tryd.underlying114
 have hu69 := Tryd.underlying69
 have HR0_1 := Aside0.mk hr0_1
 have HC0_1 := Aside0.mk hc0_1
 clear hr0_1 hc0_1
 have HR0_2 := Aside0.mk hr0_2
 have HC0_2 := Aside0.mk hc0_2
 clear hr0_2 hc0_2
 have HO4_1 := Aside0.mk (show Kd.V (Kd.int .i64) 3 w w.heap.size (fun k_ => (P4_1_ k_ ∨ w.heap.size ≤ k_)) (.slice A4_1 l4_1.length c4_1) l4_1 from Kd.V_mono hs4_1 (fun k_ hk => .inl hk))
 have HB := Aside0.mk (Below.refl w.heap.size w)
 have H : ((feed_grid_atHome.f a0_0 l0_1 l0_2 a2).bind fun t694 => (if t694 = true then (if ([] : List (S114)).length < 4398046511104 then (feed_grid_paths.j0 k a1 a2 a3 (([] : List (S114)) ++ [(⟨a4_0, l4_1⟩ : S114)]) a0_0 l0_1 l0_2 a4_0 l4_1) else (none)) else (feed_grid_paths.j0 k a1 a2 a3 ([] : List (S114)) a0_0 l0_1 l0_2 a4_0 l4_1))) = some r := h
 clear h
 replace H := Option.bind_eq_some_iff.mp H
 obtain ⟨t694, A60, H⟩ := H
 replace H : (if t694 = true then (if ([] : List (S114)).length < 4398046511104 then (feed_grid_paths.j0 k a1 a2 a3 (([] : List (S114)) ++ [(⟨a4_0, l4_1⟩ : S114)]) a0_0 l0_1 l0_2 a4_0 l4_1) else (none)) else (feed_grid_paths.j0 k a1 a2 a3 ([] : List (S114)) a0_0 l0_1 l0_2 a4_0 l4_1)) = some r := H
 have A6 := Aside0.mk A60
 clear A60
 have HC7 := Aside0.mk H
 clear H
 go_enter Tryd.func82, Tryd.ntmps82
 go_upto_if 18 with (first | ((with_reducible refine gate_dst (N := 5) rfl ?_); refine box_event ?hg (N := 5) ?hd (cs := #[.int .i64 a0_0, .slice A0_1 l0_1.length c0_1, .slice A0_2 l0_2.length c0_2]) (t := 73) ?hr ?_; (case hd => rfl); (case hg => rfl); (case hr => first | (go_simp; done) | (go_simp; rfl)); intro gb692 hg w8 hbox hb; have BK692 := Aside0.mk (hbox); have GW692 := bsz (w := w) hg; have GE692 := GW692; replace HO4_1 := Aside0.mk (Kd.V_below (Kd.V_elderB (by (with_reducible repeat (first | apply Kd.V_alloc | apply Kd.V_drewN | apply Kd.V_drew)); exact HO4_1.out) gb692 (Nat.le_of_eq hg.symm)) hb); replace HB := Aside0.mk (below_step bel hb); clear hb hbox hg) | ((with_reducible refine gate_dst (N := 9) rfl ?_); refine box_event ?hg (N := 9) ?hd (cs := #[.int .i64 a4_0, .slice A4_1 l4_1.length c4_1]) (t := 114) ?hr ?_; (case hd => rfl); (case hg => rfl); (case hr => first | (go_simp; done) | (go_simp; rfl)); intro gb693 hg w9 hbox hb; have BK693 := Aside0.mk (hbox); have GW693 := bsz (w := w) hg; have GE693 := GW693; have NB692_693 := neL (g := gb692) hg; have NB693_692 := neR (g := gb692) hg; replace HO4_1 := Aside0.mk (Kd.V_below (Kd.V_elderB (by (with_reducible repeat (first | apply Kd.V_alloc | apply Kd.V_drewN | apply Kd.V_drew)); exact HO4_1.out) gb693 (Nat.le_of_eq hg.symm)) hb); replace BK692 := Aside0.mk (blk_below (g := gb692) blkz hb); replace HB := Aside0.mk (below_step bel hb); clear hb hbox hg; have hnb10 := NB692_693.out; have hnc10 := NB693_692.out; have hcz11_0 := blkc BK692.out 0 (.int .i64 a0_0) rfl; have hcz11_1 := blkc BK692.out 1 (.slice A0_1 l0_1.length c0_1) rfl; have hcz11_2 := blkc BK692.out 2 (.slice A0_2 l0_2.length c0_2) rfl) | ((with_reducible refine gate_callee (f := 62) rfl ?_); refine goesL_ (some 18) rfl rfl Tryd.func62 (by kernel_rfl) rfl #[.agg #[.int .i64 a0_0, .slice A0_1 l0_1.length c0_1, .slice A0_2 l0_2.length c0_2], .int .i64 a2] rfl mapz ?_; (with_reducible refine (feed_grid_atHome.calls a0_0 _ _ l0_1 _ _ l0_2 a2 t694 _ ?side1 ?side2 ?side3 ?side4 A6.out).mono ?_); (case side1 => exact cbz HR0_1); (case side2 => exact HC0_1.out); (case side3 => exact cbz HR0_2); (case side4 => exact HC0_2.out); rintro e w12 ⟨rfl, hb⟩; refine ⟨_, rfl, ?_⟩; replace HO4_1 := Aside0.mk (Kd.V_below (by (with_reducible repeat (first | apply Kd.V_alloc | apply Kd.V_drewN | apply Kd.V_drew)); exact HO4_1.out) hb); replace BK692 := Aside0.mk (blk_below (g := gb692) blkz hb); replace BK693 := Aside0.mk (blk_below (g := gb693) blkz hb); replace HB := Aside0.mk (below_step bel hb); (try clear hb); (try clear hb2); (try clear hk); (try clear hi)))
 (try simp only [Act.put, List.setIfInBounds_toArray, List.set_cons_zero, List.set_cons_succ])
 go_cut [11] (fun v11 wc => ∃ (kq : Nat) (x11_6 : List (S114)), Aside0 (feed_grid_paths.j0 kq a1 a2 a3 x11_6 a0_0 l0_1 l0_2 a4_0 l4_1 = some r) ∧ Aside0 (kq ≤ k) ∧ Aside0 (Kd.N k114 114 wc w.heap.size (fun k_ => (P4_1_ k_ ∨ w.heap.size ≤ k_) ∧ k_ ≠ gb692 ∧ k_ ≠ gb693) v11 x11_6) ∧ Aside0 (Kd.V (Kd.int .i64) 3 wc w.heap.size (fun k_ => (P4_1_ k_ ∨ w.heap.size ≤ k_) ∧ some k_ ≠ (v11 : Value).ownBlock ∧ k_ ≠ gb692 ∧ k_ ≠ gb693) (.slice A4_1 l4_1.length c4_1) l4_1) ∧ Aside0 (wc.heap[gb692]? = some (.cells #[.int .i64 a0_0, (.slice A0_1 l0_1.length c0_1), (.slice A0_2 l0_2.length c0_2)] 73 (0, 0))) ∧ Aside0 (wc.heap[gb693]? = some (.cells #[.int .i64 a4_0, (.slice A4_1 l4_1.length c4_1)] 114 (0, 0))) ∧ Aside0 (Below w.heap.size w wc))
 case first =>
  have H := HC7.out
  clear HC7
  by_cases c13 : t694 = true
  ·
   subst c13
   have H1 : (if ([] : List (S114)).length < 4398046511104 then (feed_grid_paths.j0 k a1 a2 a3 (([] : List (S114)) ++ [(⟨a4_0, l4_1⟩ : S114)]) a0_0 l0_1 l0_2 a4_0 l4_1) else (none)) = some r := by rw [if_pos rfl] at H; exact H
   clear H
   have H := H1
   clear H1
   by_cases c14 : ([] : List (S114)).length < 4398046511104
   ·
    rw [if_pos c14] at H
    have LMc14 := Aside0.mk c14
    clear c14
    obtain ⟨y695, hy695⟩ : ∃ y_ : List (S114), y_ = (([] : List (S114)) ++ [(⟨a4_0, l4_1⟩ : S114)]) := ⟨_, rfl⟩
    replace H : (feed_grid_paths.j0 k a1 a2 a3 y695 a0_0 l0_1 l0_2 a4_0 l4_1) = some r := by first | (rw [hy695]; with_reducible exact H) | (have H2_ := (Option.bind_some _ _).symm.trans H; rw [hy695]; with_reducible exact H2_) | (have H2_ := (Option.bind_some _ _).symm.trans H; with_reducible exact H2_) | with_reducible exact H | (rw [hy695]; exact H) | exact H
    have Ny695 := Aside0.mk hy695
    clear hy695
    have H' := Aside0.mk H
    clear H
    have hnb15 := NB693_692.out
    have hnc15 := NB692_693.out
    have hcz16_0 := blkc BK693.out 0 (.int .i64 a4_0) rfl
    have hcz16_1 := blkc BK693.out 1 (.slice A4_1 l4_1.length c4_1) rfl
    have hfz16_0 := blk_frozen BK693.out 0
    have hfz16_1 := blk_frozen BK693.out 1
    go_wp2_with (first | ((with_reducible refine gate_builtin (b := .append) (xs := #[.tmp 19, .tmp 21]) rfl ?_); at_builtin; refine Kd.N_append k114 (w0 := w) w.heap.size rfl (.tmp 19) (.tmp 21) 111 114 (.agg #[(.int .i64 0), (.slice none 0 0)]) 32 rfl Tryd.underlying111 info114 rfl (by decide) (by omega) (.slice none 0 0) ([] : List (S114)) (⟨a4_0, l4_1⟩ : S114) [.int .i64 a4_0, .slice A4_1 l4_1.length c4_1] (fun k_ => (P4_1_ k_ ∨ w.heap.size ≤ k_) ∧ k_ ≠ gb692 ∧ k_ ≠ gb693) (fun k_ => ((fun k_ => (P4_1_ k_ ∨ w.heap.size ≤ k_) ∧ k_ ≠ gb692 ∧ k_ ≠ gb693)) k_ ∧ some k_ ≠ (.slice none 0 0 : Value).ownBlock) rfl rfl ?aP (fun _ hk => hk) ?aF ?aO ?aB ?aS ?aL ?_; (case aP => exact (k114_mkF _ _ (⟨a4_0, l4_1⟩ : S114) (Kd.V_reads' (Kd.V_mono (ok' := (fun k_ => ((fun k_ => (P4_1_ k_ ∨ w.heap.size ≤ k_) ∧ k_ ≠ gb692 ∧ k_ ≠ gb693)) k_ ∧ some k_ ≠ (.slice none 0 0 : Value).ownBlock)) (HO4_1.out) (fun k_ hk => ⟨⟨hk.1.1, ⟨hk.1.2, hk.2⟩⟩, (by simp [Value.ownBlock])⟩))).2.1 (Kd.V_F (Kd.V_mono (ok' := (fun k_ => ((fun k_ => (P4_1_ k_ ∨ w.heap.size ≤ k_) ∧ k_ ≠ gb692 ∧ k_ ≠ gb693)) k_ ∧ some k_ ≠ (.slice none 0 0 : Value).ownBlock)) (HO4_1.out) (fun k_ hk => ⟨⟨hk.1.1, ⟨hk.1.2, hk.2⟩⟩, (by simp [Value.ownBlock])⟩))))); (case aB => exact bel); (case aF => exact (fun k_ hk => ⟨(.inr (Nat.le_trans (below_size bel) hk)), Kd.freshB (g := gb692) (o := .cells #[.int .i64 a0_0, .slice A0_1 l0_1.length c0_1, .slice A0_2 l0_2.length c0_2] 73 (0, 0)) blkz k_ hk, Kd.freshB (g := gb693) (o := .cells #[.int .i64 a4_0, .slice A4_1 l4_1.length c4_1] 114 (0, 0)) blkz k_ hk⟩)); (case aO => exact ((Kd.N_nil _ _ _ _ (fun k_ => (P4_1_ k_ ∨ w.heap.size ≤ k_) ∧ k_ ≠ gb692 ∧ k_ ≠ gb693)))); (case aS => exact (below_size bel)); (case aL => have := LMc14.out; omega); intro v696 w17 ho hb hg hat; rw [← Ny695.out] at ho; have HO697 := Aside0.mk (ho); replace HO4_1 := Aside0.mk (Kd.V_afterv (Kd.V_apart_nil (by (with_reducible repeat (first | apply Kd.V_alloc | apply Kd.V_drewN | apply Kd.V_drew)); exact HO4_1.out)) hg hat); replace BK692 := Aside0.mk (blk_grown (g := gb692) (o := .cells #[.int .i64 a0_0, .slice A0_1 l0_1.length c0_1, .slice A0_2 l0_2.length c0_2] 73 (0, 0)) blkz hg (by simp [Value.ownBlock])); replace BK693 := Aside0.mk (blk_grown (g := gb693) (o := .cells #[.int .i64 a4_0, .slice A4_1 l4_1.length c4_1] 114 (0, 0)) blkz hg (by simp [Value.ownBlock])); replace HB := Aside0.mk (hb); clear ho hb hg hat))
    go_meet
    case rel => exact ⟨_, (y695), H', ⟨by first | omega | exact Nat.le_refl _⟩, ⟨by (with_reducible repeat (first | apply Kd.N_alloc | apply Kd.N_drewN | apply Kd.N_drew)); exact HO697.out⟩, ⟨by (with_reducible repeat (first | apply Kd.V_alloc | apply Kd.V_drewN | apply Kd.V_drew)); exact Kd.V_mono HO4_1.out (fun _ hk => ⟨hk.1.1.1, ⟨hk.2, ⟨hk.1.1.2, hk.1.2⟩⟩⟩)⟩, ⟨blkz⟩, ⟨blkz⟩, ⟨bel⟩⟩
   ·
    rw [if_neg c14] at H
    exact absurd H (by simp)
  ·
   replace c13 := Bool.eq_false_iff.mpr c13
   subst c13
   have H1 : (feed_grid_paths.j0 k a1 a2 a3 ([] : List (S114)) a0_0 l0_1 l0_2 a4_0 l4_1) = some r := by rw [if_neg (show ¬ (false = true) by decide)] at H; exact H
   clear H
   have H := H1
   clear H1
   have H' := Aside0.mk H
   clear H
   go_wp2
   go_meet
   case rel => exact ⟨_, (([] : List (S114))), H', ⟨by first | omega | exact Nat.le_refl _⟩, ⟨by first | exact Kd.S_nil _ _ _ _ _ | exact Kd.N_nil _ _ _ _ _ | exact Kd.V_nil _ _ _ _ _ | exact Kd.Q_nil _ _ _ _ _ | exact Kd.R_nil _ _ _ _ _⟩, ⟨by (with_reducible repeat (first | apply Kd.V_alloc | apply Kd.V_drewN | apply Kd.V_drew)); exact Kd.V_mono HO4_1.out (fun _ hk => ⟨hk.1.1, ⟨(by simp [Value.ownBlock]), ⟨hk.1.2, hk.2⟩⟩⟩)⟩, ⟨blkz⟩, ⟨blkz⟩, ⟨bel⟩⟩
 case rest =>
  clear HC7
  try clear c1
  try clear p2
  try clear c4
  try clear c6
  try clear c8
  try clear c10
  try clear c13
  try clear c14
  try clear c15
  try clear hcz11_0
  try clear hcz11_1
  try clear hcz11_2
  try clear hcz16_0
  try clear hcz16_1
  try clear hfz11_0
  try clear hfz11_1
  try clear hfz11_2
  try clear hfz16_0
  try clear hfz16_1
  obtain ⟨kq, x11_6, HA, HJ6, HO_11, HO_694001, BK692, BK693, HB⟩ := hcut
  cases kq with
  | zero => exact absurd HA.out (by simp [feed_grid_paths.j0])
  | succ kj6 =>
   have H := HA.out
   clear HA
   simp only [feed_grid_paths.j0] at H
   have H' := Aside0.mk H
   clear H
   have hnb18 := NB692_693.out
   have hnc18 := NB693_692.out
   have hcz19_0 := blkc BK692.out 0 (.int .i64 a0_0) rfl
   have hcz19_1 := blkc BK692.out 1 (.slice A0_1 l0_1.length c0_1) rfl
   have hcz19_2 := blkc BK692.out 2 (.slice A0_2 l0_2.length c0_2) rfl
   have hfz19_0 := blk_frozen BK692.out 0
   have hfz19_1 := blk_frozen BK692.out 1
   have hfz19_2 := blk_frozen BK692.out 2
   go_wp2
   go_loopg [11, 27] kj6 (fun kq v11 v27 w' => ∃ (x11_2 : List (S114)) (x27_2 : Int), v27 = .int .i64 x27_2 ∧ Aside0 (feed_grid_paths.l0 kq a1 a2 a3 x11_2 l0_1 (l0_1.length : Int) x27_2 a0_0 l0_1 l0_2 a4_0 l4_1 = some r) ∧ Aside0 (kq ≤ kj6) ∧ Aside0 (Kd.N k114 114 w' w.heap.size (fun k_ => (P4_1_ k_ ∨ w.heap.size ≤ k_) ∧ k_ ≠ gb692 ∧ k_ ≠ gb693) v11 x11_2) ∧ Aside0 (Kd.V (Kd.int .i64) 3 w' w.heap.size (fun k_ => (P4_1_ k_ ∨ w.heap.size ≤ k_) ∧ some k_ ≠ (v11 : Value).ownBlock ∧ k_ ≠ gb692 ∧ k_ ≠ gb693) (.slice A4_1 l4_1.length c4_1) l4_1) ∧ Aside0 (w'.heap[gb692]? = some (.cells #[.int .i64 a0_0, (.slice A0_1 l0_1.length c0_1), (.slice A0_2 l0_2.length c0_2)] 73 (0, 0))) ∧ Aside0 (w'.heap[gb693]? = some (.cells #[.int .i64 a4_0, (.slice A4_1 l4_1.length c4_1)] 114 (0, 0))) ∧ Aside0 (Below w.heap.size w w'))
   case atStart => exact ⟨(x11_6), (0), rsz, H', ⟨Nat.le_refl _⟩, ⟨by (with_reducible repeat (first | apply Kd.N_alloc | apply Kd.N_drewN | apply Kd.N_drew)); exact HO_11.out⟩, ⟨by (with_reducible repeat (first | apply Kd.V_alloc | apply Kd.V_drewN | apply Kd.V_drew)); exact HO_694001.out⟩, ⟨blkz⟩, ⟨blkz⟩, ⟨bel⟩⟩
   case round =>
    clear H'
    try clear c1
    try clear p2
    try clear c4
    try clear c6
    try clear c8
    try clear c10
    try clear c13
    try clear c14
    try clear c15
    try clear c18
    try clear hcz11_0
    try clear hcz11_1
    try clear hcz11_2
    try clear hcz16_0
    try clear hcz16_1
    try clear hcz19_0
    try clear hcz19_1
    try clear hcz19_2
    try clear hfz11_0
    try clear hfz11_1
    try clear hfz11_2
    try clear hfz16_0
    try clear hfz16_1
    try clear hfz19_0
    try clear hfz19_1
    try clear hfz19_2
    try clear p2
    obtain ⟨x11_2, x27_2, rfl, HA, HK2, HO_11, HO_694001, BK692, BK693, HB⟩ := hrel
    cases gk with
    | zero => exact absurd HA.out (by simp [feed_grid_paths.l0])
    | succ k2 =>
     have H := HA.out
     clear HA
     simp only [feed_grid_paths.l0] at H
     by_cases c20 : x27_2 < (l0_1.length : Int)
     ·
      rw [if_pos c20] at H
      have c20b0 : decide (x27_2 < (l0_1.length : Int)) = true := decide_eq_true c20
      clear c20
      by_cases c21 : 0 ≤ x27_2
      ·
       rw [if_pos c21] at H
       have c21b0 : decide (0 ≤ x27_2) = true := decide_eq_true c21
       clear c21
       by_cases c22 : x27_2 < (l0_1.length : Int)
       ·
        rw [if_pos c22] at H
        have c22b0 : decide (x27_2 < (l0_1.length : Int)) = true := decide_eq_true c22
        clear c22
        have HC23 := Aside0.mk H
        clear H
        have p698 : 0 ≤ (x27_2 : Int) := of_decide_eq_true asz
        have q698 : x27_2 < (l0_1.length : Int) := of_decide_eq_true asz
        obtain ⟨ad698, e698, hx698_0, hx698_1⟩ := at_T69 HR0_1.out x27_2 p698 q698
        cases e698
        replace hx698_0 := (HB.out.cell (World.block_lt_of_cell? w _ hx698_0)).trans hx698_0
        replace hx698_1 := (HB.out.cell (World.block_lt_of_cell? w _ hx698_1)).trans hx698_1
        replace p698 := eq_true p698
        replace q698 := eq_true q698
        go_upto_region 7 with (first | ((with_reducible refine gate_dst (N := 13) rfl ?_); refine box_event ?hg (N := 13) ?hd (cs := #[.int .i64 0, .int .i64 0]) (t := 69) ?hr ?_; (case hd => rfl); (case hg => rfl); (case hr => first | (go_simp; done) | (go_simp; rfl)); intro gb699 hg w24 hbox hb; have BK699 := Aside0.mk (hbox); have GW699 := bsz (w := w) hg; have GE699 := GW699; have NB692_699 := neL (g := gb692) hg; have NB699_692 := neR (g := gb692) hg; have NB693_699 := neL (g := gb693) hg; have NB699_693 := neR (g := gb693) hg; replace HO_11 := Aside0.mk (Kd.N_below (Kd.N_elderB (by (with_reducible repeat (first | apply Kd.N_alloc | apply Kd.N_drewN | apply Kd.N_drew)); exact HO_11.out) gb699 (Nat.le_of_eq hg.symm)) hb); replace HO_694001 := Aside0.mk (Kd.V_below (Kd.V_elderB (by (with_reducible repeat (first | apply Kd.V_alloc | apply Kd.V_drewN | apply Kd.V_drew)); exact HO_694001.out) gb699 (Nat.le_of_eq hg.symm)) hb); replace BK692 := Aside0.mk (blk_below (g := gb692) blkz hb); replace BK693 := Aside0.mk (blk_below (g := gb693) blkz hb); replace HB := Aside0.mk (below_step bel hb); clear hb hbox hg; have hnb25 := NB699_692.out; have hnc25 := NB692_699.out; have hnb26 := NB699_693.out; have hnc26 := NB693_699.out; have hcz27_0 := blkc BK699.out 0 (.int .i64 0) rfl; have hcz27_1 := blkc BK699.out 1 (.int .i64 0) rfl; have hfz27_0 := blk_frozen BK699.out 0; have hfz27_1 := blk_frozen BK699.out 1))
        (try simp only [Act.put, List.setIfInBounds_toArray, List.set_cons_zero, List.set_cons_succ])
        go_cut [48] (fun v48 wc => ∃ (kq : Nat) (x48_22 : Bool), v48 = .bool x48_22 ∧ Aside0 (feed_grid_paths.j2 kq a1 a2 a3 x11_2 x27_2 l0_1 (l0_1.length : Int) x27_2 x48_22 a0_0 l0_1 l0_2 a4_0 l4_1 ((rd_T69 l0_1 x27_2).f0) ((rd_T69 l0_1 x27_2).f1) = some r) ∧ Aside0 (kq ≤ k2) ∧ Aside0 (Kd.N k114 114 wc w.heap.size (fun k_ => (P4_1_ k_ ∨ w.heap.size ≤ k_) ∧ k_ ≠ gb692 ∧ k_ ≠ gb693 ∧ k_ ≠ gb699) u11 x11_2) ∧ Aside0 (Kd.V (Kd.int .i64) 3 wc w.heap.size (fun k_ => (P4_1_ k_ ∨ w.heap.size ≤ k_) ∧ some k_ ≠ (u11 : Value).ownBlock ∧ k_ ≠ gb692 ∧ k_ ≠ gb693 ∧ k_ ≠ gb699) (.slice A4_1 l4_1.length c4_1) l4_1) ∧ Aside0 (wc.heap[gb692]? = some (.cells #[.int .i64 a0_0, (.slice (some ad698) l0_1.length c0_1), (.slice A0_2 l0_2.length c0_2)] 73 (0, 0))) ∧ Aside0 (wc.heap[gb693]? = some (.cells #[.int .i64 a4_0, (.slice A4_1 l4_1.length c4_1)] 114 (0, 0))) ∧ Aside0 (wc.heap[gb699]? = some (.cells #[.int .i64 ((rd_T69 l0_1 x27_2).f0), .int .i64 ((rd_T69 l0_1 x27_2).f1)] 69 (0, 0))) ∧ Aside0 (Below w.heap.size w wc))
        case first =>
         have H := HC23.out
         clear HC23
         have c28b0 := eq_true (of_decide_eq_true asz : 0 ≤ x27_2)
         obtain ⟨ji29, hji29⟩ : ∃ j_ : Int, (shr .i64 a1 x27_2) = j_ := ⟨_, rfl⟩
         replace H : (if (Go.bits .and .i64 (ji29) 1) = 0 then (feed_grid_paths.j2 k2 a1 a2 a3 x11_2 x27_2 l0_1 (l0_1.length : Int) x27_2 true a0_0 l0_1 l0_2 a4_0 l4_1 ((rd_T69 l0_1 x27_2).f0) ((rd_T69 l0_1 x27_2).f1)) else (if ((rd_T69 l0_1 x27_2).f0) = a2 then (feed_grid_paths.j2 k2 a1 a2 a3 x11_2 x27_2 l0_1 (l0_1.length : Int) x27_2 false a0_0 l0_1 l0_2 a4_0 l4_1 ((rd_T69 l0_1 x27_2).f0) ((rd_T69 l0_1 x27_2).f1)) else (feed_grid_paths.j2 k2 a1 a2 a3 x11_2 x27_2 l0_1 (l0_1.length : Int) x27_2 (((rd_T69 l0_1 x27_2).f1) != a2) a0_0 l0_1 l0_2 a4_0 l4_1 ((rd_T69 l0_1 x27_2).f0) ((rd_T69 l0_1 x27_2).f1)))) = some r := by first | (rw [hji29] at H; exact H) | (simp only [hji29] at H ⊢; exact H)
         have hji29_ : (a1 / 2 ^ min x27_2.toNat 64) = ji29 := hji29
         have hji29z : x27_2 ≤ 64 → (a1 / 2 ^ x27_2.toNat) = ji29 := shr_small hji29
         by_cases c30 : (Go.bits .and .i64 (ji29) 1) = 0
         ·
          rw [if_pos c30] at H
          have c30b0 : ((Go.bits .and .i64 (ji29) 1) == 0) = true := beq_iff_eq.mpr c30
          have c30b1 : ((Go.bits .and .i64 (ji29) 1) != 0) = false := bne_eq_false_iff_eq.mpr c30
          clear c30
          (first | rw [c30b0] | (simp only [i64_w, i32_w]; rw [c30b0]) | skip)
          have H' := Aside0.mk H
          clear H
          go_wp2
          go_meet
          case rel => exact ⟨_, (true), rsz, H', ⟨by have := HJ6.out; have := HK2.out; first | omega | exact Nat.le_refl _⟩, ⟨by (with_reducible repeat (first | apply Kd.N_alloc | apply Kd.N_drewN | apply Kd.N_drew)); exact Kd.N_mono (Kd.N_far (p := ⟨gb699, 1, none⟩) (Kd.N_far (p := ⟨gb699, 0, none⟩) (Kd.N_mono HO_11.out (fun k_ hk => (⟨hk, hk.2⟩ : _ ∧ k_ ≠ gb699))) (fun _ hk => hk.2) (.int .i64 ((rd_T69 l0_1 x27_2).f0))) (fun _ hk => hk.2) (.int .i64 ((rd_T69 l0_1 x27_2).f1))) (fun _ hk => ⟨hk.1.1.1, ⟨hk.1.1.2.1, ⟨hk.1.1.2.2, hk.1.2⟩⟩⟩)⟩, ⟨by (with_reducible repeat (first | apply Kd.V_alloc | apply Kd.V_drewN | apply Kd.V_drew)); exact Kd.V_mono (Kd.V_far (p := ⟨gb699, 1, none⟩) (Kd.V_far (p := ⟨gb699, 0, none⟩) (Kd.V_mono HO_694001.out (fun k_ hk => (⟨hk, hk.2⟩ : _ ∧ k_ ≠ gb699))) (fun _ hk => hk.2) (.int .i64 ((rd_T69 l0_1 x27_2).f0))) (fun _ hk => hk.2) (.int .i64 ((rd_T69 l0_1 x27_2).f1))) (fun _ hk => ⟨hk.1.1.1, ⟨hk.1.1.2.1, ⟨hk.1.1.2.2.1, ⟨hk.1.1.2.2.2, hk.1.2⟩⟩⟩⟩)⟩, ⟨by (with_reducible repeat (first | refine blk_drewN ?_ _ | refine blk_drew ?_ | refine blk_alloc ?_ _)); refine blk_far ?_ NB692_699.out _; (with_reducible repeat (first | refine blk_drewN ?_ _ | refine blk_drew ?_ | refine blk_alloc ?_ _)); refine blk_far ?_ NB692_699.out _; (with_reducible repeat (first | refine blk_drewN ?_ _ | refine blk_drew ?_ | refine blk_alloc ?_ _)); exact BK692.out⟩, ⟨by (with_reducible repeat (first | refine blk_drewN ?_ _ | refine blk_drew ?_ | refine blk_alloc ?_ _)); refine blk_far ?_ NB693_699.out _; (with_reducible repeat (first | refine blk_drewN ?_ _ | refine blk_drew ?_ | refine blk_alloc ?_ _)); refine blk_far ?_ NB693_699.out _; (with_reducible repeat (first | refine blk_drewN ?_ _ | refine blk_drew ?_ | refine blk_alloc ?_ _)); exact BK693.out⟩, ⟨by (with_reducible repeat (first | refine blk_drewN ?_ _ | refine blk_drew ?_ | refine blk_alloc ?_ _)); refine blk_put (cs := #[.int .i64 ((rd_T69 l0_1 x27_2).f0), .int .i64 0]) ?_ 1 _ rfl; (with_reducible repeat (first | refine blk_drewN ?_ _ | refine blk_drew ?_ | refine blk_alloc ?_ _)); refine blk_put (cs := #[.int .i64 0, .int .i64 0]) ?_ 0 _ rfl; (with_reducible repeat (first | refine blk_drewN ?_ _ | refine blk_drew ?_ | refine blk_alloc ?_ _)); exact BK699.out⟩, ⟨bel⟩⟩
         ·
          rw [if_neg c30] at H
          have c30b0 : ((Go.bits .and .i64 (ji29) 1) == 0) = false := beq_eq_false_iff_ne.mpr c30
          have c30b1 : ((Go.bits .and .i64 (ji29) 1) != 0) = true := bne_iff_ne.mpr c30
          (first | rw [c30b0] | (simp only [i64_w, i32_w]; rw [c30b0]) | skip)
          by_cases c31 : ((rd_T69 l0_1 x27_2).f0) = a2
          ·
           rw [if_pos c31] at H
           have c31b0 : (((rd_T69 l0_1 x27_2).f0) == a2) = true := beq_iff_eq.mpr c31
           have c31b1 : (((rd_T69 l0_1 x27_2).f0) != a2) = false := bne_eq_false_iff_eq.mpr c31
           clear c31
           have H' := Aside0.mk H
           clear H
           have hnb32 := NB699_692.out
           have hnc32 := NB692_699.out
           have hnb33 := NB699_693.out
           have hnc33 := NB693_699.out
           have hcz34_0 := blkc BK699.out 0 (.int .i64 0) rfl
           have hcz34_1 := blkc BK699.out 1 (.int .i64 0) rfl
           have hfz34_0 := blk_frozen BK699.out 0
           have hfz34_1 := blk_frozen BK699.out 1
           go_wp2
           go_meet
           case rel => exact ⟨_, (false), rsz, H', ⟨by have := HJ6.out; have := HK2.out; first | omega | exact Nat.le_refl _⟩, ⟨by (with_reducible repeat (first | apply Kd.N_alloc | apply Kd.N_drewN | apply Kd.N_drew)); exact Kd.N_mono (Kd.N_far (p := ⟨gb699, 1, none⟩) (Kd.N_far (p := ⟨gb699, 0, none⟩) (Kd.N_mono HO_11.out (fun k_ hk => (⟨hk, hk.2⟩ : _ ∧ k_ ≠ gb699))) (fun _ hk => hk.2) (.int .i64 ((rd_T69 l0_1 x27_2).f0))) (fun _ hk => hk.2) (.int .i64 ((rd_T69 l0_1 x27_2).f1))) (fun _ hk => ⟨hk.1.1.1, ⟨hk.1.1.2.1, ⟨hk.1.1.2.2, hk.1.2⟩⟩⟩)⟩, ⟨by (with_reducible repeat (first | apply Kd.V_alloc | apply Kd.V_drewN | apply Kd.V_drew)); exact Kd.V_mono (Kd.V_far (p := ⟨gb699, 1, none⟩) (Kd.V_far (p := ⟨gb699, 0, none⟩) (Kd.V_mono HO_694001.out (fun k_ hk => (⟨hk, hk.2⟩ : _ ∧ k_ ≠ gb699))) (fun _ hk => hk.2) (.int .i64 ((rd_T69 l0_1 x27_2).f0))) (fun _ hk => hk.2) (.int .i64 ((rd_T69 l0_1 x27_2).f1))) (fun _ hk => ⟨hk.1.1.1, ⟨hk.1.1.2.1, ⟨hk.1.1.2.2.1, ⟨hk.1.1.2.2.2, hk.1.2⟩⟩⟩⟩)⟩, ⟨by (with_reducible repeat (first | refine blk_drewN ?_ _ | refine blk_drew ?_ | refine blk_alloc ?_ _)); refine blk_far ?_ NB692_699.out _; (with_reducible repeat (first | refine blk_drewN ?_ _ | refine blk_drew ?_ | refine blk_alloc ?_ _)); refine blk_far ?_ NB692_699.out _; (with_reducible repeat (first | refine blk_drewN ?_ _ | refine blk_drew ?_ | refine blk_alloc ?_ _)); exact BK692.out⟩, ⟨by (with_reducible repeat (first | refine blk_drewN ?_ _ | refine blk_drew ?_ | refine blk_alloc ?_ _)); refine blk_far ?_ NB693_699.out _; (with_reducible repeat (first | refine blk_drewN ?_ _ | refine blk_drew ?_ | refine blk_alloc ?_ _)); refine blk_far ?_ NB693_699.out _; (with_reducible repeat (first | refine blk_drewN ?_ _ | refine blk_drew ?_ | refine blk_alloc ?_ _)); exact BK693.out⟩, ⟨by (with_reducible repeat (first | refine blk_drewN ?_ _ | refine blk_drew ?_ | refine blk_alloc ?_ _)); refine blk_put (cs := #[.int .i64 ((rd_T69 l0_1 x27_2).f0), .int .i64 0]) ?_ 1 _ rfl; (with_reducible repeat (first | refine blk_drewN ?_ _ | refine blk_drew ?_ | refine blk_alloc ?_ _)); refine blk_put (cs := #[.int .i64 0, .int .i64 0]) ?_ 0 _ rfl; (with_reducible repeat (first | refine blk_drewN ?_ _ | refine blk_drew ?_ | refine blk_alloc ?_ _)); exact BK699.out⟩, ⟨bel⟩⟩
          ·
           rw [if_neg c31] at H
           have c31b0 : (((rd_T69 l0_1 x27_2).f0) == a2) = false := beq_eq_false_iff_ne.mpr c31
           have c31b1 : (((rd_T69 l0_1 x27_2).f0) != a2) = true := bne_iff_ne.mpr c31
           have H' := Aside0.mk H
           clear H
           have hnb35 := NB699_692.out
           have hnc35 := NB692_699.out
           have hnb36 := NB699_693.out
           have hnc36 := NB693_699.out
           have hcz37_0 := blkc BK699.out 0 (.int .i64 0) rfl
           have hcz37_1 := blkc BK699.out 1 (.int .i64 0) rfl
           have hfz37_0 := blk_frozen BK699.out 0
           have hfz37_1 := blk_frozen BK699.out 1
           go_wp2
           go_meet
           case rel => exact ⟨_, ((((rd_T69 l0_1 x27_2).f1) != a2)), rsz, H', ⟨by have := HJ6.out; have := HK2.out; first | omega | exact Nat.le_refl _⟩, ⟨by (with_reducible repeat (first | apply Kd.N_alloc | apply Kd.N_drewN | apply Kd.N_drew)); exact Kd.N_mono (Kd.N_far (p := ⟨gb699, 1, none⟩) (Kd.N_far (p := ⟨gb699, 0, none⟩) (Kd.N_mono HO_11.out (fun k_ hk => (⟨hk, hk.2⟩ : _ ∧ k_ ≠ gb699))) (fun _ hk => hk.2) (.int .i64 ((rd_T69 l0_1 x27_2).f0))) (fun _ hk => hk.2) (.int .i64 ((rd_T69 l0_1 x27_2).f1))) (fun _ hk => ⟨hk.1.1.1, ⟨hk.1.1.2.1, ⟨hk.1.1.2.2, hk.1.2⟩⟩⟩)⟩, ⟨by (with_reducible repeat (first | apply Kd.V_alloc | apply Kd.V_drewN | apply Kd.V_drew)); exact Kd.V_mono (Kd.V_far (p := ⟨gb699, 1, none⟩) (Kd.V_far (p := ⟨gb699, 0, none⟩) (Kd.V_mono HO_694001.out (fun k_ hk => (⟨hk, hk.2⟩ : _ ∧ k_ ≠ gb699))) (fun _ hk => hk.2) (.int .i64 ((rd_T69 l0_1 x27_2).f0))) (fun _ hk => hk.2) (.int .i64 ((rd_T69 l0_1 x27_2).f1))) (fun _ hk => ⟨hk.1.1.1, ⟨hk.1.1.2.1, ⟨hk.1.1.2.2.1, ⟨hk.1.1.2.2.2, hk.1.2⟩⟩⟩⟩)⟩, ⟨by (with_reducible repeat (first | refine blk_drewN ?_ _ | refine blk_drew ?_ | refine blk_alloc ?_ _)); refine blk_far ?_ NB692_699.out _; (with_reducible repeat (first | refine blk_drewN ?_ _ | refine blk_drew ?_ | refine blk_alloc ?_ _)); refine blk_far ?_ NB692_699.out _; (with_reducible repeat (first | refine blk_drewN ?_ _ | refine blk_drew ?_ | refine blk_alloc ?_ _)); exact BK692.out⟩, ⟨by (with_reducible repeat (first | refine blk_drewN ?_ _ | refine blk_drew ?_ | refine blk_alloc ?_ _)); refine blk_far ?_ NB693_699.out _; (with_reducible repeat (first | refine blk_drewN ?_ _ | refine blk_drew ?_ | refine blk_alloc ?_ _)); refine blk_far ?_ NB693_699.out _; (with_reducible repeat (first | refine blk_drewN ?_ _ | refine blk_drew ?_ | refine blk_alloc ?_ _)); exact BK693.out⟩, ⟨by (with_reducible repeat (first | refine blk_drewN ?_ _ | refine blk_drew ?_ | refine blk_alloc ?_ _)); refine blk_put (cs := #[.int .i64 ((rd_T69 l0_1 x27_2).f0), .int .i64 0]) ?_ 1 _ rfl; (with_reducible repeat (first | refine blk_drewN ?_ _ | refine blk_drew ?_ | refine blk_alloc ?_ _)); refine blk_put (cs := #[.int .i64 0, .int .i64 0]) ?_ 0 _ rfl; (with_reducible repeat (first | refine blk_drewN ?_ _ | refine blk_drew ?_ | refine blk_alloc ?_ _)); exact BK699.out⟩, ⟨bel⟩⟩
        case rest =>
         clear HC23
         try clear c1
         try clear c2
         try clear p2
         try clear c3
         try clear c4
         try clear c6
         try clear p6
         try clear q6
         try clear hx6
         try clear c8
         try clear c10
         try clear c13
         try clear c14
         try clear c15
         try clear c18
         try clear c20
         try clear c20b0
         try clear c21
         try clear c21b0
         try clear c22
         try clear c22b0
         try clear c25
         try clear c26
         try clear c28
         try clear c28b0
         try clear c30
         try clear c30b0
         try clear c30b1
         try clear c31
         try clear c31b0
         try clear c31b1
         try clear c32
         try clear c33
         try clear c35
         try clear c36
         try clear hcz11_0
         try clear hcz11_1
         try clear hcz11_2
         try clear hcz16_0
         try clear hcz16_1
         try clear hcz19_0
         try clear hcz19_1
         try clear hcz19_2
         try clear hcz27_0
         try clear hcz27_1
         try clear hcz34_0
         try clear hcz34_1
         try clear hcz37_0
         try clear hcz37_1
         try clear hfz11_0
         try clear hfz11_1
         try clear hfz11_2
         try clear hfz16_0
         try clear hfz16_1
         try clear hfz19_0
         try clear hfz19_1
         try clear hfz19_2
         try clear hfz27_0
         try clear hfz27_1
         try clear hfz34_0
         try clear hfz34_1
         try clear hfz37_0
         try clear hfz37_1
         try clear hx698_0
         try clear hx698_1
         try clear p2
         try clear p698
         try clear q698
         obtain ⟨kq, x48_22, rfl, HA, HJ22, HO_11, HO_694001, BK692, BK693, BK699, HB⟩ := hcut
         cases kq with
         | zero => exact absurd HA.out (by simp [feed_grid_paths.j2])
         | succ kj22 =>
          have H := HA.out
          clear HA
          simp only [feed_grid_paths.j2] at H
          by_cases c38 : x48_22 = true
          ·
           subst c38
           have H1 : (feed_grid_paths.l0 kj22 a1 a2 a3 x11_2 l0_1 (l0_1.length : Int) (wrap64 (x27_2 + 1)) a0_0 l0_1 l0_2 a4_0 l4_1) = some r := by rw [if_pos rfl] at H; exact H
           clear H
           have H := H1
           clear H1
           have H' := Aside0.mk H
           clear H
           go_wp2
           go_roundg kj22
           case measure => have := HJ6.out; have := HK2.out; have := HJ22.out; omega
           case rel => exact ⟨(x11_2), (wrap64 (x27_2 + 1)), rsz, H', ⟨by have := HJ6.out; have := HK2.out; have := HJ22.out; omega⟩, ⟨by (with_reducible repeat (first | apply Kd.N_alloc | apply Kd.N_drewN | apply Kd.N_drew)); exact Kd.N_mono HO_11.out (fun _ hk => ⟨hk.1, ⟨hk.2.1, hk.2.2.1⟩⟩)⟩, ⟨by (with_reducible repeat (first | apply Kd.V_alloc | apply Kd.V_drewN | apply Kd.V_drew)); exact Kd.V_mono HO_694001.out (fun _ hk => ⟨hk.1, ⟨hk.2.1, ⟨hk.2.2.1, hk.2.2.2.1⟩⟩⟩)⟩, ⟨blkz⟩, ⟨blkz⟩, ⟨bel⟩⟩
          ·
           replace c38 := Bool.eq_false_iff.mpr c38
           subst c38
           have H1 : (if 0 ≤ (wrap64 ((wrap64 (((rd_T69 l0_1 x27_2).f0) + ((rd_T69 l0_1 x27_2).f1))) - a2)) then (if (Go.bits .and .u64 (shr .u64 a3 (wrap64 ((wrap64 (((rd_T69 l0_1 x27_2).f0) + ((rd_T69 l0_1 x27_2).f1))) - a2))) 1) = 0 then (if 0 ≤ x27_2 then ((some (([x27_2] : List Int) : List Int)).bind fun y700 => (if y700.length + l4_1.length < 17592186044416 then ((feed_grid_paths.f kj22 a0_0 l0_1 l0_2 a1 (wrap64 ((wrap64 (((rd_T69 l0_1 x27_2).f0) + ((rd_T69 l0_1 x27_2).f1))) - a2)) (Go.bits .or .u64 a3 (shl .u64 1 (wrap64 ((wrap64 (((rd_T69 l0_1 x27_2).f0) + ((rd_T69 l0_1 x27_2).f1))) - a2)))) (Go.bits .or .i64 a4_0 (shl .i64 1 x27_2)) (y700 ++ l4_1)).bind fun t707 => (if x11_2.length + t707.length < 4398046511104 then (feed_grid_paths.l0 kj22 a1 a2 a3 (x11_2 ++ t707) l0_1 (l0_1.length : Int) (wrap64 (x27_2 + 1)) a0_0 l0_1 l0_2 a4_0 l4_1) else (none))) else (none))) else (none)) else (feed_grid_paths.l0 kj22 a1 a2 a3 x11_2 l0_1 (l0_1.length : Int) (wrap64 (x27_2 + 1)) a0_0 l0_1 l0_2 a4_0 l4_1)) else (none)) = some r := by rw [if_neg (show ¬ (false = true) by decide)] at H; exact H
           clear H
           have H := H1
           clear H1
           obtain ⟨ji39, hji39⟩ : ∃ j_ : Int, (wrap64 ((wrap64 (((rd_T69 l0_1 x27_2).f0) + ((rd_T69 l0_1 x27_2).f1))) - a2)) = j_ := ⟨_, rfl⟩
           replace H : (if 0 ≤ (ji39) then (if (Go.bits .and .u64 (shr .u64 a3 (ji39)) 1) = 0 then (if 0 ≤ x27_2 then ((some (([x27_2] : List Int) : List Int)).bind fun y700 => (if y700.length + l4_1.length < 17592186044416 then ((feed_grid_paths.f kj22 a0_0 l0_1 l0_2 a1 (ji39) (Go.bits .or .u64 a3 (shl .u64 1 (ji39))) (Go.bits .or .i64 a4_0 (shl .i64 1 x27_2)) (y700 ++ l4_1)).bind fun t707 => (if x11_2.length + t707.length < 4398046511104 then (feed_grid_paths.l0 kj22 a1 a2 a3 (x11_2 ++ t707) l0_1 (l0_1.length : Int) (wrap64 (x27_2 + 1)) a0_0 l0_1 l0_2 a4_0 l4_1) else (none))) else (none))) else (none)) else (feed_grid_paths.l0 kj22 a1 a2 a3 x11_2 l0_1 (l0_1.length : Int) (wrap64 (x27_2 + 1)) a0_0 l0_1 l0_2 a4_0 l4_1)) else (none)) = some r := by first | (rw [hji39] at H; exact H) | (simp only [hji39] at H ⊢; exact H)
           have hji39w : (IntKind.i64.wrap ((wrap64 (((rd_T69 l0_1 x27_2).f0) + ((rd_T69 l0_1 x27_2).f1))) - a2)) = ji39 := (i64_w _).trans hji39
           by_cases c40 : 0 ≤ (ji39)
           ·
            rw [if_pos c40] at H
            have c40b0 := eq_true c40
            have c40b1 : decide (0 ≤ (ji39)) = true := decide_eq_true c40
            clear c40
            obtain ⟨ji41, hji41⟩ : ∃ j_ : Int, (shr .u64 a3 (ji39)) = j_ := ⟨_, rfl⟩
            replace H : (if (Go.bits .and .u64 (ji41) 1) = 0 then (if 0 ≤ x27_2 then ((some (([x27_2] : List Int) : List Int)).bind fun y700 => (if y700.length + l4_1.length < 17592186044416 then ((feed_grid_paths.f kj22 a0_0 l0_1 l0_2 a1 (ji39) (Go.bits .or .u64 a3 (shl .u64 1 (ji39))) (Go.bits .or .i64 a4_0 (shl .i64 1 x27_2)) (y700 ++ l4_1)).bind fun t707 => (if x11_2.length + t707.length < 4398046511104 then (feed_grid_paths.l0 kj22 a1 a2 a3 (x11_2 ++ t707) l0_1 (l0_1.length : Int) (wrap64 (x27_2 + 1)) a0_0 l0_1 l0_2 a4_0 l4_1) else (none))) else (none))) else (none)) else (feed_grid_paths.l0 kj22 a1 a2 a3 x11_2 l0_1 (l0_1.length : Int) (wrap64 (x27_2 + 1)) a0_0 l0_1 l0_2 a4_0 l4_1)) = some r := by first | (rw [hji41] at H; exact H) | (simp only [hji41] at H ⊢; exact H)
            have hji41_ : (a3 / 2 ^ min (ji39).toNat 64) = ji41 := hji41
            have hji41z : (ji39) ≤ 64 → (a3 / 2 ^ (ji39).toNat) = ji41 := shr_small hji41
            by_cases c42 : (Go.bits .and .u64 (ji41) 1) = 0
            ·
             rw [if_pos c42] at H
             have c42b0 : ((Go.bits .and .u64 (ji41) 1) == 0) = true := beq_iff_eq.mpr c42
             have c42b1 : ((Go.bits .and .u64 (ji41) 1) != 0) = false := bne_eq_false_iff_eq.mpr c42
             clear c42
             by_cases c43 : 0 ≤ x27_2
             ·
              rw [if_pos c43] at H
              have c43b0 := eq_true c43
              have c43b1 : decide (0 ≤ x27_2) = true := decide_eq_true c43
              clear c43
              obtain ⟨ji44, hji44⟩ : ∃ j_ : Int, (shl .i64 1 x27_2) = j_ := ⟨_, rfl⟩
              replace H : ((some (([x27_2] : List Int) : List Int)).bind fun y700 => (if y700.length + l4_1.length < 17592186044416 then ((feed_grid_paths.f kj22 a0_0 l0_1 l0_2 a1 (ji39) (Go.bits .or .u64 a3 (shl .u64 1 (ji39))) (Go.bits .or .i64 a4_0 (ji44)) (y700 ++ l4_1)).bind fun t707 => (if x11_2.length + t707.length < 4398046511104 then (feed_grid_paths.l0 kj22 a1 a2 a3 (x11_2 ++ t707) l0_1 (l0_1.length : Int) (wrap64 (x27_2 + 1)) a0_0 l0_1 l0_2 a4_0 l4_1) else (none))) else (none))) = some r := by first | (rw [hji44] at H; exact H) | (simp only [hji44] at H ⊢; exact H)
              have hji44_ : (IntKind.i64.wrap (1 * 2 ^ min x27_2.toNat 64)) = ji44 := hji44
              have hji44z : x27_2 ≤ 64 → (IntKind.i64.wrap (1 * 2 ^ x27_2.toNat)) = ji44 := shl_small hji44
              have hji44u : (IntKind.i64.wrap (2 ^ min x27_2.toNat 64)) = ji44 := by have h_ := hji44_; rw [Int.one_mul] at h_; exact h_
              have hji44v : x27_2 ≤ 64 → (IntKind.i64.wrap (2 ^ x27_2.toNat)) = ji44 := fun hle_ => by have h_ := hji44z hle_; rw [Int.one_mul] at h_; exact h_
              have hji44y : (wrap64 (1 * 2 ^ min x27_2.toNat 64)) = ji44 := (i64_w _).symm.trans hji44_
              have hji44x : x27_2 ≤ 64 → (wrap64 (1 * 2 ^ x27_2.toNat)) = ji44 := fun h_ => (i64_w _).symm.trans (hji44z h_)
              obtain ⟨y700, hy700⟩ : ∃ y_ : List Int, y_ = (([x27_2] : List Int)) := ⟨_, rfl⟩
              replace H : (if y700.length + l4_1.length < 17592186044416 then ((feed_grid_paths.f kj22 a0_0 l0_1 l0_2 a1 (ji39) (Go.bits .or .u64 a3 (shl .u64 1 (ji39))) (Go.bits .or .i64 a4_0 (ji44)) (y700 ++ l4_1)).bind fun t707 => (if x11_2.length + t707.length < 4398046511104 then (feed_grid_paths.l0 kj22 a1 a2 a3 (x11_2 ++ t707) l0_1 (l0_1.length : Int) (wrap64 (x27_2 + 1)) a0_0 l0_1 l0_2 a4_0 l4_1) else (none))) else (none)) = some r := by first | (rw [hy700]; with_reducible exact H) | (have H2_ := (Option.bind_some _ _).symm.trans H; rw [hy700]; with_reducible exact H2_) | (have H2_ := (Option.bind_some _ _).symm.trans H; with_reducible exact H2_) | with_reducible exact H | (rw [hy700]; exact H) | exact H
              have Ny700 := Aside0.mk hy700
              clear hy700
              by_cases c45 : y700.length + l4_1.length < 17592186044416
              ·
               rw [if_pos c45] at H
               have LMc45 := Aside0.mk c45
               clear c45
               obtain ⟨y703, hy703⟩ : ∃ y_ : List Int, y_ = (y700 ++ l4_1) := ⟨_, rfl⟩
               replace H : ((feed_grid_paths.f kj22 a0_0 l0_1 l0_2 a1 (ji39) (Go.bits .or .u64 a3 (shl .u64 1 (ji39))) (Go.bits .or .i64 a4_0 (ji44)) y703).bind fun t707 => (if x11_2.length + t707.length < 4398046511104 then (feed_grid_paths.l0 kj22 a1 a2 a3 (x11_2 ++ t707) l0_1 (l0_1.length : Int) (wrap64 (x27_2 + 1)) a0_0 l0_1 l0_2 a4_0 l4_1) else (none))) = some r := by first | (rw [hy703]; with_reducible exact H) | (have H2_ := (Option.bind_some _ _).symm.trans H; rw [hy703]; with_reducible exact H2_) | (have H2_ := (Option.bind_some _ _).symm.trans H; with_reducible exact H2_) | with_reducible exact H | (rw [hy703]; exact H) | exact H
               have Ny703 := Aside0.mk hy703
               clear hy703
               have c46b0 := eq_true (of_decide_eq_true asz : 0 ≤ (ji39))
               obtain ⟨ji47, hji47⟩ : ∃ j_ : Int, (shl .u64 1 (ji39)) = j_ := ⟨_, rfl⟩
               replace H : ((feed_grid_paths.f kj22 a0_0 l0_1 l0_2 a1 (ji39) (Go.bits .or .u64 a3 (ji47)) (Go.bits .or .i64 a4_0 (ji44)) y703).bind fun t707 => (if x11_2.length + t707.length < 4398046511104 then (feed_grid_paths.l0 kj22 a1 a2 a3 (x11_2 ++ t707) l0_1 (l0_1.length : Int) (wrap64 (x27_2 + 1)) a0_0 l0_1 l0_2 a4_0 l4_1) else (none))) = some r := by first | (rw [hji47] at H; exact H) | (simp only [hji47] at H ⊢; exact H)
               have hji47_ : (IntKind.u64.wrap (1 * 2 ^ min (ji39).toNat 64)) = ji47 := hji47
               have hji47z : (ji39) ≤ 64 → (IntKind.u64.wrap (1 * 2 ^ (ji39).toNat)) = ji47 := shl_small hji47
               have hji47u : (IntKind.u64.wrap (2 ^ min (ji39).toNat 64)) = ji47 := by have h_ := hji47_; rw [Int.one_mul] at h_; exact h_
               have hji47v : (ji39) ≤ 64 → (IntKind.u64.wrap (2 ^ (ji39).toNat)) = ji47 := fun hle_ => by have h_ := hji47z hle_; rw [Int.one_mul] at h_; exact h_
               replace H := Option.bind_eq_some_iff.mp H
               obtain ⟨t707, A480, H⟩ := H
               replace H : (if x11_2.length + t707.length < 4398046511104 then (feed_grid_paths.l0 kj22 a1 a2 a3 (x11_2 ++ t707) l0_1 (l0_1.length : Int) (wrap64 (x27_2 + 1)) a0_0 l0_1 l0_2 a4_0 l4_1) else (none)) = some r := H
               have A48 := Aside0.mk A480
               clear A480
               by_cases c49 : x11_2.length + t707.length < 4398046511104
               ·
                rw [if_pos c49] at H
                have LMc49 := Aside0.mk c49
                clear c49
                obtain ⟨y710, hy710⟩ : ∃ y_ : List (S114), y_ = (x11_2 ++ t707) := ⟨_, rfl⟩
                replace H : (feed_grid_paths.l0 kj22 a1 a2 a3 y710 l0_1 (l0_1.length : Int) (wrap64 (x27_2 + 1)) a0_0 l0_1 l0_2 a4_0 l4_1) = some r := by first | (rw [hy710]; with_reducible exact H) | (have H2_ := (Option.bind_some _ _).symm.trans H; rw [hy710]; with_reducible exact H2_) | (have H2_ := (Option.bind_some _ _).symm.trans H; with_reducible exact H2_) | with_reducible exact H | (rw [hy710]; exact H) | exact H
                have Ny710 := Aside0.mk hy710
                clear hy710
                have H' := Aside0.mk H
                clear H
                have hnb50 := NB699_692.out
                have hnc50 := NB692_699.out
                have hnb51 := NB699_693.out
                have hnc51 := NB693_699.out
                have hcz52_0 := blkc BK699.out 0 (.int .i64 ((rd_T69 l0_1 x27_2).f0)) rfl
                have hcz52_1 := blkc BK699.out 1 (.int .i64 ((rd_T69 l0_1 x27_2).f1)) rfl
                have hfz52_0 := blk_frozen BK699.out 0
                have hfz52_1 := blk_frozen BK699.out 1
                try go_wp2
                have n0_ := Aside0.mk (Kd.N_drew HO_11.out)
                have n1_ := Aside0.mk (Kd.V_drew HO_694001.out)
                have n2_ := Aside0.mk (blk_drew BK692.out)
                have n3_ := Aside0.mk (blk_drew BK693.out)
                have n4_ := Aside0.mk (blk_drew BK699.out)
                have n5_ := Aside0.mk (below_drew1 HB.out)
                clear HO_11
                clear HO_694001
                clear BK692
                clear BK693
                clear BK699
                clear HB
                have HO_11 := n0_
                have HO_694001 := n1_
                have BK692 := n2_
                have BK693 := n3_
                have BK699 := n4_
                have HB := n5_
                clear n0_ n1_ n2_ n3_ n4_ n5_
                refine start_ (n := 13) (S := fun w' => w'.cell? ⟨gb693, 0, none⟩ = some (.int .i64 a4_0) ∧ w'.cell? ⟨gb693, 1, none⟩ = some (.slice A4_1 l4_1.length c4_1)) (ds := []) #[false, false, false, false, false, false, false, false, false, false, false, false, false] (by kernel_rfl) rfl rfl ⟨(blk_cell BK693.out 0).trans rfl, (blk_cell BK693.out 1).trans rfl⟩ (fun hHeld => ?_); refine with_tabW feed_grid_paths.tab10 feed_grid_paths.bits10 (fun HT_ HW_ => ?_)
                generalize wc.drew = w53 at HO_11 HO_694001 BK692 BK693 BK699 HB hHeld ⊢
                refine pst (i := 0) (N := some 61) (bz 13 1) (any_of HT_.out (by kernel_rfl)) ?_
                refine pst (i := 2) (N := some 63) (bz 13 5) (any_of HT_.out (by kernel_rfl)) ?_
                refine pst (i := 3) (N := some 64) (bz 13 13) (any_of HT_.out (by kernel_rfl)) ?_
                refine pst (i := 5) (N := some 66) (bz 13 45) (any_of HT_.out (by kernel_rfl)) ?_
                refine pst (i := 7) (N := some 68) (bz 13 173) (any_of HT_.out (by kernel_rfl)) ?_
                refine tst2 (i := 1) (N := some 62) (bz 13 175) (take_ofW HT_.out HW_.out (by kernel_rfl)) hHeld ?_
                refine pst (i := 4) (N := some 65) (bz 13 191) (any_of HT_.out (by kernel_rfl)) ?_
                refine tst2 (i := 8) (N := some 69) (bz 13 447) (take_ofW HT_.out HW_.out (by kernel_rfl)) hHeld ?_
                refine join_ (σ := Value × Value × Nat) 1 #[true, true, true, true, true, true, true, true, true, true, true, true, false] (fun s_ => [(67, s_.1), (70, s_.2.1), (15, .pointer (some ⟨s_.2.2, 0, none⟩)), (71, .agg #[.int .i64 (Go.bits .or .i64 a4_0 (ji44)), s_.2.1])]) (fun s_ w' => (w'.cell? ⟨gb693, 0, none⟩ = some (.int .i64 a4_0) ∧ w'.cell? ⟨gb693, 1, none⟩ = some (.slice A4_1 l4_1.length c4_1)) ∧ (Kd.R (Kd.int .i64) 3 w' w.heap.size (fun k_ => (w.heap.size ≤ k_)) s_.2.1 y703) ∧ (Kd.N k114 114 w' w.heap.size (fun k_ => (P4_1_ k_ ∨ w.heap.size ≤ k_) ∧ some k_ ≠ (s_.2.1 : Value).ownBlock ∧ k_ ≠ gb692 ∧ k_ ≠ gb693 ∧ k_ ≠ gb699 ∧ k_ ≠ s_.2.2) u11 x11_2) ∧ (Kd.V (Kd.int .i64) 3 w' w.heap.size (fun k_ => (P4_1_ k_ ∨ w.heap.size ≤ k_) ∧ some k_ ≠ (s_.2.1 : Value).ownBlock ∧ some k_ ≠ (u11 : Value).ownBlock ∧ k_ ≠ gb692 ∧ k_ ≠ gb693 ∧ k_ ≠ gb699 ∧ k_ ≠ s_.2.2) (.slice A4_1 l4_1.length c4_1) l4_1) ∧ (w'.heap[gb692]? = some (.cells #[.int .i64 a0_0, .slice (some ad698) l0_1.length c0_1, .slice A0_2 l0_2.length c0_2] 73 (0, 0))) ∧ (w'.heap[gb693]? = some (.cells #[.int .i64 a4_0, .slice A4_1 l4_1.length c4_1] 114 (0, 0))) ∧ (w'.heap[gb699]? = some (.cells #[.int .i64 ((rd_T69 l0_1 x27_2).f0), .int .i64 ((rd_T69 l0_1 x27_2).f1)] 69 (0, 0))) ∧ (w'.heap[s_.2.2]? = some (.cells #[.int .i64 0, .slice none 0 0] 114 (0, 0))) ∧ (w.heap.size ≤ s_.2.2) ∧ (w.heap.size ≤ s_.2.2) ∧ (gb692 ≠ s_.2.2) ∧ (s_.2.2 ≠ gb692) ∧ (gb693 ≠ s_.2.2) ∧ (s_.2.2 ≠ gb693) ∧ (gb699 ≠ s_.2.2) ∧ (s_.2.2 ≠ gb699) ∧ (Below w.heap.size w w')) ?_ ?_
                rotate_left
                ·
                 intro hCont
                 refine two_ (i := 6) (j := 11) (Ni := some 67) (Nj := some 15) #[true, true, true, true, true, true, true, true, true, false, false, false, false] #[true, true, true, true, true, true, false, true, true, false, false, true, false] rfl rfl rfl rfl (two_of HT_.out (by kernel_rfl)) (by decide) (by decide) (fun K hK => ?_) (fun K hK => ?_)
                 ·
                  skip
                  refine Kd.R_lit_step (Kd.int .i64) _ 3 ?hg (N := 67) ?hd (xs := ([x27_2] : List Int)) (inner := [.int .i64 x27_2]) (ok := fun _ => True) (okp := fun _ => True) ?hr ?hp (fun _ hk => hk) trivial (Below.refl _ _) (Nat.le_refl _) (by simp) ?_; (case hd => rfl); (case hg => rfl); (case hr => first | (go_simp; done) | (go_simp; rfl)); (case hp => exact (Reps.one (show Kd.M (Kd.int .i64) _ _ _ x27_2 [.int .i64 x27_2] from rfl) (Reps.none _ _)))
                  intro v701 w54 ho55 hb hg_ hnew_
                  clear hg_ hnew_
                  (first | rw [← Ny700.out] at ho55 | (simp only [Int.reduceToNat] at ho55; rw [← Ny700.out] at ho55))
                  have n0_ := Aside0.mk (Kd.N_elder' (by (with_reducible repeat (first | apply Kd.N_alloc | apply Kd.N_drewN | apply Kd.N_drew)); exact HO_11.out) (Kd.R_base ho55) hb)
                  have n1_ := Aside0.mk (Kd.V_elder' (by (with_reducible repeat (first | apply Kd.V_alloc | apply Kd.V_drewN | apply Kd.V_drew)); exact HO_694001.out) (Kd.R_base ho55) hb)
                  have n2_ := Aside0.mk (Kd.R_lower (Kd.R_newM (M := fun k_ => (w.heap.size ≤ k_)) ho55 (below_size bel) (fun k_ h_ => h_)) (below_size bel))
                  have n3_ := Aside0.mk (blk_below (g := gb692) blkz hb)
                  have n4_ := Aside0.mk (blk_below (g := gb693) blkz hb)
                  have n5_ := Aside0.mk (blk_below (g := gb699) blkz hb)
                  have n6_ := Aside0.mk (below_step bel hb)
                  clear HO_11
                  clear HO_694001
                  clear BK692
                  clear BK693
                  clear BK699
                  clear HB
                  have HO_11 := n0_
                  have HO_694001 := n1_
                  have HO702 := n2_
                  have BK692 := n3_
                  have BK693 := n4_
                  have BK699 := n5_
                  have HB := n6_
                  clear n0_ n1_ n2_ n3_ n4_ n5_ n6_
                  clear hb ho55
                  refine hK.out _ _ ⟨(blk_cell BK693.out 0).trans rfl, (blk_cell BK693.out 1).trans rfl⟩ (fun hHeld => ?_)
                  clear hK K
                  refine norm_ (a' := ?_) ?_ ?_
                  rotate_left
                  ·
                   show Act.put _ (some 67) _ = _
                   simp only [Act.put, List.setIfInBounds_toArray, List.set_cons_zero, List.set_cons_succ, i64_w, i32_w]
                   rfl
                  refine two_ (i := 9) (j := 11) (Ni := some 70) (Nj := some 15) #[true, true, true, true, true, true, true, true, true, true, false, false, false] #[true, true, true, true, true, true, true, true, true, false, false, true, false] rfl rfl rfl rfl (two_of HT_.out (by kernel_rfl)) (by decide) (by decide) (fun K hK => ?_) (fun K hK => ?_)
                  ·
                   skip
                   refine Kd.R_append_rows_step (Kd.int .i64) (w0 := w) w.heap.size (by rfl) (.tmp 67) (.tmp 69) 28 3 (.int .i64 0) 8 rfl Tryd.underlying28 info3 rfl (by decide) (by omega) v701 y700 l4_1 _ _ _ (fun k_ => (w.heap.size ≤ k_)) (fun _ => False) rfl rfl ?aO ?aR (fun _ _ h => h) (fun _ h => h.elim) ?aF ?aB ?aS ?aL ?_
                   (case aR => repeat (first | exact (Kd.V_reads' HO_694001.out).2.2 | (with_reducible refine Kd.C_alloc ?_ _) | (with_reducible refine Kd.C_drewN ?_ _) | (with_reducible refine Kd.C_drew ?_)))
                   (case aB => exact bel)
                   (case aF => exact (fun k_ hk => (Nat.le_trans (below_size bel) hk)))
                   (case aO => exact (by (with_reducible repeat (first | apply Kd.R_alloc | apply Kd.R_drewN | apply Kd.R_drew)); exact Kd.R_mono HO702.out (fun _ hk => hk.1)))
                   (case aS => exact (below_size bel))
                   (case aL => have := LMc45.out; omega)
                   intro v704 w56 ho hb hg hat
                   rw [← Ny703.out] at ho
                   have n0_ := Aside0.mk (Kd.N_afterv (ok := (fun k_ => (P4_1_ k_ ∨ w.heap.size ≤ k_) ∧ k_ ≠ gb692 ∧ k_ ≠ gb693 ∧ k_ ≠ gb699)) (by (with_reducible repeat (first | apply Kd.N_alloc | apply Kd.N_drewN | apply Kd.N_drew)); exact HO_11.out) hg hat)
                   have n1_ := Aside0.mk (Kd.V_afterv (ok := (fun k_ => (P4_1_ k_ ∨ w.heap.size ≤ k_) ∧ some k_ ≠ (u11 : Value).ownBlock ∧ k_ ≠ gb692 ∧ k_ ≠ gb693 ∧ k_ ≠ gb699)) (by (with_reducible repeat (first | apply Kd.V_alloc | apply Kd.V_drewN | apply Kd.V_drew)); exact HO_694001.out) hg hat)
                   have n2_ := Aside0.mk (blk_grown (g := gb692) (o := .cells #[.int .i64 a0_0, .slice (some ad698) l0_1.length c0_1, .slice A0_2 l0_2.length c0_2] 73 (0, 0)) blkz hg (Kd.R_ne HO702.out BK692.out (by decide)))
                   have n3_ := Aside0.mk (blk_grown (g := gb693) (o := .cells #[.int .i64 a4_0, .slice A4_1 l4_1.length c4_1] 114 (0, 0)) blkz hg (Kd.R_ne HO702.out BK693.out (by decide)))
                   have n4_ := Aside0.mk (blk_grown (g := gb699) (o := .cells #[.int .i64 ((rd_T69 l0_1 x27_2).f0), .int .i64 ((rd_T69 l0_1 x27_2).f1)] 69 (0, 0)) blkz hg (Kd.R_ne HO702.out BK699.out (by decide)))
                   have n5_ := Aside0.mk (hb)
                   have n6_ := Aside0.mk (ho)
                   clear HO_11
                   clear HO_694001
                   clear BK692
                   clear BK693
                   clear BK699
                   clear HB
                   clear HO702
                   have HO_11 := n0_
                   have HO_694001 := n1_
                   have BK692 := n2_
                   have BK693 := n3_
                   have BK699 := n4_
                   have HB := n5_
                   have HO705 := n6_
                   clear n0_ n1_ n2_ n3_ n4_ n5_ n6_
                   clear ho hb hg hat
                   obtain ⟨Ao57, co57, eo57⟩ := Kd.R_slice HO705.out
                   (first | subst eo57 | (injection eo57 with f1_ f2_ f3_; have f4_ := f1_.symm; have f5_ := f3_.symm; clear f1_ f2_ f3_; subst f4_; subst f5_))
                   refine hK.out _ _ ⟨(blk_cell BK693.out 0).trans rfl, (blk_cell BK693.out 1).trans rfl⟩ (fun hHeld => ?_)
                   clear hK K
                   refine norm_ (a' := ?_) ?_ ?_
                   rotate_left
                   ·
                    show Act.put _ (some 70) _ = _
                    simp only [Act.put, List.setIfInBounds_toArray, List.set_cons_zero, List.set_cons_succ, i64_w, i32_w]
                    rfl
                   refine pst (i := 10) (N := some 71) (bz 13 2047) (any_of HT_.out (by kernel_rfl)) ?_
                   refine one_ (i := 11) (N := some 15) #[true, true, true, true, true, true, true, true, true, true, true, true, false] rfl rfl (one_of HT_.out (by kernel_rfl)) (by decide) (fun K hK => ?_)
                   refine box_step ?hg (N := 15) ?hd (cs := #[.int .i64 0, .slice none 0 0]) (t := 114) ?hr ?_; (case hd => rfl); (case hg => rfl); (case hr => first | (go_simp; done) | (go_simp; rfl))
                   intro gb706 hg w58 hbox hb
                   have n0_ := Aside0.mk (Kd.N_below (Kd.N_elderB (by (with_reducible repeat (first | apply Kd.N_alloc | apply Kd.N_drewN | apply Kd.N_drew)); exact HO_11.out) gb706 (Nat.le_of_eq hg.symm)) hb)
                   have n1_ := Aside0.mk (Kd.V_below (Kd.V_elderB (by (with_reducible repeat (first | apply Kd.V_alloc | apply Kd.V_drewN | apply Kd.V_drew)); exact HO_694001.out) gb706 (Nat.le_of_eq hg.symm)) hb)
                   have n2_ := Aside0.mk (Kd.R_below (ownx HO705) hb)
                   have n3_ := Aside0.mk (blk_below (g := gb692) blkz hb)
                   have n4_ := Aside0.mk (blk_below (g := gb693) blkz hb)
                   have n5_ := Aside0.mk (blk_below (g := gb699) blkz hb)
                   have n6_ := Aside0.mk (below_step bel hb)
                   have n7_ := Aside0.mk (hbox)
                   have n8_ := bsz (w := w) hg
                   have n9_ := bsz (w := w) hg
                   have n10_ := neL (g := gb692) hg
                   have n11_ := neR (g := gb692) hg
                   have n12_ := neL (g := gb693) hg
                   have n13_ := neR (g := gb693) hg
                   have n14_ := neL (g := gb699) hg
                   have n15_ := neR (g := gb699) hg
                   clear HO_11
                   clear HO_694001
                   clear HO705
                   clear BK692
                   clear BK693
                   clear BK699
                   clear HB
                   have HO_11 := n0_
                   have HO_694001 := n1_
                   have HO705 := n2_
                   have BK692 := n3_
                   have BK693 := n4_
                   have BK699 := n5_
                   have HB := n6_
                   have BK706 := n7_
                   have GW706 := n8_
                   have GE706 := n9_
                   have NB692_706 := n10_
                   have NB706_692 := n11_
                   have NB693_706 := n12_
                   have NB706_693 := n13_
                   have NB699_706 := n14_
                   have NB706_699 := n15_
                   clear n0_ n1_ n2_ n3_ n4_ n5_ n6_ n7_ n8_ n9_ n10_ n11_ n12_ n13_ n14_ n15_
                   clear hb hbox hg
                   refine hK.out _ _ ⟨(blk_cell BK693.out 0).trans rfl, (blk_cell BK693.out 1).trans rfl⟩ (fun hHeld => ?_)
                   clear hK K
                   refine norm_ (a' := ?_) ?_ ?_
                   rotate_left
                   ·
                    show Act.put _ (some 15) _ = _
                    simp only [Act.put, List.setIfInBounds_toArray, List.set_cons_zero, List.set_cons_succ, i64_w, i32_w]
                    rfl
                   exact norm_ (by simp only [putAll, Act.put, List.setIfInBounds_toArray, List.set_cons_zero, List.set_cons_succ]) (hCont (v701, .slice Ao57 y703.length co57, gb706) _ ⟨hHeld, (ownx HO705), (by (with_reducible repeat (first | apply Kd.N_alloc | apply Kd.N_drewN | apply Kd.N_drew)); exact Kd.N_mono HO_11.out (fun _ hk => ⟨hk.1.1.1, ⟨hk.1.2, ⟨hk.1.1.2.1, ⟨hk.1.1.2.2.1, ⟨hk.1.1.2.2.2, hk.2⟩⟩⟩⟩⟩)), (by (with_reducible repeat (first | apply Kd.V_alloc | apply Kd.V_drewN | apply Kd.V_drew)); exact Kd.V_mono HO_694001.out (fun _ hk => ⟨hk.1.1.1, ⟨hk.1.2, ⟨hk.1.1.2.1, ⟨hk.1.1.2.2.1, ⟨hk.1.1.2.2.2.1, ⟨hk.1.1.2.2.2.2, hk.2⟩⟩⟩⟩⟩⟩)), blkz, blkz, blkz, blkz, GW706.out, GE706.out, NB692_706.out, NB706_692.out, NB693_706.out, NB706_693.out, NB699_706.out, NB706_699.out, bel⟩)
                  ·
                   skip
                   refine box_step ?hg (N := 15) ?hd (cs := #[.int .i64 0, .slice none 0 0]) (t := 114) ?hr ?_; (case hd => rfl); (case hg => rfl); (case hr => first | (go_simp; done) | (go_simp; rfl))
                   intro gb706 hg w56 hbox hb
                   have n0_ := Aside0.mk (Kd.N_below (Kd.N_elderB (by (with_reducible repeat (first | apply Kd.N_alloc | apply Kd.N_drewN | apply Kd.N_drew)); exact HO_11.out) gb706 (Nat.le_of_eq hg.symm)) hb)
                   have n1_ := Aside0.mk (Kd.V_below (Kd.V_elderB (by (with_reducible repeat (first | apply Kd.V_alloc | apply Kd.V_drewN | apply Kd.V_drew)); exact HO_694001.out) gb706 (Nat.le_of_eq hg.symm)) hb)
                   have n2_ := Aside0.mk (Kd.R_below (ownx HO702) hb)
                   have n3_ := Aside0.mk (blk_below (g := gb692) blkz hb)
                   have n4_ := Aside0.mk (blk_below (g := gb693) blkz hb)
                   have n5_ := Aside0.mk (blk_below (g := gb699) blkz hb)
                   have n6_ := Aside0.mk (below_step bel hb)
                   have n7_ := Aside0.mk (hbox)
                   have n8_ := bsz (w := w) hg
                   have n9_ := bsz (w := w) hg
                   have n10_ := neL (g := gb692) hg
                   have n11_ := neR (g := gb692) hg
                   have n12_ := neL (g := gb693) hg
                   have n13_ := neR (g := gb693) hg
                   have n14_ := neL (g := gb699) hg
                   have n15_ := neR (g := gb699) hg
                   clear HO_11
                   clear HO_694001
                   clear HO702
                   clear BK692
                   clear BK693
                   clear BK699
                   clear HB
                   have HO_11 := n0_
                   have HO_694001 := n1_
                   have HO702 := n2_
                   have BK692 := n3_
                   have BK693 := n4_
                   have BK699 := n5_
                   have HB := n6_
                   have BK706 := n7_
                   have GW706 := n8_
                   have GE706 := n9_
                   have NB692_706 := n10_
                   have NB706_692 := n11_
                   have NB693_706 := n12_
                   have NB706_693 := n13_
                   have NB699_706 := n14_
                   have NB706_699 := n15_
                   clear n0_ n1_ n2_ n3_ n4_ n5_ n6_ n7_ n8_ n9_ n10_ n11_ n12_ n13_ n14_ n15_
                   clear hb hbox hg
                   refine hK.out _ _ ⟨(blk_cell BK693.out 0).trans rfl, (blk_cell BK693.out 1).trans rfl⟩ (fun hHeld => ?_)
                   clear hK K
                   refine norm_ (a' := ?_) ?_ ?_
                   rotate_left
                   ·
                    show Act.put _ (some 15) _ = _
                    simp only [Act.put, List.setIfInBounds_toArray, List.set_cons_zero, List.set_cons_succ, i64_w, i32_w]
                    rfl
                   refine one_ (i := 9) (N := some 70) #[true, true, true, true, true, true, true, true, true, true, false, true, false] rfl rfl (one_of HT_.out (by kernel_rfl)) (by decide) (fun K hK => ?_)
                   refine Kd.R_append_rows_step (Kd.int .i64) (w0 := w) w.heap.size (by rfl) (.tmp 67) (.tmp 69) 28 3 (.int .i64 0) 8 rfl Tryd.underlying28 info3 rfl (by decide) (by omega) v701 y700 l4_1 _ _ _ (fun k_ => (w.heap.size ≤ k_)) (fun _ => False) rfl rfl ?aO ?aR (fun _ _ h => h) (fun _ h => h.elim) ?aF ?aB ?aS ?aL ?_
                   (case aR => repeat (first | exact (Kd.V_reads' HO_694001.out).2.2 | (with_reducible refine Kd.C_alloc ?_ _) | (with_reducible refine Kd.C_drewN ?_ _) | (with_reducible refine Kd.C_drew ?_)))
                   (case aB => exact bel)
                   (case aF => exact (fun k_ hk => (Nat.le_trans (below_size bel) hk)))
                   (case aO => exact (by (with_reducible repeat (first | apply Kd.R_alloc | apply Kd.R_drewN | apply Kd.R_drew)); exact Kd.R_mono HO702.out (fun _ hk => hk.1)))
                   (case aS => exact (below_size bel))
                   (case aL => have := LMc45.out; omega)
                   intro v704 w57 ho hb hg hat
                   rw [← Ny703.out] at ho
                   have n0_ := Aside0.mk (Kd.N_afterv (ok := (fun k_ => (P4_1_ k_ ∨ w.heap.size ≤ k_) ∧ k_ ≠ gb692 ∧ k_ ≠ gb693 ∧ k_ ≠ gb699 ∧ k_ ≠ gb706)) (by (with_reducible repeat (first | apply Kd.N_alloc | apply Kd.N_drewN | apply Kd.N_drew)); exact Kd.N_mono HO_11.out (fun _ hk => ⟨⟨hk.1.1.1, ⟨hk.1.1.2.1, ⟨hk.1.1.2.2.1, ⟨hk.1.1.2.2.2, hk.2⟩⟩⟩⟩, hk.1.2⟩)) hg hat)
                   have n1_ := Aside0.mk (Kd.V_afterv (ok := (fun k_ => (P4_1_ k_ ∨ w.heap.size ≤ k_) ∧ some k_ ≠ (u11 : Value).ownBlock ∧ k_ ≠ gb692 ∧ k_ ≠ gb693 ∧ k_ ≠ gb699 ∧ k_ ≠ gb706)) (by (with_reducible repeat (first | apply Kd.V_alloc | apply Kd.V_drewN | apply Kd.V_drew)); exact Kd.V_mono HO_694001.out (fun _ hk => ⟨⟨hk.1.1.1, ⟨hk.1.1.2.1, ⟨hk.1.1.2.2.1, ⟨hk.1.1.2.2.2.1, ⟨hk.1.1.2.2.2.2, hk.2⟩⟩⟩⟩⟩, hk.1.2⟩)) hg hat)
                   have n2_ := Aside0.mk (blk_grown (g := gb692) (o := .cells #[.int .i64 a0_0, .slice (some ad698) l0_1.length c0_1, .slice A0_2 l0_2.length c0_2] 73 (0, 0)) blkz hg (Kd.R_ne HO702.out BK692.out (by decide)))
                   have n3_ := Aside0.mk (blk_grown (g := gb693) (o := .cells #[.int .i64 a4_0, .slice A4_1 l4_1.length c4_1] 114 (0, 0)) blkz hg (Kd.R_ne HO702.out BK693.out (by decide)))
                   have n4_ := Aside0.mk (blk_grown (g := gb699) (o := .cells #[.int .i64 ((rd_T69 l0_1 x27_2).f0), .int .i64 ((rd_T69 l0_1 x27_2).f1)] 69 (0, 0)) blkz hg (Kd.R_ne HO702.out BK699.out (by decide)))
                   have n5_ := Aside0.mk (blk_grown (g := gb706) (o := .cells #[.int .i64 0, .slice none 0 0] 114 (0, 0)) blkz hg (Kd.R_ne HO702.out BK706.out (by decide)))
                   have n6_ := Aside0.mk (hb)
                   have n7_ := Aside0.mk (ho)
                   clear HO_11
                   clear HO_694001
                   clear BK692
                   clear BK693
                   clear BK699
                   clear BK706
                   clear HB
                   clear HO702
                   have HO_11 := n0_
                   have HO_694001 := n1_
                   have BK692 := n2_
                   have BK693 := n3_
                   have BK699 := n4_
                   have BK706 := n5_
                   have HB := n6_
                   have HO705 := n7_
                   clear n0_ n1_ n2_ n3_ n4_ n5_ n6_ n7_
                   clear ho hb hg hat
                   obtain ⟨Ao58, co58, eo58⟩ := Kd.R_slice HO705.out
                   (first | subst eo58 | (injection eo58 with f1_ f2_ f3_; have f4_ := f1_.symm; have f5_ := f3_.symm; clear f1_ f2_ f3_; subst f4_; subst f5_))
                   refine hK.out _ _ ⟨(blk_cell BK693.out 0).trans rfl, (blk_cell BK693.out 1).trans rfl⟩ (fun hHeld => ?_)
                   clear hK K
                   refine norm_ (a' := ?_) ?_ ?_
                   rotate_left
                   ·
                    show Act.put _ (some 70) _ = _
                    simp only [Act.put, List.setIfInBounds_toArray, List.set_cons_zero, List.set_cons_succ, i64_w, i32_w]
                    rfl
                   refine pst (i := 10) (N := some 71) (bz 13 4095) (any_of HT_.out (by kernel_rfl)) ?_
                   exact norm_ (by simp only [putAll, Act.put, List.setIfInBounds_toArray, List.set_cons_zero, List.set_cons_succ]) (hCont (v701, .slice Ao58 y703.length co58, gb706) _ ⟨hHeld, (ownx HO705), (by (with_reducible repeat (first | apply Kd.N_alloc | apply Kd.N_drewN | apply Kd.N_drew)); exact Kd.N_mono HO_11.out (fun _ hk => ⟨hk.1.1, ⟨hk.2, ⟨hk.1.2.1, ⟨hk.1.2.2.1, ⟨hk.1.2.2.2.1, hk.1.2.2.2.2⟩⟩⟩⟩⟩)), (by (with_reducible repeat (first | apply Kd.V_alloc | apply Kd.V_drewN | apply Kd.V_drew)); exact Kd.V_mono HO_694001.out (fun _ hk => ⟨hk.1.1, ⟨hk.2, ⟨hk.1.2.1, ⟨hk.1.2.2.1, ⟨hk.1.2.2.2.1, ⟨hk.1.2.2.2.2.1, hk.1.2.2.2.2.2⟩⟩⟩⟩⟩⟩)), blkz, blkz, blkz, blkz, GW706.out, GE706.out, NB692_706.out, NB706_692.out, NB693_706.out, NB706_693.out, NB699_706.out, NB706_699.out, bel⟩)
                 ·
                  skip
                  refine box_step ?hg (N := 15) ?hd (cs := #[.int .i64 0, .slice none 0 0]) (t := 114) ?hr ?_; (case hd => rfl); (case hg => rfl); (case hr => first | (go_simp; done) | (go_simp; rfl))
                  intro gb706 hg w54 hbox hb
                  have n0_ := Aside0.mk (Kd.N_below (Kd.N_elderB (by (with_reducible repeat (first | apply Kd.N_alloc | apply Kd.N_drewN | apply Kd.N_drew)); exact HO_11.out) gb706 (Nat.le_of_eq hg.symm)) hb)
                  have n1_ := Aside0.mk (Kd.V_below (Kd.V_elderB (by (with_reducible repeat (first | apply Kd.V_alloc | apply Kd.V_drewN | apply Kd.V_drew)); exact HO_694001.out) gb706 (Nat.le_of_eq hg.symm)) hb)
                  have n2_ := Aside0.mk (blk_below (g := gb692) blkz hb)
                  have n3_ := Aside0.mk (blk_below (g := gb693) blkz hb)
                  have n4_ := Aside0.mk (blk_below (g := gb699) blkz hb)
                  have n5_ := Aside0.mk (below_step bel hb)
                  have n6_ := Aside0.mk (hbox)
                  have n7_ := bsz (w := w) hg
                  have n8_ := bsz (w := w) hg
                  have n9_ := neL (g := gb692) hg
                  have n10_ := neR (g := gb692) hg
                  have n11_ := neL (g := gb693) hg
                  have n12_ := neR (g := gb693) hg
                  have n13_ := neL (g := gb699) hg
                  have n14_ := neR (g := gb699) hg
                  clear HO_11
                  clear HO_694001
                  clear BK692
                  clear BK693
                  clear BK699
                  clear HB
                  have HO_11 := n0_
                  have HO_694001 := n1_
                  have BK692 := n2_
                  have BK693 := n3_
                  have BK699 := n4_
                  have HB := n5_
                  have BK706 := n6_
                  have GW706 := n7_
                  have GE706 := n8_
                  have NB692_706 := n9_
                  have NB706_692 := n10_
                  have NB693_706 := n11_
                  have NB706_693 := n12_
                  have NB699_706 := n13_
                  have NB706_699 := n14_
                  clear n0_ n1_ n2_ n3_ n4_ n5_ n6_ n7_ n8_ n9_ n10_ n11_ n12_ n13_ n14_
                  clear hb hbox hg
                  refine hK.out _ _ ⟨(blk_cell BK693.out 0).trans rfl, (blk_cell BK693.out 1).trans rfl⟩ (fun hHeld => ?_)
                  clear hK K
                  refine norm_ (a' := ?_) ?_ ?_
                  rotate_left
                  ·
                   show Act.put _ (some 15) _ = _
                   simp only [Act.put, List.setIfInBounds_toArray, List.set_cons_zero, List.set_cons_succ, i64_w, i32_w]
                   rfl
                  refine one_ (i := 6) (N := some 67) #[true, true, true, true, true, true, true, true, true, false, false, true, false] rfl rfl (one_of HT_.out (by kernel_rfl)) (by decide) (fun K hK => ?_)
                  refine Kd.R_lit_step (Kd.int .i64) _ 3 ?hg (N := 67) ?hd (xs := ([x27_2] : List Int)) (inner := [.int .i64 x27_2]) (ok := fun _ => True) (okp := fun _ => True) ?hr ?hp (fun _ hk => hk) trivial (Below.refl _ _) (Nat.le_refl _) (by simp) ?_; (case hd => rfl); (case hg => rfl); (case hr => first | (go_simp; done) | (go_simp; rfl)); (case hp => exact (Reps.one (show Kd.M (Kd.int .i64) _ _ _ x27_2 [.int .i64 x27_2] from rfl) (Reps.none _ _)))
                  intro v701 w55 ho56 hb hg_ hnew_
                  clear hg_ hnew_
                  (first | rw [← Ny700.out] at ho56 | (simp only [Int.reduceToNat] at ho56; rw [← Ny700.out] at ho56))
                  have n0_ := Aside0.mk (Kd.N_elder' (by (with_reducible repeat (first | apply Kd.N_alloc | apply Kd.N_drewN | apply Kd.N_drew)); exact HO_11.out) (Kd.R_base ho56) hb)
                  have n1_ := Aside0.mk (Kd.V_elder' (by (with_reducible repeat (first | apply Kd.V_alloc | apply Kd.V_drewN | apply Kd.V_drew)); exact HO_694001.out) (Kd.R_base ho56) hb)
                  have n2_ := Aside0.mk (Kd.R_lower (Kd.R_newM (M := fun k_ => (w.heap.size ≤ k_)) ho56 (below_size bel) (fun k_ h_ => h_)) (below_size bel))
                  have n3_ := Aside0.mk (blk_below (g := gb692) blkz hb)
                  have n4_ := Aside0.mk (blk_below (g := gb693) blkz hb)
                  have n5_ := Aside0.mk (blk_below (g := gb699) blkz hb)
                  have n6_ := Aside0.mk (blk_below (g := gb706) blkz hb)
                  have n7_ := Aside0.mk (below_step bel hb)
                  clear HO_11
                  clear HO_694001
                  clear BK692
                  clear BK693
                  clear BK699
                  clear BK706
                  clear HB
                  have HO_11 := n0_
                  have HO_694001 := n1_
                  have HO702 := n2_
                  have BK692 := n3_
                  have BK693 := n4_
                  have BK699 := n5_
                  have BK706 := n6_
                  have HB := n7_
                  clear n0_ n1_ n2_ n3_ n4_ n5_ n6_ n7_
                  clear hb ho56
                  refine hK.out _ _ ⟨(blk_cell BK693.out 0).trans rfl, (blk_cell BK693.out 1).trans rfl⟩ (fun hHeld => ?_)
                  clear hK K
                  refine norm_ (a' := ?_) ?_ ?_
                  rotate_left
                  ·
                   show Act.put _ (some 67) _ = _
                   simp only [Act.put, List.setIfInBounds_toArray, List.set_cons_zero, List.set_cons_succ, i64_w, i32_w]
                   rfl
                  refine one_ (i := 9) (N := some 70) #[true, true, true, true, true, true, true, true, true, true, false, true, false] rfl rfl (one_of HT_.out (by kernel_rfl)) (by decide) (fun K hK => ?_)
                  refine Kd.R_append_rows_step (Kd.int .i64) (w0 := w) w.heap.size (by rfl) (.tmp 67) (.tmp 69) 28 3 (.int .i64 0) 8 rfl Tryd.underlying28 info3 rfl (by decide) (by omega) v701 y700 l4_1 _ _ _ (fun k_ => (w.heap.size ≤ k_)) (fun _ => False) rfl rfl ?aO ?aR (fun _ _ h => h) (fun _ h => h.elim) ?aF ?aB ?aS ?aL ?_
                  (case aR => repeat (first | exact (Kd.V_reads' HO_694001.out).2.2 | (with_reducible refine Kd.C_alloc ?_ _) | (with_reducible refine Kd.C_drewN ?_ _) | (with_reducible refine Kd.C_drew ?_)))
                  (case aB => exact bel)
                  (case aF => exact (fun k_ hk => (Nat.le_trans (below_size bel) hk)))
                  (case aO => exact (by (with_reducible repeat (first | apply Kd.R_alloc | apply Kd.R_drewN | apply Kd.R_drew)); exact Kd.R_mono HO702.out (fun _ hk => hk.1)))
                  (case aS => exact (below_size bel))
                  (case aL => have := LMc45.out; omega)
                  intro v704 w57 ho hb hg hat
                  rw [← Ny703.out] at ho
                  have n0_ := Aside0.mk (Kd.N_afterv (ok := (fun k_ => (P4_1_ k_ ∨ w.heap.size ≤ k_) ∧ k_ ≠ gb692 ∧ k_ ≠ gb693 ∧ k_ ≠ gb699 ∧ k_ ≠ gb706)) (by (with_reducible repeat (first | apply Kd.N_alloc | apply Kd.N_drewN | apply Kd.N_drew)); exact Kd.N_mono HO_11.out (fun _ hk => ⟨⟨hk.1.1.1, ⟨hk.1.1.2.1, ⟨hk.1.1.2.2.1, ⟨hk.1.1.2.2.2, hk.1.2⟩⟩⟩⟩, hk.2⟩)) hg hat)
                  have n1_ := Aside0.mk (Kd.V_afterv (ok := (fun k_ => (P4_1_ k_ ∨ w.heap.size ≤ k_) ∧ some k_ ≠ (u11 : Value).ownBlock ∧ k_ ≠ gb692 ∧ k_ ≠ gb693 ∧ k_ ≠ gb699 ∧ k_ ≠ gb706)) (by (with_reducible repeat (first | apply Kd.V_alloc | apply Kd.V_drewN | apply Kd.V_drew)); exact Kd.V_mono HO_694001.out (fun _ hk => ⟨⟨hk.1.1.1, ⟨hk.1.1.2.1, ⟨hk.1.1.2.2.1, ⟨hk.1.1.2.2.2.1, ⟨hk.1.1.2.2.2.2, hk.1.2⟩⟩⟩⟩⟩, hk.2⟩)) hg hat)
                  have n2_ := Aside0.mk (blk_grown (g := gb692) (o := .cells #[.int .i64 a0_0, .slice (some ad698) l0_1.length c0_1, .slice A0_2 l0_2.length c0_2] 73 (0, 0)) blkz hg (Kd.R_ne HO702.out BK692.out (by decide)))
                  have n3_ := Aside0.mk (blk_grown (g := gb693) (o := .cells #[.int .i64 a4_0, .slice A4_1 l4_1.length c4_1] 114 (0, 0)) blkz hg (Kd.R_ne HO702.out BK693.out (by decide)))
                  have n4_ := Aside0.mk (blk_grown (g := gb699) (o := .cells #[.int .i64 ((rd_T69 l0_1 x27_2).f0), .int .i64 ((rd_T69 l0_1 x27_2).f1)] 69 (0, 0)) blkz hg (Kd.R_ne HO702.out BK699.out (by decide)))
                  have n5_ := Aside0.mk (blk_grown (g := gb706) (o := .cells #[.int .i64 0, .slice none 0 0] 114 (0, 0)) blkz hg (Kd.R_ne HO702.out BK706.out (by decide)))
                  have n6_ := Aside0.mk (hb)
                  have n7_ := Aside0.mk (ho)
                  clear HO_11
                  clear HO_694001
                  clear BK692
                  clear BK693
                  clear BK699
                  clear BK706
                  clear HB
                  clear HO702
                  have HO_11 := n0_
                  have HO_694001 := n1_
                  have BK692 := n2_
                  have BK693 := n3_
                  have BK699 := n4_
                  have BK706 := n5_
                  have HB := n6_
                  have HO705 := n7_
                  clear n0_ n1_ n2_ n3_ n4_ n5_ n6_ n7_
                  clear ho hb hg hat
                  obtain ⟨Ao58, co58, eo58⟩ := Kd.R_slice HO705.out
                  (first | subst eo58 | (injection eo58 with f1_ f2_ f3_; have f4_ := f1_.symm; have f5_ := f3_.symm; clear f1_ f2_ f3_; subst f4_; subst f5_))
                  refine hK.out _ _ ⟨(blk_cell BK693.out 0).trans rfl, (blk_cell BK693.out 1).trans rfl⟩ (fun hHeld => ?_)
                  clear hK K
                  refine norm_ (a' := ?_) ?_ ?_
                  rotate_left
                  ·
                   show Act.put _ (some 70) _ = _
                   simp only [Act.put, List.setIfInBounds_toArray, List.set_cons_zero, List.set_cons_succ, i64_w, i32_w]
                   rfl
                  refine pst (i := 10) (N := some 71) (bz 13 4095) (any_of HT_.out (by kernel_rfl)) ?_
                  exact norm_ (by simp only [putAll, Act.put, List.setIfInBounds_toArray, List.set_cons_zero, List.set_cons_succ]) (hCont (v701, .slice Ao58 y703.length co58, gb706) _ ⟨hHeld, (ownx HO705), (by (with_reducible repeat (first | apply Kd.N_alloc | apply Kd.N_drewN | apply Kd.N_drew)); exact Kd.N_mono HO_11.out (fun _ hk => ⟨hk.1.1, ⟨hk.2, ⟨hk.1.2.1, ⟨hk.1.2.2.1, ⟨hk.1.2.2.2.1, hk.1.2.2.2.2⟩⟩⟩⟩⟩)), (by (with_reducible repeat (first | apply Kd.V_alloc | apply Kd.V_drewN | apply Kd.V_drew)); exact Kd.V_mono HO_694001.out (fun _ hk => ⟨hk.1.1, ⟨hk.2, ⟨hk.1.2.1, ⟨hk.1.2.2.1, ⟨hk.1.2.2.2.1, ⟨hk.1.2.2.2.2.1, hk.1.2.2.2.2.2⟩⟩⟩⟩⟩⟩)), blkz, blkz, blkz, blkz, GW706.out, GE706.out, NB692_706.out, NB706_692.out, NB693_706.out, NB706_693.out, NB699_706.out, NB706_699.out, bel⟩)
                rintro ⟨v701, v704, gb706⟩ w59 ⟨hS_, h0_, h1_, h2_, h3_, h4_, h5_, h6_, h7_, h8_, h9_, h10_, h11_, h12_, h13_, h14_, h15_⟩
                have n0_ : Aside0 (Kd.R (Kd.int .i64) 3 w59 w.heap.size (fun k_ => (w.heap.size ≤ k_)) v704 y703) := ⟨h0_⟩
                have n1_ : Aside0 (Kd.N k114 114 w59 w.heap.size (fun k_ => (P4_1_ k_ ∨ w.heap.size ≤ k_) ∧ some k_ ≠ (v704 : Value).ownBlock ∧ k_ ≠ gb692 ∧ k_ ≠ gb693 ∧ k_ ≠ gb699 ∧ k_ ≠ gb706) u11 x11_2) := ⟨h1_⟩
                have n2_ : Aside0 (Kd.V (Kd.int .i64) 3 w59 w.heap.size (fun k_ => (P4_1_ k_ ∨ w.heap.size ≤ k_) ∧ some k_ ≠ (v704 : Value).ownBlock ∧ some k_ ≠ (u11 : Value).ownBlock ∧ k_ ≠ gb692 ∧ k_ ≠ gb693 ∧ k_ ≠ gb699 ∧ k_ ≠ gb706) (.slice A4_1 l4_1.length c4_1) l4_1) := ⟨h2_⟩
                have n3_ : Aside0 (w59.heap[gb692]? = some (.cells #[.int .i64 a0_0, .slice (some ad698) l0_1.length c0_1, .slice A0_2 l0_2.length c0_2] 73 (0, 0))) := ⟨h3_⟩
                have n4_ : Aside0 (w59.heap[gb693]? = some (.cells #[.int .i64 a4_0, .slice A4_1 l4_1.length c4_1] 114 (0, 0))) := ⟨h4_⟩
                have n5_ : Aside0 (w59.heap[gb699]? = some (.cells #[.int .i64 ((rd_T69 l0_1 x27_2).f0), .int .i64 ((rd_T69 l0_1 x27_2).f1)] 69 (0, 0))) := ⟨h5_⟩
                have n6_ : Aside0 (w59.heap[gb706]? = some (.cells #[.int .i64 0, .slice none 0 0] 114 (0, 0))) := ⟨h6_⟩
                have n7_ : Aside0 (w.heap.size ≤ gb706) := ⟨h7_⟩
                have n8_ : Aside0 (w.heap.size ≤ gb706) := ⟨h8_⟩
                have n9_ : Aside0 (gb692 ≠ gb706) := ⟨h9_⟩
                have n10_ : Aside0 (gb706 ≠ gb692) := ⟨h10_⟩
                have n11_ : Aside0 (gb693 ≠ gb706) := ⟨h11_⟩
                have n12_ : Aside0 (gb706 ≠ gb693) := ⟨h12_⟩
                have n13_ : Aside0 (gb699 ≠ gb706) := ⟨h13_⟩
                have n14_ : Aside0 (gb706 ≠ gb699) := ⟨h14_⟩
                have n15_ : Aside0 (Below w.heap.size w w59) := ⟨h15_⟩
                clear HO_11
                clear HO_694001
                clear BK692
                clear BK693
                clear BK699
                clear HB
                clear h0_ h1_ h2_ h3_ h4_ h5_ h6_ h7_ h8_ h9_ h10_ h11_ h12_ h13_ h14_ h15_
                have HO705 := n0_
                have HO_11 := n1_
                have HO_694001 := n2_
                have BK692 := n3_
                have BK693 := n4_
                have BK699 := n5_
                have BK706 := n6_
                have GW706 := n7_
                have GE706 := n8_
                have NB692_706 := n9_
                have NB706_692 := n10_
                have NB693_706 := n11_
                have NB706_693 := n12_
                have NB699_706 := n13_
                have NB706_699 := n14_
                have HB := n15_
                clear n0_ n1_ n2_ n3_ n4_ n5_ n6_ n7_ n8_ n9_ n10_ n11_ n12_ n13_ n14_ n15_
                have hHeld : w59.cell? ⟨gb693, 0, none⟩ = some (.int .i64 a4_0) ∧ w59.cell? ⟨gb693, 1, none⟩ = some (.slice A4_1 l4_1.length c4_1) := hS_
                obtain ⟨Ao60, co60, eo60⟩ := Kd.R_slice HO705.out
                (first | subst eo60 | (injection eo60 with f1_ f2_ f3_; have f4_ := f1_.symm; have f5_ := f3_.symm; clear f1_ f2_ f3_; subst f4_; subst f5_))
                refine norm_ (a' := ?_) ?_ ?_
                rotate_left
                ·
                 simp only [putAll, Act.put, List.setIfInBounds_toArray, List.set_cons_zero, List.set_cons_succ]
                 rfl
                refine one_ (i := 12) (N := none) #[true, true, true, true, true, true, true, true, true, true, true, true, true] rfl rfl (one_of HT_.out (by kernel_rfl)) (by decide) (fun K hK => ?_)
                have hs61 : w59.cell? ⟨gb706, 0, none⟩ = some (.int .i64 0) := (blk_cell BK706.out 0).trans rfl
                have hfs61 := blk_frozen BK706.out 0
                have hns61_0 := NB692_706.out
                have hns61_1 := NB693_706.out
                have hns61_2 := NB699_706.out
                have hms61_0 := NB706_692.out
                have hms61_1 := NB706_693.out
                have hms61_2 := NB706_699.out
                have hs62 : w59.cell? ⟨gb706, 1, none⟩ = some (.slice none 0 0) := (blk_cell BK706.out 1).trans rfl
                have hfs62 := blk_frozen BK706.out 1
                have hns62_0 := NB692_706.out
                have hns62_1 := NB693_706.out
                have hns62_2 := NB699_706.out
                have hms62_0 := NB706_692.out
                have hms62_1 := NB706_693.out
                have hms62_2 := NB706_699.out
                refine skip_ (w1 := ?_) (by rfl) rfl ?_ ?_
                rotate_left
                ·
                 go_simp
                 rfl
                refine hK.out _ _ ⟨((cell_far (p := ⟨gb706, _, none⟩) NB693_706.out _).trans (((cell_far (p := ⟨gb706, _, none⟩) NB693_706.out _).trans (hHeld.1)))), ((cell_far (p := ⟨gb706, _, none⟩) NB693_706.out _).trans (((cell_far (p := ⟨gb706, _, none⟩) NB693_706.out _).trans (hHeld.2))))⟩ (fun hHeld => ?_)
                clear hK K
                refine done_ (done_of HT_.out (by kernel_rfl)) ?_
                try go_wp2
                have n0_ : Aside0 (Kd.N k114 114 ((w59.setCell ⟨gb706, 0, none⟩ (.int .i64 (Go.bits .or .i64 a4_0 (ji44)))).setCell ⟨gb706, 1, none⟩ (.slice Ao60 y703.length co60)) w.heap.size (fun k_ => (P4_1_ k_ ∨ w.heap.size ≤ k_) ∧ some k_ ≠ (.slice Ao60 y703.length co60 : Value).ownBlock ∧ k_ ≠ gb692 ∧ k_ ≠ gb693 ∧ k_ ≠ gb699 ∧ k_ ≠ gb706) u11 x11_2) := ⟨by (with_reducible repeat (first | apply Kd.N_alloc | apply Kd.N_drewN | apply Kd.N_drew)); exact Kd.N_mono (Kd.N_far (p := ⟨gb706, 1, none⟩) (Kd.N_far (p := ⟨gb706, 0, none⟩) (Kd.N_mono HO_11.out (fun k_ hk => (⟨hk, hk.2.2.2.2.2⟩ : _ ∧ k_ ≠ gb706))) (fun _ hk => hk.2) (.int .i64 (Go.bits .or .i64 a4_0 (ji44)))) (fun _ hk => hk.2) (.slice Ao60 y703.length co60)) (fun _ hk => ⟨hk.1.1, ⟨hk.1.2.1, ⟨hk.1.2.2.1, ⟨hk.1.2.2.2.1, ⟨hk.1.2.2.2.2.1, hk.1.2.2.2.2.2⟩⟩⟩⟩⟩)⟩
                have n1_ : Aside0 (Kd.V (Kd.int .i64) 3 ((w59.setCell ⟨gb706, 0, none⟩ (.int .i64 (Go.bits .or .i64 a4_0 (ji44)))).setCell ⟨gb706, 1, none⟩ (.slice Ao60 y703.length co60)) w.heap.size (fun k_ => (P4_1_ k_ ∨ w.heap.size ≤ k_) ∧ some k_ ≠ (u11 : Value).ownBlock ∧ some k_ ≠ (.slice Ao60 y703.length co60 : Value).ownBlock ∧ k_ ≠ gb692 ∧ k_ ≠ gb693 ∧ k_ ≠ gb699 ∧ k_ ≠ gb706) (.slice A4_1 l4_1.length c4_1) l4_1) := ⟨by (with_reducible repeat (first | apply Kd.V_alloc | apply Kd.V_drewN | apply Kd.V_drew)); exact Kd.V_mono (Kd.V_far (p := ⟨gb706, 1, none⟩) (Kd.V_far (p := ⟨gb706, 0, none⟩) (Kd.V_mono HO_694001.out (fun k_ hk => (⟨hk, hk.2.2.2.2.2.2⟩ : _ ∧ k_ ≠ gb706))) (fun _ hk => hk.2) (.int .i64 (Go.bits .or .i64 a4_0 (ji44)))) (fun _ hk => hk.2) (.slice Ao60 y703.length co60)) (fun _ hk => ⟨hk.1.1, ⟨hk.1.2.2.1, ⟨hk.1.2.1, ⟨hk.1.2.2.2.1, ⟨hk.1.2.2.2.2.1, ⟨hk.1.2.2.2.2.2.1, hk.1.2.2.2.2.2.2⟩⟩⟩⟩⟩⟩)⟩
                have n2_ : Aside0 (Kd.R (Kd.int .i64) 3 ((w59.setCell ⟨gb706, 0, none⟩ (.int .i64 (Go.bits .or .i64 a4_0 (ji44)))).setCell ⟨gb706, 1, none⟩ (.slice Ao60 y703.length co60)) w.heap.size (fun k_ => (w.heap.size ≤ k_)) (.slice Ao60 y703.length co60) y703) := ⟨by (with_reducible repeat (first | apply Kd.R_alloc | apply Kd.R_drewN | apply Kd.R_drew)); exact Kd.R_mono (Kd.R_far (p := ⟨gb706, 1, none⟩) (Kd.R_far (p := ⟨gb706, 0, none⟩) (Kd.R_types HO705.out BK706.out (by decide)) (fun _ hk => hk.2) (.int .i64 (Go.bits .or .i64 a4_0 (ji44)))) (fun _ hk => hk.2) (.slice Ao60 y703.length co60)) (fun _ hk => hk.1)⟩
                have n3_ : Aside0 (((w59.setCell ⟨gb706, 0, none⟩ (.int .i64 (Go.bits .or .i64 a4_0 (ji44)))).setCell ⟨gb706, 1, none⟩ (.slice Ao60 y703.length co60)).heap[gb692]? = some (.cells #[.int .i64 a0_0, .slice (some ad698) l0_1.length c0_1, .slice A0_2 l0_2.length c0_2] 73 (0, 0))) := ⟨by (with_reducible repeat (first | refine blk_drewN ?_ _ | refine blk_drew ?_ | refine blk_alloc ?_ _)); refine blk_far ?_ NB692_706.out _; (with_reducible repeat (first | refine blk_drewN ?_ _ | refine blk_drew ?_ | refine blk_alloc ?_ _)); refine blk_far ?_ NB692_706.out _; (with_reducible repeat (first | refine blk_drewN ?_ _ | refine blk_drew ?_ | refine blk_alloc ?_ _)); exact BK692.out⟩
                have n4_ : Aside0 (((w59.setCell ⟨gb706, 0, none⟩ (.int .i64 (Go.bits .or .i64 a4_0 (ji44)))).setCell ⟨gb706, 1, none⟩ (.slice Ao60 y703.length co60)).heap[gb693]? = some (.cells #[.int .i64 a4_0, .slice A4_1 l4_1.length c4_1] 114 (0, 0))) := ⟨by (with_reducible repeat (first | refine blk_drewN ?_ _ | refine blk_drew ?_ | refine blk_alloc ?_ _)); refine blk_far ?_ NB693_706.out _; (with_reducible repeat (first | refine blk_drewN ?_ _ | refine blk_drew ?_ | refine blk_alloc ?_ _)); refine blk_far ?_ NB693_706.out _; (with_reducible repeat (first | refine blk_drewN ?_ _ | refine blk_drew ?_ | refine blk_alloc ?_ _)); exact BK693.out⟩
                have n5_ : Aside0 (((w59.setCell ⟨gb706, 0, none⟩ (.int .i64 (Go.bits .or .i64 a4_0 (ji44)))).setCell ⟨gb706, 1, none⟩ (.slice Ao60 y703.length co60)).heap[gb699]? = some (.cells #[.int .i64 ((rd_T69 l0_1 x27_2).f0), .int .i64 ((rd_T69 l0_1 x27_2).f1)] 69 (0, 0))) := ⟨by (with_reducible repeat (first | refine blk_drewN ?_ _ | refine blk_drew ?_ | refine blk_alloc ?_ _)); refine blk_far ?_ NB699_706.out _; (with_reducible repeat (first | refine blk_drewN ?_ _ | refine blk_drew ?_ | refine blk_alloc ?_ _)); refine blk_far ?_ NB699_706.out _; (with_reducible repeat (first | refine blk_drewN ?_ _ | refine blk_drew ?_ | refine blk_alloc ?_ _)); exact BK699.out⟩
                have n6_ : Aside0 (((w59.setCell ⟨gb706, 0, none⟩ (.int .i64 (Go.bits .or .i64 a4_0 (ji44)))).setCell ⟨gb706, 1, none⟩ (.slice Ao60 y703.length co60)).heap[gb706]? = some (.cells #[.int .i64 (Go.bits .or .i64 a4_0 (ji44)), .slice Ao60 y703.length co60] 114 (0, 0))) := ⟨by (with_reducible repeat (first | refine blk_drewN ?_ _ | refine blk_drew ?_ | refine blk_alloc ?_ _)); refine blk_put (cs := #[.int .i64 (Go.bits .or .i64 a4_0 (ji44)), .slice none 0 0]) ?_ 1 _ rfl; (with_reducible repeat (first | refine blk_drewN ?_ _ | refine blk_drew ?_ | refine blk_alloc ?_ _)); refine blk_put (cs := #[.int .i64 0, .slice none 0 0]) ?_ 0 _ rfl; (with_reducible repeat (first | refine blk_drewN ?_ _ | refine blk_drew ?_ | refine blk_alloc ?_ _)); exact BK706.out⟩
                have n7_ : Aside0 (Below w.heap.size w ((w59.setCell ⟨gb706, 0, none⟩ (.int .i64 (Go.bits .or .i64 a4_0 (ji44)))).setCell ⟨gb706, 1, none⟩ (.slice Ao60 y703.length co60))) := ⟨bel⟩
                (try clear HO_11)
                (try clear HO_694001)
                (try clear HO705)
                (try clear BK692)
                (try clear BK693)
                (try clear BK699)
                (try clear BK706)
                (try clear HB)
                generalize ((w59.setCell ⟨gb706, 0, none⟩ (.int .i64 (Go.bits .or .i64 a4_0 (ji44)))).setCell ⟨gb706, 1, none⟩ (.slice Ao60 y703.length co60)) = w63 at n0_ n1_ n2_ n3_ n4_ n5_ n6_ n7_ ⊢
                have HO_11 := n0_
                have HO_694001 := n1_
                have HO705 := n2_
                have BK692 := n3_
                have BK693 := n4_
                have BK699 := n5_
                have BK706 := n6_
                have HB := n7_
                clear n0_ n1_ n2_ n3_ n4_ n5_ n6_ n7_
                have n0_ := Aside0.mk (Kd.N_drew HO_11.out)
                have n1_ := Aside0.mk (Kd.V_drew HO_694001.out)
                have n2_ := Aside0.mk (Kd.R_drew HO705.out)
                have n3_ := Aside0.mk (blk_drew BK692.out)
                have n4_ := Aside0.mk (blk_drew BK693.out)
                have n5_ := Aside0.mk (blk_drew BK699.out)
                have n6_ := Aside0.mk (blk_drew BK706.out)
                have n7_ := Aside0.mk (below_drew1 HB.out)
                clear HO_11
                clear HO_694001
                clear HO705
                clear BK692
                clear BK693
                clear BK699
                clear BK706
                clear HB
                have HO_11 := n0_
                have HO_694001 := n1_
                have HO705 := n2_
                have BK692 := n3_
                have BK693 := n4_
                have BK699 := n5_
                have BK706 := n6_
                have HB := n7_
                clear n0_ n1_ n2_ n3_ n4_ n5_ n6_ n7_
                refine start_ (n := 12) (S := fun w' => w'.cell? ⟨gb692, 0, none⟩ = some (.int .i64 a0_0) ∧ w'.cell? ⟨gb692, 1, none⟩ = some (.slice (some ad698) l0_1.length c0_1) ∧ w'.cell? ⟨gb692, 2, none⟩ = some (.slice A0_2 l0_2.length c0_2) ∧ w'.cell? ⟨gb706, 0, none⟩ = some (.int .i64 (Go.bits .or .i64 a4_0 (ji44))) ∧ w'.cell? ⟨gb706, 1, none⟩ = some (.slice Ao60 y703.length co60)) (ds := []) #[false, false, false, false, false, false, false, false, false, false, false, false] (by kernel_rfl) rfl rfl ⟨(blk_cell BK692.out 0).trans rfl, (blk_cell BK692.out 1).trans rfl, (blk_cell BK692.out 2).trans rfl, (blk_cell BK706.out 0).trans rfl, (blk_cell BK706.out 1).trans rfl⟩ (fun hHeld => ?_); refine with_tabW feed_grid_paths.tab11 feed_grid_paths.bits11 (fun HT_ HW_ => ?_)
                generalize w63.drew = w64 at HO_11 HO_694001 HO705 BK692 BK693 BK699 BK706 HB hHeld ⊢
                refine pst (i := 0) (N := some 72) (bz 12 1) (any_of HT_.out (by kernel_rfl)) ?_
                refine pst (i := 2) (N := some 74) (bz 12 5) (any_of HT_.out (by kernel_rfl)) ?_
                refine pst (i := 3) (N := some 75) (bz 12 13) (any_of HT_.out (by kernel_rfl)) ?_
                refine pst (i := 4) (N := some 76) (bz 12 29) (any_of HT_.out (by kernel_rfl)) ?_
                refine pst (i := 5) (N := some 77) (bz 12 61) (any_of HT_.out (by kernel_rfl)) ?_
                refine pst (i := 6) (N := some 78) (bz 12 125) (any_of HT_.out (by kernel_rfl)) ?_
                refine pst (i := 7) (N := some 79) (bz 12 253) (any_of HT_.out (by kernel_rfl)) ?_
                refine tst5 (i := 1) (N := some 73) (bz 12 255) (take_ofW HT_.out HW_.out (by kernel_rfl)) hHeld ?_
                refine tst5 (i := 8) (N := some 80) (bz 12 511) (take_ofW HT_.out HW_.out (by kernel_rfl)) hHeld ?_
                refine one_ (i := 9) (N := some 81) #[true, true, true, true, true, true, true, true, true, true, false, false] rfl rfl (one_of HT_.out (by kernel_rfl)) (by decide) (fun K hK => ?_)
                refine goes_ Tryd.func82 (by kernel_rfl) rfl #[.agg #[.int .i64 a0_0, .slice (some ad698) l0_1.length c0_1, .slice A0_2 l0_2.length c0_2], .int .i64 a1, .int .i64 ji39, .int .u64 (Go.bits .or .u64 a3 (ji47)), .agg #[.int .i64 (Go.bits .or .i64 a4_0 (ji44)), .slice Ao60 y703.length co60]] (by rfl) rfl rfl (by (try simp only [List.map_toArray, List.map_cons, List.map_nil]); first | done | (simp only [hji39, hji44, hji47]; rfl) | rfl | (simp only [List.length_drop, List.length_take]; rfl)) ?_
                with_reducible refine (ih kj22 (by have := HJ6.out; have := HK2.out; have := HJ22.out; omega) a0_0 _ _ l0_1 _ _ l0_2 a1 ji39 (Go.bits .or .u64 a3 (ji47)) (Go.bits .or .i64 a4_0 (ji44)) (fun k_ => some k_ = (.slice Ao60 y703.length co60 : Value).ownBlock) _ _ y703 t707 _ ?side1 ?side2 ?side3 ?side4 ?side5 A48.out).mono ?_
                (case side1 => exact cbz HR0_1)
                (case side2 => exact HC0_1.out)
                (case side3 => exact cbz HR0_2)
                (case side4 => exact HC0_2.out)
                (case side5 => exact Kd.R_V (Kd.R_tight rfl (Kd.R_types (Kd.R_types (Kd.R_types (Kd.R_types (Kd.R_apart' (HO705.out) (Kd.N_typed HO_11.out) (by decide)) BK692.out (by decide)) BK693.out (by decide)) BK699.out (by decide)) BK706.out (by decide))))
                rintro e w65 ⟨v708, rfl, ho0, hb⟩
                refine ⟨_, rfl, ?_⟩
                have n0_ := Aside0.mk (Kd.N_elder' (by (with_reducible repeat (first | apply Kd.N_alloc | apply Kd.N_drewN | apply Kd.N_drew)); exact HO_11.out) (Kd.N_base ho0) hb)
                have n1_ := Aside0.mk (Kd.V_elder' (by (with_reducible repeat (first | apply Kd.V_alloc | apply Kd.V_drewN | apply Kd.V_drew)); exact HO_694001.out) (Kd.N_base ho0) hb)
                have n2_ := Aside0.mk (Kd.R_below (ownx HO705) hb)
                have n3_ := Aside0.mk (Kd.N_lower (Kd.N_mono (ok' := fun k_ => (P4_1_ k_ ∨ w.heap.size ≤ k_) ∧ some k_ ≠ (u11 : Value).ownBlock ∧ k_ ≠ gb692 ∧ k_ ≠ gb693 ∧ k_ ≠ gb699 ∧ k_ ≠ gb706) ho0 (fun k_ hk_ => ⟨Or.elim hk_ (fun hs_ => (.inr (((Kd.R_types (Kd.R_types (Kd.R_types (Kd.R_types (Kd.R_apart' (HO705.out) (Kd.N_typed HO_11.out) (by decide)) BK692.out (by decide)) BK693.out (by decide)) BK699.out (by decide)) BK706.out (by decide)).1 k_ hs_.symm).1.1.1.1.1))) (fun hn_ => (.inr (Nat.le_trans (below_size bel) hn_))), Or.elim hk_ (fun hs_ => ((Kd.R_types (Kd.R_types (Kd.R_types (Kd.R_types (Kd.R_apart' (HO705.out) (Kd.N_typed HO_11.out) (by decide)) BK692.out (by decide)) BK693.out (by decide)) BK699.out (by decide)) BK706.out (by decide)).1 k_ hs_.symm).1.1.1.1.2) (fun hn_ => (Kd.fresh' (Kd.N_lt (by (with_reducible repeat (first | apply Kd.N_alloc | apply Kd.N_drewN | apply Kd.N_drew)); exact HO_11.out)) k_ hn_)), Or.elim hk_ (fun hs_ => ((Kd.R_types (Kd.R_types (Kd.R_types (Kd.R_types (Kd.R_apart' (HO705.out) (Kd.N_typed HO_11.out) (by decide)) BK692.out (by decide)) BK693.out (by decide)) BK699.out (by decide)) BK706.out (by decide)).1 k_ hs_.symm).1.1.1.2) (fun hn_ => (Kd.freshB (g := gb692) (o := .cells #[.int .i64 a0_0, .slice (some ad698) l0_1.length c0_1, .slice A0_2 l0_2.length c0_2] 73 (0, 0)) blkz k_ hn_)), Or.elim hk_ (fun hs_ => ((Kd.R_types (Kd.R_types (Kd.R_types (Kd.R_types (Kd.R_apart' (HO705.out) (Kd.N_typed HO_11.out) (by decide)) BK692.out (by decide)) BK693.out (by decide)) BK699.out (by decide)) BK706.out (by decide)).1 k_ hs_.symm).1.1.2) (fun hn_ => (Kd.freshB (g := gb693) (o := .cells #[.int .i64 a4_0, .slice A4_1 l4_1.length c4_1] 114 (0, 0)) blkz k_ hn_)), Or.elim hk_ (fun hs_ => ((Kd.R_types (Kd.R_types (Kd.R_types (Kd.R_types (Kd.R_apart' (HO705.out) (Kd.N_typed HO_11.out) (by decide)) BK692.out (by decide)) BK693.out (by decide)) BK699.out (by decide)) BK706.out (by decide)).1 k_ hs_.symm).1.2) (fun hn_ => (Kd.freshB (g := gb699) (o := .cells #[.int .i64 ((rd_T69 l0_1 x27_2).f0), .int .i64 ((rd_T69 l0_1 x27_2).f1)] 69 (0, 0)) blkz k_ hn_)), Or.elim hk_ (fun hs_ => ((Kd.R_types (Kd.R_types (Kd.R_types (Kd.R_types (Kd.R_apart' (HO705.out) (Kd.N_typed HO_11.out) (by decide)) BK692.out (by decide)) BK693.out (by decide)) BK699.out (by decide)) BK706.out (by decide)).1 k_ hs_.symm).2) (fun hn_ => (Kd.freshB (g := gb706) (o := .cells #[.int .i64 (Go.bits .or .i64 a4_0 (ji44)), .slice Ao60 y703.length co60] 114 (0, 0)) blkz k_ hn_))⟩)) (below_size bel))
                have n4_ := Aside0.mk (blk_below (g := gb692) blkz hb)
                have n5_ := Aside0.mk (blk_below (g := gb693) blkz hb)
                have n6_ := Aside0.mk (blk_below (g := gb699) blkz hb)
                have n7_ := Aside0.mk (blk_below (g := gb706) blkz hb)
                have n8_ := Aside0.mk (below_step bel hb)
                clear HO_11
                clear HO_694001
                clear HO705
                clear BK692
                clear BK693
                clear BK699
                clear BK706
                clear HB
                have HO_11 := n0_
                have HO_694001 := n1_
                have HO705 := n2_
                have HO709 := n3_
                have BK692 := n4_
                have BK693 := n5_
                have BK699 := n6_
                have BK706 := n7_
                have HB := n8_
                clear n0_ n1_ n2_ n3_ n4_ n5_ n6_ n7_ n8_
                (try clear hb)
                (try clear hb2)
                (try clear hk)
                (try clear hi)
                (try clear ho0)
                obtain ⟨Ao67, co67, eo67⟩ := Kd.N_slice HO709.out
                (first | subst eo67 | (injection eo67 with f1_ f2_ f3_; have f4_ := f1_.symm; have f5_ := f3_.symm; clear f1_ f2_ f3_; subst f4_; subst f5_))
                refine hK.out _ _ ⟨(blk_cell BK692.out 0).trans rfl, (blk_cell BK692.out 1).trans rfl, (blk_cell BK692.out 2).trans rfl, (blk_cell BK706.out 0).trans rfl, (blk_cell BK706.out 1).trans rfl⟩ (fun hHeld => ?_)
                clear hK K
                refine norm_ (a' := ?_) ?_ ?_
                rotate_left
                ·
                 show Act.put _ (some 81) _ = _
                 simp only [Act.put, List.setIfInBounds_toArray, List.set_cons_zero, List.set_cons_succ, i64_w, i32_w]
                 rfl
                refine one_ (i := 10) (N := some 82) #[true, true, true, true, true, true, true, true, true, true, true, false] rfl rfl (one_of HT_.out (by kernel_rfl)) (by decide) (fun K hK => ?_)
                refine Kd.N_append_rows_step k114 (w0 := w) w.heap.size (by rfl) (.tmp 72) (.tmp 81) 111 114 (.agg #[(.int .i64 0), (.slice none 0 0)]) 32 rfl Tryd.underlying111 info114 rfl (by decide) (by omega) u11 x11_2 t707 _ _ _ (fun k_ => (P4_1_ k_ ∨ w.heap.size ≤ k_) ∧ k_ ≠ gb692 ∧ k_ ≠ gb693 ∧ k_ ≠ gb699 ∧ k_ ≠ gb706) (fun k_ => ((fun k_ => (P4_1_ k_ ∨ w.heap.size ≤ k_) ∧ k_ ≠ gb692 ∧ k_ ≠ gb693 ∧ k_ ≠ gb699 ∧ k_ ≠ gb706)) k_ ∧ some k_ ≠ (u11 : Value).ownBlock) rfl rfl ?aO ?aR (fun _ hk => hk) ?aF ?aB ?aS ?aL ?_
                (case aR => exact (by skip; exact Kd.N_F (Kd.N_mono (ok' := (fun k_ => ((fun k_ => (P4_1_ k_ ∨ w.heap.size ≤ k_) ∧ k_ ≠ gb692 ∧ k_ ≠ gb693 ∧ k_ ≠ gb699 ∧ k_ ≠ gb706)) k_ ∧ some k_ ≠ (u11 : Value).ownBlock)) (HO709.out) (fun k_ hk => ⟨⟨hk.1, ⟨hk.2.2.1, ⟨hk.2.2.2.1, ⟨hk.2.2.2.2.1, hk.2.2.2.2.2⟩⟩⟩⟩, hk.2.1⟩))))
                (case aB => exact bel)
                (case aF => exact (fun k_ hk => ⟨(.inr (Nat.le_trans (below_size bel) hk)), Kd.freshB (g := gb692) (o := .cells #[.int .i64 a0_0, .slice (some ad698) l0_1.length c0_1, .slice A0_2 l0_2.length c0_2] 73 (0, 0)) blkz k_ hk, Kd.freshB (g := gb693) (o := .cells #[.int .i64 a4_0, .slice A4_1 l4_1.length c4_1] 114 (0, 0)) blkz k_ hk, Kd.freshB (g := gb699) (o := .cells #[.int .i64 ((rd_T69 l0_1 x27_2).f0), .int .i64 ((rd_T69 l0_1 x27_2).f1)] 69 (0, 0)) blkz k_ hk, Kd.freshB (g := gb706) (o := .cells #[.int .i64 (Go.bits .or .i64 a4_0 (ji44)), .slice Ao60 y703.length co60] 114 (0, 0)) blkz k_ hk⟩))
                (case aO => exact (by (with_reducible repeat (first | apply Kd.N_alloc | apply Kd.N_drewN | apply Kd.N_drew)); exact Kd.N_mono HO_11.out (fun _ hk => ⟨hk.1.1, ⟨hk.1.2.2.1, ⟨hk.1.2.2.2.1, ⟨hk.1.2.2.2.2.1, hk.1.2.2.2.2.2⟩⟩⟩⟩)))
                (case aS => exact (below_size bel))
                (case aL => have := LMc49.out; omega)
                intro v711 w66 ho hb hg hat
                rw [← Ny710.out] at ho
                have n0_ := Aside0.mk (Kd.V_afterv (ok := (fun k_ => (P4_1_ k_ ∨ w.heap.size ≤ k_) ∧ some k_ ≠ (.slice Ao60 y703.length co60 : Value).ownBlock ∧ some k_ ≠ (.slice Ao67 t707.length co67 : Value).ownBlock ∧ k_ ≠ gb692 ∧ k_ ≠ gb693 ∧ k_ ≠ gb699 ∧ k_ ≠ gb706)) (by (with_reducible repeat (first | apply Kd.V_alloc | apply Kd.V_drewN | apply Kd.V_drew)); exact Kd.V_mono HO_694001.out (fun _ hk => ⟨⟨hk.1.1, ⟨hk.1.2.2.1, ⟨hk.2, ⟨hk.1.2.2.2.1, ⟨hk.1.2.2.2.2.1, ⟨hk.1.2.2.2.2.2.1, hk.1.2.2.2.2.2.2⟩⟩⟩⟩⟩⟩, hk.1.2.1⟩)) hg hat)
                have n1_ := Aside0.mk (blk_grown (g := gb692) (o := .cells #[.int .i64 a0_0, .slice (some ad698) l0_1.length c0_1, .slice A0_2 l0_2.length c0_2] 73 (0, 0)) blkz hg (Kd.N_ne HO_11.out BK692.out (by decide)))
                have n2_ := Aside0.mk (blk_grown (g := gb693) (o := .cells #[.int .i64 a4_0, .slice A4_1 l4_1.length c4_1] 114 (0, 0)) blkz hg (Kd.N_away HO_11.out (fun _ hk => hk.1.2.2.2.1)))
                have n3_ := Aside0.mk (blk_grown (g := gb699) (o := .cells #[.int .i64 ((rd_T69 l0_1 x27_2).f0), .int .i64 ((rd_T69 l0_1 x27_2).f1)] 69 (0, 0)) blkz hg (Kd.N_ne HO_11.out BK699.out (by decide)))
                have n4_ := Aside0.mk (Kd.R_over' (ownx HO705) (Kd.N_typed (by (with_reducible repeat (first | apply Kd.N_alloc | apply Kd.N_drewN | apply Kd.N_drew)); exact HO_11.out)) (by decide) hg)
                have n5_ := Aside0.mk (blk_grown (g := gb706) (o := .cells #[.int .i64 (Go.bits .or .i64 a4_0 (ji44)), .slice Ao60 y703.length co60] 114 (0, 0)) blkz hg (Kd.N_away HO_11.out (fun _ hk => hk.1.2.2.2.2.2)))
                have n6_ := Aside0.mk (Kd.N_afterv (ok := (fun k_ => (P4_1_ k_ ∨ w.heap.size ≤ k_) ∧ k_ ≠ gb692 ∧ k_ ≠ gb693 ∧ k_ ≠ gb699 ∧ k_ ≠ gb706)) (by (with_reducible repeat (first | apply Kd.N_alloc | apply Kd.N_drewN | apply Kd.N_drew)); exact Kd.N_mono HO709.out (fun _ hk => ⟨⟨hk.1, ⟨hk.2.2.1, ⟨hk.2.2.2.1, ⟨hk.2.2.2.2.1, hk.2.2.2.2.2⟩⟩⟩⟩, hk.2.1⟩)) hg hat)
                have n7_ := Aside0.mk (hb)
                have n8_ := Aside0.mk (ho)
                clear HO_694001
                clear BK692
                clear BK693
                clear BK699
                clear HO705
                clear BK706
                clear HO709
                clear HB
                clear HO_11
                have HO_694001 := n0_
                have BK692 := n1_
                have BK693 := n2_
                have BK699 := n3_
                have HO705 := n4_
                have BK706 := n5_
                have HO709 := n6_
                have HB := n7_
                have HO712 := n8_
                clear n0_ n1_ n2_ n3_ n4_ n5_ n6_ n7_ n8_
                clear ho hb hg hat
                refine hK.out _ _ ⟨(blk_cell BK692.out 0).trans rfl, (blk_cell BK692.out 1).trans rfl, (blk_cell BK692.out 2).trans rfl, (blk_cell BK706.out 0).trans rfl, (blk_cell BK706.out 1).trans rfl⟩ (fun hHeld => ?_)
                clear hK K
                refine norm_ (a' := ?_) ?_ ?_
                rotate_left
                ·
                 show Act.put _ (some 82) _ = _
                 simp only [Act.put, List.setIfInBounds_toArray, List.set_cons_zero, List.set_cons_succ, i64_w, i32_w]
                 rfl
                refine pst (i := 11) (N := some 11) (bz 12 4095) (any_of HT_.out (by kernel_rfl)) ?_
                refine done_ (done_of HT_.out (by kernel_rfl)) ?_
                try go_wp2
                go_roundg kj22
                case measure => have := HJ6.out; have := HK2.out; have := HJ22.out; omega
                case rel => exact ⟨(y710), (wrap64 (x27_2 + 1)), rsz, H', ⟨by have := HJ6.out; have := HK2.out; have := HJ22.out; omega⟩, ⟨by (with_reducible repeat (first | apply Kd.N_alloc | apply Kd.N_drewN | apply Kd.N_drew)); exact Kd.N_mono HO712.out (fun _ hk => ⟨hk.1, ⟨hk.2.1, hk.2.2.1⟩⟩)⟩, ⟨by (with_reducible repeat (first | apply Kd.V_alloc | apply Kd.V_drewN | apply Kd.V_drew)); exact Kd.V_mono HO_694001.out (fun _ hk => ⟨hk.1.1, ⟨hk.2, ⟨hk.1.2.2.2.1, hk.1.2.2.2.2.1⟩⟩⟩)⟩, ⟨blkz⟩, ⟨blkz⟩, ⟨bel⟩⟩
               ·
                rw [if_neg c49] at H
                exact absurd H (by simp)
              ·
               rw [if_neg c45] at H
               exact absurd H (by simp)
             ·
              rw [if_neg c43] at H
              exact absurd H (by simp)
            ·
             rw [if_neg c42] at H
             have c42b0 : ((Go.bits .and .u64 (ji41) 1) == 0) = false := beq_eq_false_iff_ne.mpr c42
             have c42b1 : ((Go.bits .and .u64 (ji41) 1) != 0) = true := bne_iff_ne.mpr c42
             have H' := Aside0.mk H
             clear H
             have hnb68 := NB699_692.out
             have hnc68 := NB692_699.out
             have hnb69 := NB699_693.out
             have hnc69 := NB693_699.out
             have hcz70_0 := blkc BK699.out 0 (.int .i64 ((rd_T69 l0_1 x27_2).f0)) rfl
             have hcz70_1 := blkc BK699.out 1 (.int .i64 ((rd_T69 l0_1 x27_2).f1)) rfl
             have hfz70_0 := blk_frozen BK699.out 0
             have hfz70_1 := blk_frozen BK699.out 1
             go_wp2
             go_roundg kj22
             case measure => have := HJ6.out; have := HK2.out; have := HJ22.out; omega
             case rel => exact ⟨(x11_2), (wrap64 (x27_2 + 1)), rsz, H', ⟨by have := HJ6.out; have := HK2.out; have := HJ22.out; omega⟩, ⟨by (with_reducible repeat (first | apply Kd.N_alloc | apply Kd.N_drewN | apply Kd.N_drew)); exact Kd.N_mono HO_11.out (fun _ hk => ⟨hk.1, ⟨hk.2.1, hk.2.2.1⟩⟩)⟩, ⟨by (with_reducible repeat (first | apply Kd.V_alloc | apply Kd.V_drewN | apply Kd.V_drew)); exact Kd.V_mono HO_694001.out (fun _ hk => ⟨hk.1, ⟨hk.2.1, ⟨hk.2.2.1, hk.2.2.2.1⟩⟩⟩)⟩, ⟨blkz⟩, ⟨blkz⟩, ⟨bel⟩⟩
           ·
            rw [if_neg c40] at H
            exact absurd H (by simp)
       ·
        rw [if_neg c22] at H
        exact absurd H (by simp)
      ·
       rw [if_neg c21] at H
       exact absurd H (by simp)
     ·
      rw [if_neg c20] at H
      have c20b0 : decide (x27_2 < (l0_1.length : Int)) = false := decide_eq_false c20
      clear c20
      obtain rfl := Option.some.inj H
      go_wp2
      go_ret
      exact ⟨_, ezz, by (with_reducible repeat (first | apply Kd.N_alloc | apply Kd.N_drewN | apply Kd.N_drew)); exact Kd.N_mono HO_11.out (fun _ hk => hk.1), bel⟩

/-! ### feed_Feeds: function 41 -/
def feed_Feeds.f (k : Nat) (a0_0 : Int) (l0_1 : List (S69)) (l0_2 : List (S71)) (a1 : Int) (a2 : Int) : Option ((List (List Int)) × Int) := (feed_asked.f a0_0 l0_1 l0_2 a1 a2).bind fun bt714 => (if bt714.2 = 0 then ((feed_grid_atHome.f bt714.1 l0_1 l0_2 a2).bind fun t723 => (if t723 = true then (some (([] : List (List Int)), 5)) else ((feed_grid_least.f k bt714.1 l0_1 l0_2 a1 a2).bind fun t724 => ((bits_OnesCount.f (IntKind.u64.wrap (t724))).bind fun t725 => (if 0 ≤ a2 then ((feed_grid_paths.f k bt714.1 l0_1 l0_2 a1 a2 (shl .u64 1 a2) 0 ([] : List Int)).bind fun t726 => ((feed_choose.f k t726 t725 0).bind fun bt729 => (some (bt729.1, 0)))) else (none)))))) else (some (([] : List (List Int)), bt714.2)))
theorem feed_Feeds.mono : ∀ a0 a1 a2 a3 a4 k, LeO (feed_Feeds.f k a0 a1 a2 a3 a4) (feed_Feeds.f (k + 1) a0 a1 a2 a3 a4) := by
 intro a0 a1 a2 a3 a4 k
 unfold feed_Feeds.f
 repeat' first
   | (with_reducible exact feed_choose.mono _ _ _ _)
   | (with_reducible exact feed_grid_least.mono _ _ _ _ _ _)
   | (with_reducible exact feed_grid_paths.mono _ _ _ _ _ _ _ _ _)
   | (with_reducible exact LeO.refl _)
   | (with_reducible exact LeO.none _)
   | (with_reducible refine LeO.ite ?_ ?_)
   | (with_reducible refine LeO.bind ?_ (fun _ => ?_))
   | exact feed_choose.mono _ _ _ _
   | exact feed_grid_least.mono _ _ _ _ _ _
   | exact feed_grid_paths.mono _ _ _ _ _ _ _ _ _
   | exact LeO.none _
   | refine LeO.ite ?_ ?_
   | refine LeO.bind ?_ (fun _ => ?_)
def feed_Feeds.T7 : Bool × List (List Nat × List Nat) := (true, [([], []), ([], []), ([], []), ([], []), ([3], [3]), ([], []), ([0, 1, 2, 4, 5], [0, 1, 2, 4, 5]), ([], []), ([6, 7, 6], [6, 7]), ([8], [8]), ([9], [9]), ([9], [9]), ([10, 8, 0, 1, 2, 3, 4, 5, 6, 7, 8, 9, 10], [10]), ([11, 12, 0, 1, 2, 3, 4, 5, 6, 7, 8, 9, 10, 11, 12], [11])])
def feed_Feeds.B7 : List Nat := [0, 0, 0, 0, 8, 0, 63, 0, 255, 511, 1023, 1023, 2047, 8191]
theorem feed_Feeds.tab7 : rtab .any (opsOf Tryd.f41 7) = feed_Feeds.T7 := by kernel_rfl
theorem feed_Feeds.bits7 : waitsOk feed_Feeds.T7.2 feed_Feeds.B7 = true := by kernel_rfl
set_option maxHeartbeats 8000000 in
set_option maxRecDepth 100000 in
theorem feed_Feeds.calls (k : Nat) (a0_0 : Int) (A0_1 : Option Addr) (c0_1 : Nat) (l0_1 : List (S69)) (A0_2 : Option Addr) (c0_2 : Nat) (l0_2 : List (S71)) (a1 : Int) (a2 : Int) (r1 : List (List Int)) (r2 : Int) (w : World) (hr0_1 : Kd.C k69 w A0_1 l0_1.length l0_1) (hc0_1 : l0_1.length ≤ c0_1) (hr0_2 : Kd.C k71 w A0_2 l0_2.length l0_2) (hc0_2 : l0_2.length ≤ c0_2) (h : feed_Feeds.f k a0_0 l0_1 l0_2 a1 a2 = some (r1, r2)) :
  Calls Tryd.prog 41 #[.agg #[.int .i64 a0_0, .slice A0_1 l0_1.length c0_1, .slice A0_2 l0_2.length c0_2], .int .i64 a1, .int .i64 a2] w fun e w' => ∃ v0_ : Value, e = .returned (.tuple #[v0_, .int .i64 r2]) ∧ Kd.N (Kd.slice 3 (Kd.int .i64)) 28 w' w.heap.size (fun k_ => (w.heap.size ≤ k_)) v0_ r1 ∧ Below w.heap.size w w' := by
 have hu25 := Tryd.underlying25
 have hu73 := Tryd.underlying73
 have hu114 := Tryd.underlying114
 have HR0_1 := Aside0.mk hr0_1
 have HC0_1 := Aside0.mk hc0_1
 clear hr0_1 hc0_1
 have HR0_2 := Aside0.mk hr0_2
 have HC0_2 := Aside0.mk hc0_2
 clear hr0_2 hc0_2
 have HB := Aside0.mk (Below.refl w.heap.size w)
 have H : ((feed_asked.f a0_0 l0_1 l0_2 a1 a2).bind fun bt714 => (if bt714.2 = 0 then ((feed_grid_atHome.f bt714.1 l0_1 l0_2 a2).bind fun t723 => (if t723 = true then (some (([] : List (List Int)), 5)) else ((feed_grid_least.f k bt714.1 l0_1 l0_2 a1 a2).bind fun t724 => ((bits_OnesCount.f (IntKind.u64.wrap (t724))).bind fun t725 => (if 0 ≤ a2 then ((feed_grid_paths.f k bt714.1 l0_1 l0_2 a1 a2 (shl .u64 1 a2) 0 ([] : List Int)).bind fun t726 => ((feed_choose.f k t726 t725 0).bind fun bt729 => (some (bt729.1, 0)))) else (none)))))) else (some (([] : List (List Int)), bt714.2)))) = some (r1, r2) := h
 clear h
 replace H := Option.bind_eq_some_iff.mp H
 obtain ⟨⟨t714, t721⟩, A40, H⟩ := H
 replace H : (if t721 = 0 then ((feed_grid_atHome.f t714 l0_1 l0_2 a2).bind fun t723 => (if t723 = true then (some (([] : List (List Int)), 5)) else ((feed_grid_least.f k t714 l0_1 l0_2 a1 a2).bind fun t724 => ((bits_OnesCount.f (IntKind.u64.wrap (t724))).bind fun t725 => (if 0 ≤ a2 then ((feed_grid_paths.f k t714 l0_1 l0_2 a1 a2 (shl .u64 1 a2) 0 ([] : List Int)).bind fun t726 => ((feed_choose.f k t726 t725 0).bind fun bt729 => (some (bt729.1, 0)))) else (none)))))) else (some (([] : List (List Int)), t721))) = some (r1, r2) := H
 have A4 := Aside0.mk A40
 clear A40
 by_cases c5 : t721 = 0
 ·
  rw [if_pos c5] at H
  have c5b0 : (t721 == 0) = true := beq_iff_eq.mpr c5
  have c5b1 : (t721 != 0) = false := bne_eq_false_iff_eq.mpr c5
  clear c5
  replace H := Option.bind_eq_some_iff.mp H
  obtain ⟨t723, A60, H⟩ := H
  replace H : (if t723 = true then (some (([] : List (List Int)), 5)) else ((feed_grid_least.f k t714 l0_1 l0_2 a1 a2).bind fun t724 => ((bits_OnesCount.f (IntKind.u64.wrap (t724))).bind fun t725 => (if 0 ≤ a2 then ((feed_grid_paths.f k t714 l0_1 l0_2 a1 a2 (shl .u64 1 a2) 0 ([] : List Int)).bind fun t726 => ((feed_choose.f k t726 t725 0).bind fun bt729 => (some (bt729.1, 0)))) else (none))))) = some (r1, r2) := H
  have A6 := Aside0.mk A60
  clear A60
  by_cases c7 : t723 = true
  ·
   subst c7
   have H1 : (some (([] : List (List Int)), 5)) = some (r1, r2) := by rw [if_pos rfl] at H; exact H
   clear H
   have H := H1
   clear H1
   simp only [Option.some.injEq, Prod.mk.injEq] at H
   obtain ⟨rfl, rfl⟩ := H
   go_enter Tryd.func41, Tryd.ntmps41
   go_wp2_with (first | ((with_reducible refine gate_dst (N := 3) rfl ?_); refine box_event ?hg (N := 3) ?hd (cs := #[.int .i64 a0_0, .slice A0_1 l0_1.length c0_1, .slice A0_2 l0_2.length c0_2]) (t := 25) ?hr ?_; (case hd => rfl); (case hg => rfl); (case hr => first | (go_simp; done) | (go_simp; rfl)); intro gb713 hg w8 hbox hb; have BK713 := Aside0.mk (hbox); have GW713 := bsz (w := w) hg; have GE713 := GW713; replace HB := Aside0.mk (below_step bel hb); clear hb hbox hg; have hcz9_0 := blkc BK713.out 0 (.int .i64 a0_0) rfl; have hcz9_1 := blkc BK713.out 1 (.slice A0_1 l0_1.length c0_1) rfl; have hcz9_2 := blkc BK713.out 2 (.slice A0_2 l0_2.length c0_2) rfl) | ((with_reducible refine gate_callee (f := 59) rfl ?_); refine goesL_ (some 17) rfl rfl Tryd.func59 (by kernel_rfl) rfl #[.agg #[.int .i64 a0_0, .slice A0_1 l0_1.length c0_1, .slice A0_2 l0_2.length c0_2], .int .i64 a1, .int .i64 a2] rfl mapz ?_; (with_reducible refine (feed_asked.calls a0_0 _ _ l0_1 _ _ l0_2 a1 a2 t714 t721 _ ?side1 ?side2 ?side3 ?side4 A4.out).mono ?_); (case side1 => exact cbz HR0_1); (case side2 => exact HC0_1.out); (case side3 => exact cbz HR0_2); (case side4 => exact HC0_2.out); rintro e w10 ⟨rfl, hb⟩; refine ⟨_, rfl, ?_⟩; replace BK713 := Aside0.mk (blk_below (g := gb713) blkz hb); replace HB := Aside0.mk (below_step bel hb); (try clear hb); (try clear hb2); (try clear hk); (try clear hi)) | ((with_reducible refine gate_dst (N := 8) rfl ?_); refine box_event ?hg (N := 8) ?hd (cs := #[.int .i64 0, .slice none 0 0, .slice none 0 0]) (t := 73) ?hr ?_; (case hd => rfl); (case hg => rfl); (case hr => first | (go_simp; done) | (go_simp; rfl)); intro gb722 hg w11 hbox hb; have BK722 := Aside0.mk (hbox); have GW722 := bsz (w := w) hg; have GE722 := GW722; have NB713_722 := neL (g := gb713) hg; have NB722_713 := neR (g := gb713) hg; replace BK713 := Aside0.mk (blk_below (g := gb713) blkz hb); replace HB := Aside0.mk (below_step bel hb); clear hb hbox hg; have hnb12 := NB722_713.out; have hnc12 := NB713_722.out; have hcz13_0 := blkc BK722.out 0 (.int .i64 0) rfl; have hcz13_1 := blkc BK722.out 1 (.slice none 0 0) rfl; have hcz13_2 := blkc BK722.out 2 (.slice none 0 0) rfl; have hfz13_0 := blk_frozen BK722.out 0; have hfz13_1 := blk_frozen BK722.out 1; have hfz13_2 := blk_frozen BK722.out 2) | ((with_reducible refine gate_callee (f := 62) rfl ?_); refine goesL_ (some 27) rfl rfl Tryd.func62 (by kernel_rfl) rfl #[.agg #[.int .i64 t714, .slice A0_1 l0_1.length c0_1, .slice A0_2 l0_2.length c0_2], .int .i64 a2] rfl mapz ?_; (with_reducible refine (feed_grid_atHome.calls t714 _ _ l0_1 _ _ l0_2 a2 true _ ?side1 ?side2 ?side3 ?side4 A6.out).mono ?_); (case side1 => exact cbz HR0_1); (case side2 => exact HC0_1.out); (case side3 => exact cbz HR0_2); (case side4 => exact HC0_2.out); rintro e w14 ⟨rfl, hb⟩; refine ⟨_, rfl, ?_⟩; replace BK713 := Aside0.mk (blk_below (g := gb713) (o := .cells #[.int .i64 a0_0, .slice A0_1 l0_1.length c0_1, .slice A0_2 l0_2.length c0_2] 25 (0, 0)) (by (with_reducible repeat (first | refine blk_drewN ?_ _ | refine blk_drew ?_ | refine blk_alloc ?_ _)); refine blk_far ?_ NB713_722.out _; (with_reducible repeat (first | refine blk_drewN ?_ _ | refine blk_drew ?_ | refine blk_alloc ?_ _)); refine blk_far ?_ NB713_722.out _; (with_reducible repeat (first | refine blk_drewN ?_ _ | refine blk_drew ?_ | refine blk_alloc ?_ _)); refine blk_far ?_ NB713_722.out _; (with_reducible repeat (first | refine blk_drewN ?_ _ | refine blk_drew ?_ | refine blk_alloc ?_ _)); exact BK713.out) hb); replace BK722 := Aside0.mk (blk_below (g := gb722) (o := .cells #[.int .i64 t714, .slice A0_1 l0_1.length c0_1, .slice A0_2 l0_2.length c0_2] 73 (0, 0)) (by (with_reducible repeat (first | refine blk_drewN ?_ _ | refine blk_drew ?_ | refine blk_alloc ?_ _)); refine blk_put (cs := #[.int .i64 t714, .slice A0_1 l0_1.length c0_1, .slice none 0 0]) ?_ 2 _ rfl; (with_reducible repeat (first | refine blk_drewN ?_ _ | refine blk_drew ?_ | refine blk_alloc ?_ _)); refine blk_put (cs := #[.int .i64 t714, .slice none 0 0, .slice none 0 0]) ?_ 1 _ rfl; (with_reducible repeat (first | refine blk_drewN ?_ _ | refine blk_drew ?_ | refine blk_alloc ?_ _)); refine blk_put (cs := #[.int .i64 0, .slice none 0 0, .slice none 0 0]) ?_ 0 _ rfl; (with_reducible repeat (first | refine blk_drewN ?_ _ | refine blk_drew ?_ | refine blk_alloc ?_ _)); exact BK722.out) hb); replace HB := Aside0.mk (below_step bel hb); (try clear hb); (try clear hb2); (try clear hk); (try clear hi)))
   go_ret2
   exact ⟨_, ezz, by first | exact Kd.S_nil _ _ _ _ _ | exact Kd.N_nil _ _ _ _ _ | exact Kd.V_nil _ _ _ _ _ | exact Kd.Q_nil _ _ _ _ _ | exact Kd.R_nil _ _ _ _ _, bel⟩
  ·
   replace c7 := Bool.eq_false_iff.mpr c7
   subst c7
   have H1 : ((feed_grid_least.f k t714 l0_1 l0_2 a1 a2).bind fun t724 => ((bits_OnesCount.f (IntKind.u64.wrap (t724))).bind fun t725 => (if 0 ≤ a2 then ((feed_grid_paths.f k t714 l0_1 l0_2 a1 a2 (shl .u64 1 a2) 0 ([] : List Int)).bind fun t726 => ((feed_choose.f k t726 t725 0).bind fun bt729 => (some (bt729.1, 0)))) else (none)))) = some (r1, r2) := by rw [if_neg (show ¬ (false = true) by decide)] at H; exact H
   clear H
   have H := H1
   clear H1
   replace H := Option.bind_eq_some_iff.mp H
   obtain ⟨t724, A150, H⟩ := H
   replace H : ((bits_OnesCount.f (IntKind.u64.wrap (t724))).bind fun t725 => (if 0 ≤ a2 then ((feed_grid_paths.f k t714 l0_1 l0_2 a1 a2 (shl .u64 1 a2) 0 ([] : List Int)).bind fun t726 => ((feed_choose.f k t726 t725 0).bind fun bt729 => (some (bt729.1, 0)))) else (none))) = some (r1, r2) := H
   have A15 := Aside0.mk A150
   clear A150
   replace H := Option.bind_eq_some_iff.mp H
   obtain ⟨t725, A160, H⟩ := H
   replace H : (if 0 ≤ a2 then ((feed_grid_paths.f k t714 l0_1 l0_2 a1 a2 (shl .u64 1 a2) 0 ([] : List Int)).bind fun t726 => ((feed_choose.f k t726 t725 0).bind fun bt729 => (some (bt729.1, 0)))) else (none)) = some (r1, r2) := H
   have A16 := Aside0.mk A160
   clear A160
   by_cases c17 : 0 ≤ a2
   ·
    rw [if_pos c17] at H
    have c17b0 := eq_true c17
    have c17b1 : decide (0 ≤ a2) = true := decide_eq_true c17
    clear c17
    obtain ⟨ji18, hji18⟩ : ∃ j_ : Int, (shl .u64 1 a2) = j_ := ⟨_, rfl⟩
    replace H : ((feed_grid_paths.f k t714 l0_1 l0_2 a1 a2 (ji18) 0 ([] : List Int)).bind fun t726 => ((feed_choose.f k t726 t725 0).bind fun bt729 => (some (bt729.1, 0)))) = some (r1, r2) := by first | (rw [hji18] at H; exact H) | (simp only [hji18] at H ⊢; exact H)
    (try rw [hji18] at A4)
    (try rw [hji18] at A6)
    (try rw [hji18] at A15)
    (try rw [hji18] at A16)
    have hji18_ : (IntKind.u64.wrap (1 * 2 ^ min a2.toNat 64)) = ji18 := hji18
    have hji18z : a2 ≤ 64 → (IntKind.u64.wrap (1 * 2 ^ a2.toNat)) = ji18 := shl_small hji18
    have hji18u : (IntKind.u64.wrap (2 ^ min a2.toNat 64)) = ji18 := by have h_ := hji18_; rw [Int.one_mul] at h_; exact h_
    have hji18v : a2 ≤ 64 → (IntKind.u64.wrap (2 ^ a2.toNat)) = ji18 := fun hle_ => by have h_ := hji18z hle_; rw [Int.one_mul] at h_; exact h_
    replace H := Option.bind_eq_some_iff.mp H
    obtain ⟨t726, A190, H⟩ := H
    replace H : ((feed_choose.f k t726 t725 0).bind fun bt729 => (some (bt729.1, 0))) = some (r1, r2) := H
    have A19 := Aside0.mk A190
    clear A190
    replace H := Option.bind_eq_some_iff.mp H
    obtain ⟨⟨t729, t732⟩, A200, H⟩ := H
    replace H : (some (t729, 0)) = some (r1, r2) := H
    have A20 := Aside0.mk A200
    clear A200
    simp only [Option.some.injEq, Prod.mk.injEq] at H
    obtain ⟨rfl, rfl⟩ := H
    go_enter Tryd.func41, Tryd.ntmps41
    try go_wp2_with (first | ((with_reducible refine gate_dst (N := 3) rfl ?_); refine box_event ?hg (N := 3) ?hd (cs := #[.int .i64 a0_0, .slice A0_1 l0_1.length c0_1, .slice A0_2 l0_2.length c0_2]) (t := 25) ?hr ?_; (case hd => rfl); (case hg => rfl); (case hr => first | (go_simp; done) | (go_simp; rfl)); intro gb713 hg w21 hbox hb; have BK713 := Aside0.mk (hbox); have GW713 := bsz (w := w) hg; have GE713 := GW713; replace HB := Aside0.mk (below_step bel hb); clear hb hbox hg; have hcz22_0 := blkc BK713.out 0 (.int .i64 a0_0) rfl; have hcz22_1 := blkc BK713.out 1 (.slice A0_1 l0_1.length c0_1) rfl; have hcz22_2 := blkc BK713.out 2 (.slice A0_2 l0_2.length c0_2) rfl) | ((with_reducible refine gate_callee (f := 59) rfl ?_); refine goesL_ (some 17) rfl rfl Tryd.func59 (by kernel_rfl) rfl #[.agg #[.int .i64 a0_0, .slice A0_1 l0_1.length c0_1, .slice A0_2 l0_2.length c0_2], .int .i64 a1, .int .i64 a2] rfl mapz ?_; (with_reducible refine (feed_asked.calls a0_0 _ _ l0_1 _ _ l0_2 a1 a2 t714 t721 _ ?side1 ?side2 ?side3 ?side4 A4.out).mono ?_); (case side1 => exact cbz HR0_1); (case side2 => exact HC0_1.out); (case side3 => exact cbz HR0_2); (case side4 => exact HC0_2.out); rintro e w23 ⟨rfl, hb⟩; refine ⟨_, rfl, ?_⟩; replace BK713 := Aside0.mk (blk_below (g := gb713) blkz hb); replace HB := Aside0.mk (below_step bel hb); (try clear hb); (try clear hb2); (try clear hk); (try clear hi)) | ((with_reducible refine gate_dst (N := 8) rfl ?_); refine box_event ?hg (N := 8) ?hd (cs := #[.int .i64 0, .slice none 0 0, .slice none 0 0]) (t := 73) ?hr ?_; (case hd => rfl); (case hg => rfl); (case hr => first | (go_simp; done) | (go_simp; rfl)); intro gb722 hg w24 hbox hb; have BK722 := Aside0.mk (hbox); have GW722 := bsz (w := w) hg; have GE722 := GW722; have NB713_722 := neL (g := gb713) hg; have NB722_713 := neR (g := gb713) hg; replace BK713 := Aside0.mk (blk_below (g := gb713) blkz hb); replace HB := Aside0.mk (below_step bel hb); clear hb hbox hg; have hnb25 := NB722_713.out; have hnc25 := NB713_722.out; have hcz26_0 := blkc BK722.out 0 (.int .i64 0) rfl; have hcz26_1 := blkc BK722.out 1 (.slice none 0 0) rfl; have hcz26_2 := blkc BK722.out 2 (.slice none 0 0) rfl; have hfz26_0 := blk_frozen BK722.out 0; have hfz26_1 := blk_frozen BK722.out 1; have hfz26_2 := blk_frozen BK722.out 2) | ((with_reducible refine gate_callee (f := 62) rfl ?_); refine goesL_ (some 27) rfl rfl Tryd.func62 (by kernel_rfl) rfl #[.agg #[.int .i64 t714, .slice A0_1 l0_1.length c0_1, .slice A0_2 l0_2.length c0_2], .int .i64 a2] rfl mapz ?_; (with_reducible refine (feed_grid_atHome.calls t714 _ _ l0_1 _ _ l0_2 a2 false _ ?side1 ?side2 ?side3 ?side4 A6.out).mono ?_); (case side1 => exact cbz HR0_1); (case side2 => exact HC0_1.out); (case side3 => exact cbz HR0_2); (case side4 => exact HC0_2.out); rintro e w27 ⟨rfl, hb⟩; refine ⟨_, rfl, ?_⟩; replace BK713 := Aside0.mk (blk_below (g := gb713) (o := .cells #[.int .i64 a0_0, .slice A0_1 l0_1.length c0_1, .slice A0_2 l0_2.length c0_2] 25 (0, 0)) (by (with_reducible repeat (first | refine blk_drewN ?_ _ | refine blk_drew ?_ | refine blk_alloc ?_ _)); refine blk_far ?_ NB713_722.out _; (with_reducible repeat (first | refine blk_drewN ?_ _ | refine blk_drew ?_ | refine blk_alloc ?_ _)); refine blk_far ?_ NB713_722.out _; (with_reducible repeat (first | refine blk_drewN ?_ _ | refine blk_drew ?_ | refine blk_alloc ?_ _)); refine blk_far ?_ NB713_722.out _; (with_reducible repeat (first | refine blk_drewN ?_ _ | refine blk_drew ?_ | refine blk_alloc ?_ _)); exact BK713.out) hb); replace BK722 := Aside0.mk (blk_below (g := gb722) (o := .cells #[.int .i64 t714, .slice A0_1 l0_1.length c0_1, .slice A0_2 l0_2.length c0_2] 73 (0, 0)) (by (with_reducible repeat (first | refine blk_drewN ?_ _ | refine blk_drew ?_ | refine blk_alloc ?_ _)); refine blk_put (cs := #[.int .i64 t714, .slice A0_1 l0_1.length c0_1, .slice none 0 0]) ?_ 2 _ rfl; (with_reducible repeat (first | refine blk_drewN ?_ _ | refine blk_drew ?_ | refine blk_alloc ?_ _)); refine blk_put (cs := #[.int .i64 t714, .slice none 0 0, .slice none 0 0]) ?_ 1 _ rfl; (with_reducible repeat (first | refine blk_drewN ?_ _ | refine blk_drew ?_ | refine blk_alloc ?_ _)); refine blk_put (cs := #[.int .i64 0, .slice none 0 0, .slice none 0 0]) ?_ 0 _ rfl; (with_reducible repeat (first | refine blk_drewN ?_ _ | refine blk_drew ?_ | refine blk_alloc ?_ _)); exact BK722.out) hb); replace HB := Aside0.mk (below_step bel hb); (try clear hb); (try clear hb2); (try clear hk); (try clear hi); have hcz28_0 := blkc BK722.out 0 (.int .i64 t714) rfl; have hcz28_1 := blkc BK722.out 1 (.slice A0_1 l0_1.length c0_1) rfl; have hcz28_2 := blkc BK722.out 2 (.slice A0_2 l0_2.length c0_2) rfl; have hfz28_0 := blk_frozen BK722.out 0; have hfz28_1 := blk_frozen BK722.out 1; have hfz28_2 := blk_frozen BK722.out 2) | ((with_reducible refine gate_callee (f := 64) rfl ?_); refine goesL_ (some 31) rfl rfl Tryd.func64 (by kernel_rfl) rfl #[.agg #[.int .i64 t714, .slice A0_1 l0_1.length c0_1, .slice A0_2 l0_2.length c0_2], .int .i64 a1, .int .i64 a2] rfl mapz ?_; (with_reducible refine (feed_grid_least.calls k t714 _ _ l0_1 _ _ l0_2 a1 a2 t724 _ ?side1 ?side2 ?side3 ?side4 A15.out).mono ?_); (case side1 => exact cbz HR0_1); (case side2 => exact HC0_1.out); (case side3 => exact cbz HR0_2); (case side4 => exact HC0_2.out); rintro e w29 ⟨rfl, hb⟩; refine ⟨_, rfl, ?_⟩; replace BK713 := Aside0.mk (blk_below (g := gb713) blkz hb); replace BK722 := Aside0.mk (blk_below (g := gb722) blkz hb); replace HB := Aside0.mk (below_step bel hb); (try clear hb); (try clear hb2); (try clear hk); (try clear hi)) | ((with_reducible refine gate_callee (f := 80) rfl ?_); refine goesL_ (some 33) rfl rfl Tryd.func80 (by kernel_rfl) rfl #[.int .u64 (IntKind.u64.wrap (t724))] rfl mapz ?_; (with_reducible refine (bits_OnesCount.calls (IntKind.u64.wrap (t724)) t725 _ A16.out).mono ?_); rintro e w' ⟨rfl, ⟨nd, rfl⟩⟩; refine ⟨_, rfl, ?_⟩))
    (try (rw [drewN_self w29]; generalize hq_ : World.drewN w29 _ = w29; have n0_ : Aside0 (w29.heap[gb713]? = some (.cells #[.int .i64 a0_0, .slice A0_1 l0_1.length c0_1, .slice A0_2 l0_2.length c0_2] 25 (0, 0))) := ⟨by rw [← hq_]; exact blkz⟩; have n1_ : Aside0 (w29.heap[gb722]? = some (.cells #[.int .i64 t714, .slice A0_1 l0_1.length c0_1, .slice A0_2 l0_2.length c0_2] 73 (0, 0))) := ⟨by rw [← hq_]; exact blkz⟩; have n2_ : Aside0 (Below w.heap.size w w29) := ⟨by rw [← hq_]; exact bel⟩; clear BK713 BK722 HB hq_; have BK713 := n0_; have BK722 := n1_; have HB := n2_; clear n0_ n1_ n2_))
    have n0_ := Aside0.mk (blk_drew BK713.out)
    have n1_ := Aside0.mk (blk_drew BK722.out)
    have n2_ := Aside0.mk (below_drew1 HB.out)
    clear BK713
    clear BK722
    clear HB
    have BK713 := n0_
    have BK722 := n1_
    have HB := n2_
    clear n0_ n1_ n2_
    refine start_ (n := 14) (S := fun w' => w'.cell? ⟨gb722, 0, none⟩ = some (.int .i64 t714) ∧ w'.cell? ⟨gb722, 1, none⟩ = some (.slice A0_1 l0_1.length c0_1) ∧ w'.cell? ⟨gb722, 2, none⟩ = some (.slice A0_2 l0_2.length c0_2)) (ds := []) #[false, false, false, false, false, false, false, false, false, false, false, false, false, false] (by kernel_rfl) rfl rfl ⟨(blk_cell BK722.out 0).trans rfl, (blk_cell BK722.out 1).trans rfl, (blk_cell BK722.out 2).trans rfl⟩ (fun hHeld => ?_); refine with_tabW feed_Feeds.tab7 feed_Feeds.bits7 (fun HT_ HW_ => ?_)
    generalize w29.drew = w30 at BK713 BK722 HB hHeld ⊢
    refine pst (i := 1) (N := some 36) (bz 14 2) (any_of HT_.out (by kernel_rfl)) ?_
    refine pst (i := 2) (N := some 37) (bz 14 6) (any_of HT_.out (by kernel_rfl)) ?_
    refine pst (i := 3) (N := some 38) (bz 14 14) (any_of HT_.out (by kernel_rfl)) ?_
    refine pst (i := 4) (N := some 39) (bz 14 30) (any_of HT_.out (by kernel_rfl)) ?_
    refine pst (i := 5) (N := some 40) (bz 14 62) (any_of HT_.out (by kernel_rfl)) ?_
    refine pst (i := 7) (N := some 42) (bz 14 190) (any_of HT_.out (by kernel_rfl)) ?_
    refine tst3 (i := 0) (N := some 35) (bz 14 191) (take_ofW HT_.out HW_.out (by kernel_rfl)) hHeld ?_
    refine one_ (i := 6) (N := some 41) #[true, true, true, true, true, true, true, true, false, false, false, false, false, false] rfl rfl (one_of HT_.out (by kernel_rfl)) (by decide) (fun K hK => ?_)
    refine goes_ Tryd.func82 (by kernel_rfl) rfl #[.agg #[.int .i64 t714, .slice A0_1 l0_1.length c0_1, .slice A0_2 l0_2.length c0_2], .int .i64 a1, .int .i64 a2, .int .u64 ji18, .agg #[.int .i64 0, .slice none 0 0]] (by rfl) rfl rfl (by (try simp only [List.map_toArray, List.map_cons, List.map_nil]); first | done | (simp only [hji18]; rfl) | rfl | (simp only [List.length_drop, List.length_take]; rfl)) ?_
    refine (feed_grid_paths.calls k t714 _ _ l0_1 _ _ l0_2 a1 a2 ji18 0 (fun k_ => False) _ _ ([] : List Int) t726 _ ?side1 ?side2 ?side3 ?side4 ?side5 A19.out).mono ?_
    (case side1 => exact cbz HR0_1)
    (case side2 => exact HC0_1.out)
    (case side3 => exact cbz HR0_2)
    (case side4 => exact HC0_2.out)
    (case side5 => exact Kd.V_nil _ _ _ _ _)
    rintro e w31 ⟨v727, rfl, ho0, hb⟩
    refine ⟨_, rfl, ?_⟩
    have n0_ := Aside0.mk (Kd.N_lower (Kd.N_mono (ok' := fun k_ => (w.heap.size ≤ k_) ∧ k_ ≠ gb713 ∧ k_ ≠ gb722) ho0 (fun k_ hk_ => ⟨Or.elim hk_ (fun hs_ => (hs_).elim) (fun hn_ => (Nat.le_trans (below_size bel) hn_)), Or.elim hk_ (fun hs_ => (hs_).elim) (fun hn_ => (Kd.freshB (g := gb713) (o := .cells #[.int .i64 a0_0, .slice A0_1 l0_1.length c0_1, .slice A0_2 l0_2.length c0_2] 25 (0, 0)) blkz k_ hn_)), Or.elim hk_ (fun hs_ => (hs_).elim) (fun hn_ => (Kd.freshB (g := gb722) (o := .cells #[.int .i64 t714, .slice A0_1 l0_1.length c0_1, .slice A0_2 l0_2.length c0_2] 73 (0, 0)) blkz k_ hn_))⟩)) (below_size bel))
    have n1_ := Aside0.mk (blk_below (g := gb713) blkz hb)
    have n2_ := Aside0.mk (blk_below (g := gb722) blkz hb)
    have n3_ := Aside0.mk (below_step bel hb)
    clear BK713
    clear BK722
    clear HB
    have HO728 := n0_
    have BK713 := n1_
    have BK722 := n2_
    have HB := n3_
    clear n0_ n1_ n2_ n3_
    (try clear hb)
    (try clear hb2)
    (try clear hk)
    (try clear hi)
    (try clear ho0)
    obtain ⟨Ao32, co32, eo32⟩ := Kd.N_slice HO728.out
    (first | subst eo32 | (injection eo32 with f1_ f2_ f3_; have f4_ := f1_.symm; have f5_ := f3_.symm; clear f1_ f2_ f3_; subst f4_; subst f5_))
    refine hK.out _ _ ⟨(blk_cell BK722.out 0).trans rfl, (blk_cell BK722.out 1).trans rfl, (blk_cell BK722.out 2).trans rfl⟩ (fun hHeld => ?_)
    clear hK K
    refine norm_ (a' := ?_) ?_ ?_
    rotate_left
    ·
     show Act.put _ (some 41) _ = _
     simp only [Act.put, List.setIfInBounds_toArray, List.set_cons_zero, List.set_cons_succ, i64_w, i32_w]
     rfl
    refine one_ (i := 8) (N := some 43) #[true, true, true, true, true, true, true, true, true, false, false, false, false, false] rfl rfl (one_of HT_.out (by kernel_rfl)) (by decide) (fun K hK => ?_)
    refine goes_ Tryd.func81 (by kernel_rfl) rfl #[.slice Ao32 t726.length co32, .int .i64 t725, .int .i64 0] (by rfl) rfl rfl mapz ?_
    with_reducible refine (feed_choose.calls k (fun k_ => ((w.heap.size ≤ k_) ∧ (k_ ≠ gb713 ∧ k_ ≠ gb722))) _ _ t726 t725 0 t729 t732 _ ?side1 A20.out).mono ?_
    (case side1 => exact Kd.N_V (HO728.out))
    rintro e w33 ⟨v730, rfl, ho0, hb⟩
    refine ⟨_, rfl, ?_⟩
    have n0_ := Aside0.mk (Kd.N_elder' (by (with_reducible repeat (first | apply Kd.N_alloc | apply Kd.N_drewN | apply Kd.N_drew)); exact HO728.out) (Kd.N_base ho0) hb)
    have n1_ := Aside0.mk (Kd.N_lower (Kd.N_mono (ok' := fun k_ => (w.heap.size ≤ k_) ∧ k_ ≠ gb713 ∧ k_ ≠ gb722) ho0 (fun k_ hk_ => ⟨Or.elim hk_ (fun hs_ => hs_.1) (fun hn_ => (Nat.le_trans (below_size bel) hn_)), Or.elim hk_ (fun hs_ => hs_.2.1) (fun hn_ => (Kd.freshB (g := gb713) (o := .cells #[.int .i64 a0_0, .slice A0_1 l0_1.length c0_1, .slice A0_2 l0_2.length c0_2] 25 (0, 0)) blkz k_ hn_)), Or.elim hk_ (fun hs_ => hs_.2.2) (fun hn_ => (Kd.freshB (g := gb722) (o := .cells #[.int .i64 t714, .slice A0_1 l0_1.length c0_1, .slice A0_2 l0_2.length c0_2] 73 (0, 0)) blkz k_ hn_))⟩)) (below_size bel))
    have n2_ := Aside0.mk (blk_below (g := gb713) blkz hb)
    have n3_ := Aside0.mk (blk_below (g := gb722) blkz hb)
    have n4_ := Aside0.mk (below_step bel hb)
    clear HO728
    clear BK713
    clear BK722
    clear HB
    have HO728 := n0_
    have HO731 := n1_
    have BK713 := n2_
    have BK722 := n3_
    have HB := n4_
    clear n0_ n1_ n2_ n3_ n4_
    (try clear hb)
    (try clear hb2)
    (try clear hk)
    (try clear hi)
    (try clear ho0)
    refine hK.out _ _ ⟨(blk_cell BK722.out 0).trans rfl, (blk_cell BK722.out 1).trans rfl, (blk_cell BK722.out 2).trans rfl⟩ (fun hHeld => ?_)
    clear hK K
    refine norm_ (a' := ?_) ?_ ?_
    rotate_left
    ·
     show Act.put _ (some 43) _ = _
     simp only [Act.put, List.setIfInBounds_toArray, List.set_cons_zero, List.set_cons_succ, i64_w, i32_w]
     rfl
    refine pst (i := 9) (N := some 34) (bz 14 1023) (any_of HT_.out (by kernel_rfl)) ?_
    refine pst (i := 10) (N := some 44) (bz 14 2047) (any_of HT_.out (by kernel_rfl)) ?_
    refine pst (i := 11) (N := some 45) (bz 14 4095) (any_of HT_.out (by kernel_rfl)) ?_
    refine pst (i := 12) (N := some 11) (bz 14 8191) (any_of HT_.out (by kernel_rfl)) ?_
    refine pst (i := 13) (N := some 12) (bz 14 16383) (any_of HT_.out (by kernel_rfl)) ?_
    refine done_ (done_of HT_.out (by kernel_rfl)) ?_
    try go_wp2
    go_ret2
    exact ⟨_, by first | rfl | (simp [errW_none, errW_some] <;> rfl) | (simp only [← hji18]; first | rfl | (simp [errW_none, errW_some] <;> rfl)) | (simp [*, errW_none, errW_some] <;> rfl), by (with_reducible repeat (first | apply Kd.N_alloc | apply Kd.N_drewN | apply Kd.N_drew)); exact Kd.N_mono HO731.out (fun _ hk => hk.1), bel⟩
   ·
    rw [if_neg c17] at H
    exact absurd H (by simp)
 ·
  rw [if_neg c5] at H
  have c5b0 : (t721 == 0) = false := beq_eq_false_iff_ne.mpr c5
  have c5b1 : (t721 != 0) = true := bne_iff_ne.mpr c5
  simp only [Option.some.injEq, Prod.mk.injEq] at H
  obtain ⟨rfl, rfl⟩ := H
  go_enter Tryd.func41, Tryd.ntmps41
  go_wp2_with (first | ((with_reducible refine gate_dst (N := 3) rfl ?_); refine box_event ?hg (N := 3) ?hd (cs := #[.int .i64 a0_0, .slice A0_1 l0_1.length c0_1, .slice A0_2 l0_2.length c0_2]) (t := 25) ?hr ?_; (case hd => rfl); (case hg => rfl); (case hr => first | (go_simp; done) | (go_simp; rfl)); intro gb713 hg w34 hbox hb; have BK713 := Aside0.mk (hbox); have GW713 := bsz (w := w) hg; have GE713 := GW713; replace HB := Aside0.mk (below_step bel hb); clear hb hbox hg; have hcz35_0 := blkc BK713.out 0 (.int .i64 a0_0) rfl; have hcz35_1 := blkc BK713.out 1 (.slice A0_1 l0_1.length c0_1) rfl; have hcz35_2 := blkc BK713.out 2 (.slice A0_2 l0_2.length c0_2) rfl) | ((with_reducible refine gate_callee (f := 59) rfl ?_); refine goesL_ (some 17) rfl rfl Tryd.func59 (by kernel_rfl) rfl #[.agg #[.int .i64 a0_0, .slice A0_1 l0_1.length c0_1, .slice A0_2 l0_2.length c0_2], .int .i64 a1, .int .i64 a2] rfl mapz ?_; (with_reducible refine (feed_asked.calls a0_0 _ _ l0_1 _ _ l0_2 a1 a2 t714 t721 _ ?side1 ?side2 ?side3 ?side4 A4.out).mono ?_); (case side1 => exact cbz HR0_1); (case side2 => exact HC0_1.out); (case side3 => exact cbz HR0_2); (case side4 => exact HC0_2.out); rintro e w36 ⟨rfl, hb⟩; refine ⟨_, rfl, ?_⟩; replace BK713 := Aside0.mk (blk_below (g := gb713) blkz hb); replace HB := Aside0.mk (below_step bel hb); (try clear hb); (try clear hb2); (try clear hk); (try clear hi)) | ((with_reducible refine gate_dst (N := 8) rfl ?_); refine box_event ?hg (N := 8) ?hd (cs := #[.int .i64 0, .slice none 0 0, .slice none 0 0]) (t := 73) ?hr ?_; (case hd => rfl); (case hg => rfl); (case hr => first | (go_simp; done) | (go_simp; rfl)); intro gb722 hg w37 hbox hb; have BK722 := Aside0.mk (hbox); have GW722 := bsz (w := w) hg; have GE722 := GW722; have NB713_722 := neL (g := gb713) hg; have NB722_713 := neR (g := gb713) hg; replace BK713 := Aside0.mk (blk_below (g := gb713) blkz hb); replace HB := Aside0.mk (below_step bel hb); clear hb hbox hg; have hnb38 := NB722_713.out; have hnc38 := NB713_722.out; have hcz39_0 := blkc BK722.out 0 (.int .i64 0) rfl; have hcz39_1 := blkc BK722.out 1 (.slice none 0 0) rfl; have hcz39_2 := blkc BK722.out 2 (.slice none 0 0) rfl; have hfz39_0 := blk_frozen BK722.out 0; have hfz39_1 := blk_frozen BK722.out 1; have hfz39_2 := blk_frozen BK722.out 2))
  go_ret2
  exact ⟨_, ezz, by first | exact Kd.S_nil _ _ _ _ _ | exact Kd.N_nil _ _ _ _ _ | exact Kd.V_nil _ _ _ _ _ | exact Kd.Q_nil _ _ _ _ _ | exact Kd.R_nil _ _ _ _ _, bel⟩

end Go.Proofs.YtoilhnmdemnknaaDoor.XFeed