-- Written by wip/pack.py of this repo: texts of this claim, put together.
import Derived.Test.YtoilhnmdemnknaaDoorKFeedIsolatesb
-- Written by wip/xprint.py of this repo, over the kit's print.py: out of the translation; the oracles in it are by hand. Not trusted: Lean checks it.
namespace Go.Proofs.YtoilhnmdemnknaaDoor.XFeed
open Go.RowKit Go.Proofs.YtoilhnmdemnknaaDoorW.PrintWords Go.Proofs.YtoilhnmdemnknaaDoorW.PrintLast Go.Proofs.YtoilhnmdemnknaaDoorW.PrintMore
attribute [local go_sem] max2_int min2_int max_two min_two max_three min_three max_four min_four   -- for this text's walks alone
set_option linter.unusedVariables false
set_option linter.unusedSimpArgs false

/-! ### feed_grid_fed: function 89 -/
mutual
def feed_grid_fed.l0 : Nat → Int → List Int → List (S71) → Int → Int → Int → List (S69) → List (S71) → Option (List Int)
 | 0, _, _, _, _, _, _, _, _ => none
 | k + 1, x1, x5, x16, x17, x18, x114000, x114001, x114002 => if x18 < x17 then (if 0 ≤ x18 then (if x18 < (x16.length : Int) then ((feed_grid_group.f k x114000 x114001 x114002 x1 ((rd_T71 x16 x18).f0)).bind fun t119 => (feed_grid_fed.l1 k x1 x5 t119 x16 x17 x18 (x5.length : Int) 0 x114000 x114001 x114002 ((rd_T71 x16 x18).f0) ((rd_T71 x16 x18).f1))) else (none)) else (none)) else (some x5)
def feed_grid_fed.l1 : Nat → Int → List Int → Int → List (S71) → Int → Int → Int → Int → Int → List (S69) → List (S71) → Int → Int → Option (List Int)
 | 0, _, _, _, _, _, _, _, _, _, _, _, _, _ => none
 | k + 1, x1, x5, x8, x16, x17, x18, x28, x29, x114000, x114001, x114002, x119000, x119001 => if x29 < x28 then (if 0 ≤ x29 then (if (Go.bits .and .u64 (shr .u64 x8 x29) 1) = 1 then (if x29 < (x5.length : Int) then (if 0 ≤ x119001 then (feed_grid_fed.l1 k x1 (x5.set (x29 : Int).toNat (Go.bits .or .u64 (rd x5 x29) (shl .u64 1 x119001))) x8 x16 x17 x18 x28 (wrap64 (x29 + 1)) x114000 x114001 x114002 x119000 x119001) else (none)) else (none)) else (feed_grid_fed.l1 k x1 x5 x8 x16 x17 x18 x28 (wrap64 (x29 + 1)) x114000 x114001 x114002 x119000 x119001)) else (none)) else (feed_grid_fed.l0 k x1 x5 x16 x17 (wrap64 (x18 + 1)) x114000 x114001 x114002)
end
def feed_grid_fed.f (k : Nat) (a0_0 : Int) (l0_1 : List (S69)) (l0_2 : List (S71)) (a1 : Int) : Option (List Int) := if 0 ≤ a0_0 then (if (a0_0 : Int).toNat ≤ 35184372088832 then (feed_grid_fed.l0 k a1 (List.replicate (a0_0 : Int).toNat 0) l0_2 (l0_2.length : Int) 0 a0_0 l0_1 l0_2) else (none)) else (none)
theorem feed_grid_fed.mono_l : ∀ k, (∀ y0 y1 y2 y3 y4 y5 y6 y7, LeO (feed_grid_fed.l0 k y0 y1 y2 y3 y4 y5 y6 y7) (feed_grid_fed.l0 (k + 1) y0 y1 y2 y3 y4 y5 y6 y7)) ∧ (∀ y0 y1 y2 y3 y4 y5 y6 y7 y8 y9 y10 y11 y12, LeO (feed_grid_fed.l1 k y0 y1 y2 y3 y4 y5 y6 y7 y8 y9 y10 y11 y12) (feed_grid_fed.l1 (k + 1) y0 y1 y2 y3 y4 y5 y6 y7 y8 y9 y10 y11 y12))
 | 0 => ⟨fun _ _ _ _ _ _ _ _ r h => by simp [feed_grid_fed.l0] at h, fun _ _ _ _ _ _ _ _ _ _ _ _ _ r h => by simp [feed_grid_fed.l1] at h⟩
 | k + 1 => by
  obtain ⟨ih0, ih1⟩ := feed_grid_fed.mono_l k
  refine ⟨?_, ?_⟩
  ·
   intro y0 y1 y2 y3 y4 y5 y6 y7
   unfold feed_grid_fed.l0
   repeat' first
   | (with_reducible exact ih0 _ _ _ _ _ _ _ _)
   | (with_reducible exact ih1 _ _ _ _ _ _ _ _ _ _ _ _ _)
   | (with_reducible exact feed_grid_group.mono _ _ _ _ _ _)
   | (with_reducible exact LeO.refl _)
   | (with_reducible exact LeO.none _)
   | (with_reducible refine LeO.ite ?_ ?_)
   | (with_reducible refine LeO.bind ?_ (fun _ => ?_))
   | exact ih0 _ _ _ _ _ _ _ _
   | exact ih1 _ _ _ _ _ _ _ _ _ _ _ _ _
   | exact feed_grid_group.mono _ _ _ _ _ _
   | exact LeO.none _
   | refine LeO.ite ?_ ?_
   | refine LeO.bind ?_ (fun _ => ?_)
  ·
   intro y0 y1 y2 y3 y4 y5 y6 y7 y8 y9 y10 y11 y12
   unfold feed_grid_fed.l1
   repeat' first
   | (with_reducible exact ih0 _ _ _ _ _ _ _ _)
   | (with_reducible exact ih1 _ _ _ _ _ _ _ _ _ _ _ _ _)
   | (with_reducible exact feed_grid_group.mono _ _ _ _ _ _)
   | (with_reducible exact LeO.refl _)
   | (with_reducible exact LeO.none _)
   | (with_reducible refine LeO.ite ?_ ?_)
   | (with_reducible refine LeO.bind ?_ (fun _ => ?_))
   | exact ih0 _ _ _ _ _ _ _ _
   | exact ih1 _ _ _ _ _ _ _ _ _ _ _ _ _
   | exact feed_grid_group.mono _ _ _ _ _ _
   | exact LeO.none _
   | refine LeO.ite ?_ ?_
   | refine LeO.bind ?_ (fun _ => ?_)
theorem feed_grid_fed.mono : ∀ a0 a1 a2 a3 k, LeO (feed_grid_fed.f k a0 a1 a2 a3) (feed_grid_fed.f (k + 1) a0 a1 a2 a3) := by
 intro a0 a1 a2 a3 k
 obtain ⟨ih0, ih1⟩ := feed_grid_fed.mono_l k
 unfold feed_grid_fed.f
 repeat' first
   | (with_reducible exact ih0 _ _ _ _ _ _ _ _)
   | (with_reducible exact ih1 _ _ _ _ _ _ _ _ _ _ _ _ _)
   | (with_reducible exact feed_grid_group.mono _ _ _ _ _ _)
   | (with_reducible exact LeO.refl _)
   | (with_reducible exact LeO.none _)
   | (with_reducible refine LeO.ite ?_ ?_)
   | (with_reducible refine LeO.bind ?_ (fun _ => ?_))
   | exact ih0 _ _ _ _ _ _ _ _
   | exact ih1 _ _ _ _ _ _ _ _ _ _ _ _ _
   | exact feed_grid_group.mono _ _ _ _ _ _
   | exact LeO.none _
   | refine LeO.ite ?_ ?_
   | refine LeO.bind ?_ (fun _ => ?_)
def feed_grid_fed.T10 : Bool × List (List Nat × List Nat) := (true, [([], []), ([], []), ([0, 1], [0, 1]), ([2], [2]), ([], []), ([4], [4]), ([5], [5]), ([3, 6], [3, 6]), ([0, 1, 0, 1, 2, 3, 4, 5, 6, 7], [0, 1]), ([8, 7, 0, 1, 2, 3, 4, 5, 6, 7], [7, 8])])
def feed_grid_fed.B10 : List Nat := [0, 0, 3, 7, 0, 16, 48, 127, 255, 511]
theorem feed_grid_fed.tab10 : rtab .any (opsOf Tryd.f89 10) = feed_grid_fed.T10 := by kernel_rfl
theorem feed_grid_fed.bits10 : waitsOk feed_grid_fed.T10.2 feed_grid_fed.B10 = true := by kernel_rfl
set_option maxHeartbeats 8000000 in
set_option maxRecDepth 100000 in
theorem feed_grid_fed.calls (k : Nat) (a0_0 : Int) (A0_1 : Option Addr) (c0_1 : Nat) (l0_1 : List (S69)) (A0_2 : Option Addr) (c0_2 : Nat) (l0_2 : List (S71)) (a1 : Int) (r : List Int) (w : World) (hr0_1 : Kd.C k69 w A0_1 l0_1.length l0_1) (hc0_1 : l0_1.length ≤ c0_1) (hr0_2 : Kd.C k71 w A0_2 l0_2.length l0_2) (hc0_2 : l0_2.length ≤ c0_2) (h : feed_grid_fed.f k a0_0 l0_1 l0_2 a1 = some r) :
  Calls Tryd.prog 89 #[.agg #[.int .i64 a0_0, .slice A0_1 l0_1.length c0_1, .slice A0_2 l0_2.length c0_2], .int .i64 a1] w fun e w' => ∃ v0_ : Value, e = .returned (v0_) ∧ Kd.R (Kd.int .u64) 90 w' w.heap.size (fun _ => True) v0_ r ∧ Below w.heap.size w w' := by
 have hu73 := Tryd.underlying73
 have hu71 := Tryd.underlying71
 have HR0_1 := Aside0.mk hr0_1
 have HC0_1 := Aside0.mk hc0_1
 clear hr0_1 hc0_1
 have HR0_2 := Aside0.mk hr0_2
 have HC0_2 := Aside0.mk hc0_2
 clear hr0_2 hc0_2
 have HB := Aside0.mk (Below.refl w.heap.size w)
 have H : (if 0 ≤ a0_0 then (if (a0_0 : Int).toNat ≤ 35184372088832 then (feed_grid_fed.l0 k a1 (List.replicate (a0_0 : Int).toNat 0) l0_2 (l0_2.length : Int) 0 a0_0 l0_1 l0_2) else (none)) else (none)) = some r := h
 clear h
 by_cases c3 : 0 ≤ a0_0
 ·
  rw [if_pos c3] at H
  have c3b0 := eq_true c3
  have c3b1 : decide (0 ≤ a0_0) = true := decide_eq_true c3
  clear c3
  by_cases c4 : (a0_0 : Int).toNat ≤ 35184372088832
  ·
   rw [if_pos c4] at H
   have c4b0 := eq_true c4
   have c4b1 : decide ((a0_0 : Int).toNat ≤ 35184372088832) = true := decide_eq_true c4
   clear c4
   obtain ⟨y114, hy114⟩ : ∃ y_ : List Int, y_ = (List.replicate (a0_0 : Int).toNat 0) := ⟨_, rfl⟩
   replace H : (feed_grid_fed.l0 k a1 y114 l0_2 (l0_2.length : Int) 0 a0_0 l0_1 l0_2) = some r := by first | (rw [hy114]; with_reducible exact H) | (have H2_ := (Option.bind_some _ _).symm.trans H; rw [hy114]; with_reducible exact H2_) | (have H2_ := (Option.bind_some _ _).symm.trans H; with_reducible exact H2_) | with_reducible exact H | (rw [hy114]; exact H) | exact H
   have Ny114 := Aside0.mk hy114
   clear hy114
   have H' := Aside0.mk H
   clear H
   go_enter Tryd.func89, Tryd.ntmps89
   go_wp2_with (first | ((with_reducible refine gate_dst (N := 2) rfl ?_); refine box_event ?hg (N := 2) ?hd (cs := #[.int .i64 a0_0, .slice A0_1 l0_1.length c0_1, .slice A0_2 l0_2.length c0_2]) (t := 73) ?hr ?_; (case hd => rfl); (case hg => rfl); (case hr => first | (go_simp; done) | (go_simp; rfl)); intro gb113 hg w5 hbox hb; have n0_ := Aside0.mk (below_step bel hb); have n1_ := Aside0.mk (hbox); have n2_ := Aside0.mk ((by rw [hg]; exact (below_size bel) : w.heap.size ≤ gb113)); have n3_ := n2_; clear HB; have HB := n0_; have BK113 := n1_; have GW113 := n2_; have GE113 := n3_; clear n0_ n1_ n2_ n3_; clear hb hbox hg; have hcz6_0 := blkc BK113.out 0 (.int .i64 a0_0) rfl; have hcz6_1 := blkc BK113.out 1 (.slice A0_1 l0_1.length c0_1) rfl; have hcz6_2 := blkc BK113.out 2 (.slice A0_2 l0_2.length c0_2) rfl; have hfz6_0 := blk_frozen BK113.out 0; have hfz6_1 := blk_frozen BK113.out 1; have hfz6_2 := blk_frozen BK113.out 2) | ((with_reducible refine gate_dst (N := 13) rfl ?_); refine Kd.R_make (Kd.int .u64) _ 90 rfl (N := 13) rfl 118 _ _ rfl a0_0 rfl rfl Tryd.underlying118 (.int .u64 0) 8 info90 rfl (by decide) (by omega) 0 (ok := fun _ => True) (okp := fun _ => True) rfl (fun _ hk => hk) trivial (of_decide_eq_true asz) (Nat.le_trans (Nat.mul_le_mul_right _ (of_decide_eq_true asz : a0_0.toNat ≤ 35184372088832)) (by omega)) (Below.refl _ _) (Nat.le_refl _) ?_; intro v115 w7 ho8 hb hg_ hnew_; clear hg_ hnew_; (first | rw [← Ny114.out] at ho8 | (simp only [Int.reduceToNat] at ho8; rw [← Ny114.out] at ho8)); have n0_ := Aside0.mk (Kd.R_lower ho8 (below_size bel)); have n1_ := Aside0.mk (blk_below (g := gb113) blkz hb); have n2_ := Aside0.mk (below_step bel hb); clear BK113; clear HB; have HO116 := n0_; have BK113 := n1_; have HB := n2_; clear n0_ n1_ n2_; clear hb ho8; have hcz9_0 := blkc BK113.out 0 (.int .i64 a0_0) rfl; have hcz9_1 := blkc BK113.out 1 (.slice A0_1 l0_1.length c0_1) rfl; have hcz9_2 := blkc BK113.out 2 (.slice A0_2 l0_2.length c0_2) rfl; have hfz9_0 := blk_frozen BK113.out 0; have hfz9_1 := blk_frozen BK113.out 1; have hfz9_2 := blk_frozen BK113.out 2))
   go_loopg [18] k (fun kq v18 w' => ∃ (x5_1 : List Int) (x18_1 : Int), v18 = .int .i64 x18_1 ∧ Aside0 (feed_grid_fed.l0 kq a1 x5_1 l0_2 (l0_2.length : Int) x18_1 a0_0 l0_1 l0_2 = some r) ∧ Aside0 (kq ≤ k) ∧ Aside0 (Kd.R (Kd.int .u64) 90 w' w.heap.size (fun _ => True) v115 x5_1) ∧ Aside0 (w'.heap[gb113]? = some (.cells #[.int .i64 a0_0, (.slice A0_1 l0_1.length c0_1), (.slice A0_2 l0_2.length c0_2)] 73 (0, 0))) ∧ Aside0 (Below w.heap.size w w'))
   case atStart => exact ⟨(y114), (0), rsz, H', ⟨Nat.le_refl _⟩, ⟨by (with_reducible repeat (first | apply Kd.R_alloc | apply Kd.R_drewN | apply Kd.R_drew)); exact HO116.out⟩, ⟨by (with_reducible repeat (first | refine blk_drewN ?_ _ | refine blk_drew ?_ | refine blk_alloc ?_ _)); exact BK113.out⟩, ⟨by repeat (first | (with_reducible first | exact HB.out | apply below_alloc | apply pw_below_drewN | apply below_drew1 | refine below_set ?_ GE113.out) | exact HB.out)⟩⟩
   case round =>
    clear H'
    try clear p2
    try clear c3
    try clear c3b0
    try clear c3b1
    try clear c4
    try clear c4b0
    try clear c4b1
    try clear c8
    try clear hcz6_0
    try clear hcz6_1
    try clear hcz6_2
    try clear hcz9_0
    try clear hcz9_1
    try clear hcz9_2
    try clear hfz6_0
    try clear hfz6_1
    try clear hfz6_2
    try clear hfz9_0
    try clear hfz9_1
    try clear hfz9_2
    obtain ⟨x5_1, x18_1, rfl, HA, HK1, HO_5, BK113, HB⟩ := hrel
    cases gk with
    | zero => exact absurd HA.out (by simp [feed_grid_fed.l0])
    | succ k1 =>
     have H := HA.out
     clear HA
     simp only [feed_grid_fed.l0] at H
     by_cases c10 : x18_1 < (l0_2.length : Int)
     ·
      rw [if_pos c10] at H
      have c10b0 : decide (x18_1 < (l0_2.length : Int)) = true := decide_eq_true c10
      clear c10
      by_cases c11 : 0 ≤ x18_1
      ·
       rw [if_pos c11] at H
       have c11b0 : decide (0 ≤ x18_1) = true := decide_eq_true c11
       clear c11
       by_cases c12 : x18_1 < (l0_2.length : Int)
       ·
        rw [if_pos c12] at H
        have c12b0 : decide (x18_1 < (l0_2.length : Int)) = true := decide_eq_true c12
        clear c12
        replace H := Option.bind_eq_some_iff.mp H
        obtain ⟨t119, A130, H⟩ := H
        replace H : (feed_grid_fed.l1 k1 a1 x5_1 t119 l0_2 (l0_2.length : Int) x18_1 (x5_1.length : Int) 0 a0_0 l0_1 l0_2 ((rd_T71 l0_2 x18_1).f0) ((rd_T71 l0_2 x18_1).f1)) = some r := H
        have A13 := Aside0.mk A130
        clear A130
        have H' := Aside0.mk H
        clear H
        have p117 : 0 ≤ (x18_1 : Int) := of_decide_eq_true asz
        have q117 : x18_1 < (l0_2.length : Int) := of_decide_eq_true asz
        obtain ⟨ad117, e117, hx117_0, hx117_1⟩ := at_T71 HR0_2.out x18_1 p117 q117
        cases e117
        replace hx117_0 := (HB.out.cell (World.block_lt_of_cell? w _ hx117_0)).trans hx117_0
        replace hx117_1 := (HB.out.cell (World.block_lt_of_cell? w _ hx117_1)).trans hx117_1
        replace p117 := eq_true p117
        replace q117 := eq_true q117
        go_wp2_with (first | ((with_reducible refine gate_dst (N := 7) rfl ?_); refine box_event ?hg (N := 7) ?hd (cs := #[.int .i64 0, .int .i64 0]) (t := 71) ?hr ?_; (case hd => rfl); (case hg => rfl); (case hr => first | (go_simp; done) | (go_simp; rfl)); intro gb118 hg w14 hbox hb; have n0_ := Aside0.mk (Kd.R_below (by (with_reducible repeat (first | apply Kd.R_alloc | apply Kd.R_drewN | apply Kd.R_drew)); exact HO_5.out) hb); have n1_ := Aside0.mk (blk_below (g := gb113) blkz hb); have n2_ := Aside0.mk (below_step bel hb); have n3_ := Aside0.mk (hbox); have n4_ := Aside0.mk ((by rw [hg]; exact (below_size bel) : w.heap.size ≤ gb118)); have n5_ := n4_; have n6_ := Aside0.mk ((by rw [hg]; exact Nat.ne_of_lt (blk_lt (g := gb113) (o := .cells #[.int .i64 a0_0, .slice A0_1 l0_1.length c0_1, .slice (some ad117) l0_2.length c0_2] 73 (0, 0)) blkz) : gb113 ≠ gb118)); have n7_ := Aside0.mk ((by rw [hg]; exact Nat.ne_of_gt (blk_lt (g := gb113) (o := .cells #[.int .i64 a0_0, .slice A0_1 l0_1.length c0_1, .slice (some ad117) l0_2.length c0_2] 73 (0, 0)) blkz) : gb118 ≠ gb113)); clear HO_5; clear BK113; clear HB; have HO_5 := n0_; have BK113 := n1_; have HB := n2_; have BK118 := n3_; have GW118 := n4_; have GE118 := n5_; have NB113_118 := n6_; have NB118_113 := n7_; clear n0_ n1_ n2_ n3_ n4_ n5_ n6_ n7_; clear hb hbox hg; have hnb15 := NB118_113.out; have hnc15 := NB113_118.out; have hcz16_0 := blkc BK118.out 0 (.int .i64 0) rfl; have hcz16_1 := blkc BK118.out 1 (.int .i64 0) rfl; have hfz16_0 := blk_frozen BK118.out 0; have hfz16_1 := blk_frozen BK118.out 1; have hcz17_0 := blkc BK113.out 0 (.int .i64 a0_0) rfl; have hcz17_1 := blkc BK113.out 1 (.slice A0_1 l0_1.length c0_1) rfl; have hcz17_2 := blkc BK113.out 2 (.slice (some ad117) l0_2.length c0_2) rfl; have hfz17_0 := blk_frozen BK113.out 0; have hfz17_1 := blk_frozen BK113.out 1; have hfz17_2 := blk_frozen BK113.out 2) | ((with_reducible refine gate_callee (f := 66) rfl ?_); refine goesL_ (some 26) rfl rfl Tryd.func66 (by kernel_rfl) rfl #[.agg #[.int .i64 a0_0, .slice A0_1 l0_1.length c0_1, .slice (some ad117) l0_2.length c0_2], .int .i64 a1, .int .i64 ((rd_T71 l0_2 x18_1).f0)] rfl mapz ?_; (with_reducible refine (feed_grid_group.calls k1 a0_0 _ _ l0_1 _ _ l0_2 a1 ((rd_T71 l0_2 x18_1).f0) t119 _ ?side1 ?side2 ?side3 ?side4 A13.out).mono ?_); (case side1 => exact cbz HR0_1); (case side2 => exact HC0_1.out); (case side3 => exact cbz HR0_2); (case side4 => exact HC0_2.out); rintro e w18 ⟨rfl, hb⟩; refine ⟨_, rfl, ?_⟩; have n0_ := Aside0.mk (Kd.R_below (by (with_reducible repeat (first | apply Kd.R_alloc | apply Kd.R_drewN | apply Kd.R_drew)); exact (Kd.R_mono (Kd.R_far (p := ⟨gb118, 1, none⟩) (Kd.R_far (p := ⟨gb118, 0, none⟩) (Kd.R_types HO_5.out BK118.out (by decide)) (fun _ hk => hk.2) (.int .i64 ((rd_T71 l0_2 x18_1).f0))) (fun _ hk => hk.2) (.int .i64 ((rd_T71 l0_2 x18_1).f1))) (fun _ h_ => h_.1))) hb); have n1_ := Aside0.mk (blk_below (g := gb113) (o := .cells #[.int .i64 a0_0, .slice A0_1 l0_1.length c0_1, .slice (some ad117) l0_2.length c0_2] 73 (0, 0)) (by (with_reducible repeat (first | refine blk_drewN ?_ _ | refine blk_drew ?_ | refine blk_alloc ?_ _)); refine blk_far ?_ NB113_118.out _; (with_reducible repeat (first | refine blk_drewN ?_ _ | refine blk_drew ?_ | refine blk_alloc ?_ _)); refine blk_far ?_ NB113_118.out _; (with_reducible repeat (first | refine blk_drewN ?_ _ | refine blk_drew ?_ | refine blk_alloc ?_ _)); exact BK113.out) hb); have n2_ := Aside0.mk (blk_below (g := gb118) (o := .cells #[.int .i64 ((rd_T71 l0_2 x18_1).f0), .int .i64 ((rd_T71 l0_2 x18_1).f1)] 71 (0, 0)) (by (with_reducible repeat (first | refine blk_drewN ?_ _ | refine blk_drew ?_ | refine blk_alloc ?_ _)); refine blk_put (cs := #[.int .i64 ((rd_T71 l0_2 x18_1).f0), .int .i64 0]) ?_ 1 _ rfl; (with_reducible repeat (first | refine blk_drewN ?_ _ | refine blk_drew ?_ | refine blk_alloc ?_ _)); refine blk_put (cs := #[.int .i64 0, .int .i64 0]) ?_ 0 _ rfl; (with_reducible repeat (first | refine blk_drewN ?_ _ | refine blk_drew ?_ | refine blk_alloc ?_ _)); exact BK118.out) hb); have n3_ := Aside0.mk (below_step bel hb); clear HO_5; clear BK113; clear BK118; clear HB; have HO_5 := n0_; have BK113 := n1_; have BK118 := n2_; have HB := n3_; clear n0_ n1_ n2_ n3_; (try clear hb); (try clear hb2); (try clear hk); (try clear hi); obtain ⟨Ao19, co19, eo19⟩ := Kd.R_slice HO_5.out; subst eo19))
        go_loopg [29] k1 (fun kq v29 w' => ∃ (x5_2 : List Int) (x29_2 : Int), v29 = .int .i64 x29_2 ∧ Aside0 (feed_grid_fed.l1 kq a1 x5_2 t119 l0_2 (l0_2.length : Int) x18_1 (x5_1.length : Int) x29_2 a0_0 l0_1 l0_2 ((rd_T71 l0_2 x18_1).f0) ((rd_T71 l0_2 x18_1).f1) = some r) ∧ Aside0 (kq ≤ k1) ∧ Aside0 (Kd.R (Kd.int .u64) 90 w' w.heap.size (fun _ => True) (.slice Ao19 x5_1.length co19) x5_2) ∧ Aside0 (w'.heap[gb113]? = some (.cells #[.int .i64 a0_0, (.slice A0_1 l0_1.length c0_1), (.slice (some ad117) l0_2.length c0_2)] 73 (0, 0))) ∧ Aside0 (w'.heap[gb118]? = some (.cells #[.int .i64 ((rd_T71 l0_2 x18_1).f0), .int .i64 ((rd_T71 l0_2 x18_1).f1)] 71 (0, 0))) ∧ Aside0 (Below w.heap.size w w'))
        case atStart => exact ⟨(x5_1), (0), rsz, H', ⟨Nat.le_refl _⟩, ⟨by (with_reducible repeat (first | apply Kd.R_alloc | apply Kd.R_drewN | apply Kd.R_drew)); exact HO_5.out⟩, ⟨by (with_reducible repeat (first | refine blk_drewN ?_ _ | refine blk_drew ?_ | refine blk_alloc ?_ _)); exact BK113.out⟩, ⟨by (with_reducible repeat (first | refine blk_drewN ?_ _ | refine blk_drew ?_ | refine blk_alloc ?_ _)); exact BK118.out⟩, ⟨by repeat (first | (with_reducible first | exact HB.out | apply below_alloc | apply pw_below_drewN | apply below_drew1 | refine below_set ?_ GE113.out | refine below_set ?_ GE118.out) | exact HB.out)⟩⟩
        case round =>
         clear H'
         try clear c1
         try clear p1
         try clear q1
         try clear hx1
         try clear p2
         try clear c3
         try clear c3b0
         try clear c3b1
         try clear c4
         try clear c4b0
         try clear c4b1
         try clear c6
         try clear c8
         try clear c10
         try clear c10b0
         try clear c11
         try clear c11b0
         try clear p11
         try clear q11
         try clear hx11
         try clear c12
         try clear c12b0
         try clear c15
         try clear hcz16_0
         try clear hcz16_1
         try clear hcz17_0
         try clear hcz17_1
         try clear hcz17_2
         try clear hcz6_0
         try clear hcz6_1
         try clear hcz6_2
         try clear hcz9_0
         try clear hcz9_1
         try clear hcz9_2
         try clear hfz16_0
         try clear hfz16_1
         try clear hfz17_0
         try clear hfz17_1
         try clear hfz17_2
         try clear hfz6_0
         try clear hfz6_1
         try clear hfz6_2
         try clear hfz9_0
         try clear hfz9_1
         try clear hfz9_2
         try clear hx117_0
         try clear hx117_1
         try clear p117
         try clear p2
         try clear q117
         obtain ⟨x5_2, x29_2, rfl, HA, HK2, HO_5, BK113, BK118, HB⟩ := hrel
         have hl5_2 := (Kd.R_reads' HO_5.out).1
         rw [hl5_2] at HO_5
         (try simp only [hl5_2])
         (try simp only [hl5_2] at BK113)
         (try simp only [hl5_2] at BK118)
         cases gk with
         | zero => exact absurd HA.out (by simp [feed_grid_fed.l1])
         | succ k2 =>
          have H := HA.out
          clear HA
          simp only [feed_grid_fed.l1] at H
          by_cases c20 : x29_2 < (x5_1.length : Int)
          ·
           rw [if_pos c20] at H
           have c20b0 : decide (x29_2 < (x5_1.length : Int)) = true := decide_eq_true c20
           try (have c20b0hl5_2 := c20b0; simp only [hl5_2] at c20b0hl5_2)
           clear c20
           by_cases c21 : 0 ≤ x29_2
           ·
            rw [if_pos c21] at H
            have c21b0 := eq_true c21
            have c21b1 : decide (0 ≤ x29_2) = true := decide_eq_true c21
            clear c21
            obtain ⟨ji22, hji22⟩ : ∃ j_ : Int, (shr .u64 t119 x29_2) = j_ := ⟨_, rfl⟩
            replace H : (if (Go.bits .and .u64 (ji22) 1) = 1 then (if x29_2 < (x5_2.length : Int) then (if 0 ≤ ((rd_T71 l0_2 x18_1).f1) then (feed_grid_fed.l1 k2 a1 (x5_2.set (x29_2 : Int).toNat (Go.bits .or .u64 (rd x5_2 x29_2) (shl .u64 1 ((rd_T71 l0_2 x18_1).f1)))) t119 l0_2 (l0_2.length : Int) x18_1 (x5_1.length : Int) (wrap64 (x29_2 + 1)) a0_0 l0_1 l0_2 ((rd_T71 l0_2 x18_1).f0) ((rd_T71 l0_2 x18_1).f1)) else (none)) else (none)) else (feed_grid_fed.l1 k2 a1 x5_2 t119 l0_2 (l0_2.length : Int) x18_1 (x5_1.length : Int) (wrap64 (x29_2 + 1)) a0_0 l0_1 l0_2 ((rd_T71 l0_2 x18_1).f0) ((rd_T71 l0_2 x18_1).f1))) = some r := by first | (rw [hji22] at H; exact H) | (simp only [hji22] at H ⊢; exact H)
            have hji22_ : (t119 / 2 ^ min x29_2.toNat 64) = ji22 := hji22
            have hji22z : x29_2 ≤ 64 → (t119 / 2 ^ x29_2.toNat) = ji22 := shr_small hji22
            by_cases c23 : (Go.bits .and .u64 (ji22) 1) = 1
            ·
             rw [if_pos c23] at H
             have c23b0 : ((Go.bits .and .u64 (ji22) 1) == 1) = true := beq_iff_eq.mpr c23
             have c23b1 : ((Go.bits .and .u64 (ji22) 1) != 1) = false := bne_eq_false_iff_eq.mpr c23
             clear c23
             by_cases c24 : x29_2 < (x5_2.length : Int)
             ·
              rw [if_pos c24] at H
              have c24b0 : decide (x29_2 < (x5_2.length : Int)) = true := decide_eq_true c24
              try (have c24b0hl5_2 := c24b0; simp only [hl5_2] at c24b0hl5_2)
              clear c24
              by_cases c25 : 0 ≤ ((rd_T71 l0_2 x18_1).f1)
              ·
               rw [if_pos c25] at H
               have c25b0 := eq_true c25
               have c25b1 : decide (0 ≤ ((rd_T71 l0_2 x18_1).f1)) = true := decide_eq_true c25
               clear c25
               obtain ⟨ji26, hji26⟩ : ∃ j_ : Int, (shl .u64 1 ((rd_T71 l0_2 x18_1).f1)) = j_ := ⟨_, rfl⟩
               replace H : (feed_grid_fed.l1 k2 a1 (x5_2.set (x29_2 : Int).toNat (Go.bits .or .u64 (rd x5_2 x29_2) (ji26))) t119 l0_2 (l0_2.length : Int) x18_1 (x5_1.length : Int) (wrap64 (x29_2 + 1)) a0_0 l0_1 l0_2 ((rd_T71 l0_2 x18_1).f0) ((rd_T71 l0_2 x18_1).f1)) = some r := by first | (rw [hji26] at H; exact H) | (simp only [hji26] at H ⊢; exact H)
               have hji26_ : (IntKind.u64.wrap (1 * 2 ^ min ((rd_T71 l0_2 x18_1).f1).toNat 64)) = ji26 := hji26
               have hji26z : ((rd_T71 l0_2 x18_1).f1) ≤ 64 → (IntKind.u64.wrap (1 * 2 ^ ((rd_T71 l0_2 x18_1).f1).toNat)) = ji26 := shl_small hji26
               have hji26u : (IntKind.u64.wrap (2 ^ min ((rd_T71 l0_2 x18_1).f1).toNat 64)) = ji26 := by have h_ := hji26_; rw [Int.one_mul] at h_; exact h_
               have hji26v : ((rd_T71 l0_2 x18_1).f1) ≤ 64 → (IntKind.u64.wrap (2 ^ ((rd_T71 l0_2 x18_1).f1).toNat)) = ji26 := fun hle_ => by have h_ := hji26z hle_; rw [Int.one_mul] at h_; exact h_
               obtain ⟨y121, hy121⟩ : ∃ y_ : List Int, y_ = (x5_2.set (x29_2 : Int).toNat (Go.bits .or .u64 (rd x5_2 x29_2) (ji26))) := ⟨_, rfl⟩
               replace H : (feed_grid_fed.l1 k2 a1 y121 t119 l0_2 (l0_2.length : Int) x18_1 (x5_1.length : Int) (wrap64 (x29_2 + 1)) a0_0 l0_1 l0_2 ((rd_T71 l0_2 x18_1).f0) ((rd_T71 l0_2 x18_1).f1)) = some r := by first | (rw [hy121]; with_reducible exact H) | (have H2_ := (Option.bind_some _ _).symm.trans H; rw [hy121]; with_reducible exact H2_) | (have H2_ := (Option.bind_some _ _).symm.trans H; with_reducible exact H2_) | with_reducible exact H | (rw [hy121]; exact H) | exact H
               have Ny121 := Aside0.mk hy121
               clear hy121
               have H' := Aside0.mk H
               clear H
               try go_wp2
               have n0_ := Aside0.mk (Kd.R_drew HO_5.out)
               have n1_ := Aside0.mk (blk_drew BK113.out)
               have n2_ := Aside0.mk (blk_drew BK118.out)
               have n3_ := Aside0.mk (below_drew1 HB.out)
               clear HO_5
               clear BK113
               clear BK118
               clear HB
               have HO_5 := n0_
               have BK113 := n1_
               have BK118 := n2_
               have HB := n3_
               clear n0_ n1_ n2_ n3_
               have p120 : 0 ≤ (x29_2 : Int) := of_decide_eq_true asz
               have q120 : x29_2 < (x5_2.length : Int) := of_decide_eq_true asz
               obtain ⟨ad120, e120, hx120_0⟩ := Kd.at_int (Kd.R_reads' HO_5.out).2.2 x29_2 p120 q120
               cases e120
               replace p120 := eq_true p120
               replace q120 := eq_true q120
               have p27 : 0 ≤ (x29_2 : Int) := of_decide_eq_true asz
               have q27 : (x29_2 : Int) < ((x5_2.length : Int) : Int) := of_decide_eq_true asz
               obtain ⟨go27, co27, eo27, gb27, gl27, cl27, HG27⟩ := Kd.R_form HO_5.out (by omega)
               (first | cases eo27 | (injection eo27 with ea_ en_ ec_; (first | subst ea_ | (injection ea_ with ea_; subst ea_)); subst ec_; clear en_))
               have GB27 := Aside0.mk gb27
               have GG27 := Aside0.mk HG27
               clear gb27 gl27 HG27
               (first | simp only [add_plain] at hx120_0 | skip)
               obtain ⟨hx27_0, hf27_0⟩ := Kd.R_celln 0 HO_5.out (x29_2 : Int) p27 q27
               replace p27 := eq_true p27
               replace q27 := eq_true q27
               have HP29 := Kd.R_putn HO_5.out (x29_2 : Int) (Go.bits .or .u64 (rd x5_2 x29_2) (ji26))
               rw [← Ny121.out] at HP29
               have HQ29 := Aside0.mk HP29
               clear HP29
               refine start_ (n := 10) (S := fun w' => w'.cell? ⟨gb118, 0, none⟩ = some (.int .i64 ((rd_T71 l0_2 x18_1).f0)) ∧ w'.cell? ⟨gb118, 1, none⟩ = some (.int .i64 ((rd_T71 l0_2 x18_1).f1)) ∧ w'.cell? ⟨go27, (x29_2).toNat, none⟩ = some (.int .u64 (rd x5_2 x29_2))) (ds := [9]) #[false, false, false, false, false, false, false, false, false, false] (by kernel_rfl) rfl rfl ⟨(blk_cell BK118.out 0).trans rfl, (blk_cell BK118.out 1).trans rfl, hx120_0⟩ (fun hHeld => ?_); refine with_tabW feed_grid_fed.tab10 feed_grid_fed.bits10 (fun HT_ HW_ => ?_)
               generalize wr.drew = w28 at HO_5 BK113 BK118 HB GG27 HQ29 hf27_0 hx120_0 hx27_0 hHeld ⊢
               refine pst (i := 0) (N := some 37) (bz 10 1) (any_of HT_.out (by kernel_rfl)) ?_
               refine pst (i := 1) (N := some 38) (bz 10 3) (any_of HT_.out (by kernel_rfl)) ?_
               refine pst (i := 2) (N := some 39) (bz 10 7) (any_of HT_.out (by kernel_rfl)) ?_
               refine pst (i := 4) (N := some 41) (bz 10 23) (any_of HT_.out (by kernel_rfl)) ?_
               refine tst3 (i := 3) (N := some 40) (bz 10 31) (take_ofW HT_.out HW_.out (by kernel_rfl)) hHeld ?_
               refine tst3 (i := 5) (N := some 42) (bz 10 63) (take_ofW HT_.out HW_.out (by kernel_rfl)) hHeld ?_
               refine pst (i := 6) (N := some 43) (bz 10 127) (any_of HT_.out (by kernel_rfl)) ?_
               refine pst (i := 7) (N := some 44) (bz 10 255) (any_of HT_.out (by kernel_rfl)) ?_
               refine pst (i := 8) (N := some 45) (bz 10 511) (any_of HT_.out (by kernel_rfl)) ?_
               refine last_ (i := 9) (N := none) #[true, true, true, true, true, true, true, true, true, true] rfl rfl (one_of HT_.out (by kernel_rfl)) (by decide) (fun K hK => ?_)
               refine skip_ (w1 := ?_) (by rfl) rfl ?_ ?_
               rotate_left
               ·
                go_simp
                rfl
               refine hK.out _ _ ?_
               clear hK K
               refine done_ (done_of HT_.out (by kernel_rfl)) ?_
               try go_wp2
               (try simp only [← hl5_2])
               go_roundg k2
               case measure => have := HK1.out; have := HK2.out; omega
               case rel => exact ⟨(y121), (wrap64 (x29_2 + 1)), rsz, H', ⟨by have := HK1.out; have := HK2.out; omega⟩, ⟨by (try simp only [hl5_2]); (with_reducible repeat (first | apply Kd.R_alloc | apply Kd.R_drewN | apply Kd.R_drew)); exact HQ29.out⟩, ⟨by (try simp only [hl5_2]); (with_reducible repeat (first | refine blk_drewN ?_ _ | refine blk_drew ?_ | refine blk_alloc ?_ _)); refine blk_far ?_ (by have h_ := Kd.R_ne HO_5.out BK113.out (by decide); intro e_; exact h_ (by rw [e_]; rfl)) _; (with_reducible repeat (first | refine blk_drewN ?_ _ | refine blk_drew ?_ | refine blk_alloc ?_ _)); exact BK113.out⟩, ⟨by (try simp only [hl5_2]); (with_reducible repeat (first | refine blk_drewN ?_ _ | refine blk_drew ?_ | refine blk_alloc ?_ _)); refine blk_far ?_ (by have h_ := Kd.R_ne HO_5.out BK118.out (by decide); intro e_; exact h_ (by rw [e_]; rfl)) _; (with_reducible repeat (first | refine blk_drewN ?_ _ | refine blk_drew ?_ | refine blk_alloc ?_ _)); exact BK118.out⟩, ⟨by repeat (first | (with_reducible first | exact HB.out | apply below_alloc | apply pw_below_drewN | apply below_drew1 | refine below_set ?_ GB27.out | refine below_set ?_ GE113.out | refine below_set ?_ GE118.out) | exact HB.out)⟩⟩
              ·
               rw [if_neg c25] at H
               exact absurd H (by simp)
             ·
              rw [if_neg c24] at H
              exact absurd H (by simp)
            ·
             rw [if_neg c23] at H
             have c23b0 : ((Go.bits .and .u64 (ji22) 1) == 1) = false := beq_eq_false_iff_ne.mpr c23
             have c23b1 : ((Go.bits .and .u64 (ji22) 1) != 1) = true := bne_iff_ne.mpr c23
             have H' := Aside0.mk H
             clear H
             go_wp2
             (try simp only [← hl5_2])
             go_roundg k2
             case measure => have := HK1.out; have := HK2.out; omega
             case rel => exact ⟨(x5_2), (wrap64 (x29_2 + 1)), rsz, H', ⟨by have := HK1.out; have := HK2.out; omega⟩, ⟨by (try simp only [hl5_2]); (with_reducible repeat (first | apply Kd.R_alloc | apply Kd.R_drewN | apply Kd.R_drew)); exact HO_5.out⟩, ⟨by (try simp only [hl5_2]); (with_reducible repeat (first | refine blk_drewN ?_ _ | refine blk_drew ?_ | refine blk_alloc ?_ _)); exact BK113.out⟩, ⟨by (try simp only [hl5_2]); (with_reducible repeat (first | refine blk_drewN ?_ _ | refine blk_drew ?_ | refine blk_alloc ?_ _)); exact BK118.out⟩, ⟨by repeat (first | (with_reducible first | exact HB.out | apply below_alloc | apply pw_below_drewN | apply below_drew1 | refine below_set ?_ GE113.out | refine below_set ?_ GE118.out) | exact HB.out)⟩⟩
           ·
            rw [if_neg c21] at H
            exact absurd H (by simp)
          ·
           rw [if_neg c20] at H
           have c20b0 : decide (x29_2 < (x5_1.length : Int)) = false := decide_eq_false c20
           try (have c20b0hl5_2 := c20b0; simp only [hl5_2] at c20b0hl5_2)
           clear c20
           have H' := Aside0.mk H
           clear H
           go_wp2
           (try simp only [← hl5_2])
           go_roundg k2
           case measure => have := HK1.out; have := HK2.out; omega
           case rel => exact ⟨(x5_2), (wrap64 (x18_1 + 1)), rsz, H', ⟨by have := HK1.out; have := HK2.out; omega⟩, ⟨by (try simp only [hl5_2]); (with_reducible repeat (first | apply Kd.R_alloc | apply Kd.R_drewN | apply Kd.R_drew)); exact HO_5.out⟩, ⟨by (try simp only [hl5_2]); (with_reducible repeat (first | refine blk_drewN ?_ _ | refine blk_drew ?_ | refine blk_alloc ?_ _)); exact BK113.out⟩, ⟨by repeat (first | (with_reducible first | exact HB.out | apply below_alloc | apply pw_below_drewN | apply below_drew1 | refine below_set ?_ GE113.out | refine below_set ?_ GE118.out) | exact HB.out)⟩⟩
       ·
        rw [if_neg c12] at H
        exact absurd H (by simp)
      ·
       rw [if_neg c11] at H
       exact absurd H (by simp)
     ·
      rw [if_neg c10] at H
      have c10b0 : decide (x18_1 < (l0_2.length : Int)) = false := decide_eq_false c10
      clear c10
      obtain rfl := Option.some.inj H
      go_wp2
      go_ret
      exact ⟨_, by first | rfl | (simp [errW_none, errW_some] <;> rfl) | (simp [*, errW_none, errW_some] <;> rfl), by (with_reducible repeat (first | apply Kd.R_alloc | apply Kd.R_drewN | apply Kd.R_drew)); exact HO_5.out, by repeat (first | (with_reducible first | exact HB.out | apply below_alloc | apply pw_below_drewN | apply below_drew1 | refine below_set ?_ GE113.out) | exact HB.out)⟩
  ·
   rw [if_neg c4] at H
   exact absurd H (by simp)
 ·
  rw [if_neg c3] at H
  exact absurd H (by simp)

end Go.Proofs.YtoilhnmdemnknaaDoor.XFeed

-- Written by wip/xprint.py of this repo, over the kit's print.py: out of the translation; the oracles in it are by hand. Not trusted: Lean checks it.
namespace Go.Proofs.YtoilhnmdemnknaaDoor.XFeed
open Go.RowKit Go.Proofs.YtoilhnmdemnknaaDoorW.PrintWords Go.Proofs.YtoilhnmdemnknaaDoorW.PrintLast Go.Proofs.YtoilhnmdemnknaaDoorW.PrintMore
attribute [local go_sem] max2_int min2_int max_two min_two max_three min_three max_four min_four   -- for this text's walks alone
set_option linter.unusedVariables false
set_option linter.unusedSimpArgs false

/-! ### feed_grid_dead: function 60 -/
def feed_grid_dead.f (k : Nat) (a0_0 : Int) (l0_1 : List (S69)) (l0_2 : List (S71)) (a1 : Int) (a2 : Int) : Option (Bool) := (feed_grid_fed.f k a0_0 l0_1 l0_2 a1).bind fun t178 => (if 0 ≤ a2 then (if a2 < (t178.length : Int) then (some ((rd t178 a2) == 0)) else (none)) else (none))
theorem feed_grid_dead.mono : ∀ a0 a1 a2 a3 a4 k, LeO (feed_grid_dead.f k a0 a1 a2 a3 a4) (feed_grid_dead.f (k + 1) a0 a1 a2 a3 a4) := by
 intro a0 a1 a2 a3 a4 k
 unfold feed_grid_dead.f
 repeat' first
   | (with_reducible exact feed_grid_fed.mono _ _ _ _ _)
   | (with_reducible exact LeO.refl _)
   | (with_reducible exact LeO.none _)
   | (with_reducible refine LeO.ite ?_ ?_)
   | (with_reducible refine LeO.bind ?_ (fun _ => ?_))
   | exact feed_grid_fed.mono _ _ _ _ _
   | exact LeO.none _
   | refine LeO.ite ?_ ?_
   | refine LeO.bind ?_ (fun _ => ?_)
set_option maxHeartbeats 8000000 in
set_option maxRecDepth 100000 in
theorem feed_grid_dead.calls (k : Nat) (a0_0 : Int) (A0_1 : Option Addr) (c0_1 : Nat) (l0_1 : List (S69)) (A0_2 : Option Addr) (c0_2 : Nat) (l0_2 : List (S71)) (a1 : Int) (a2 : Int) (r : Bool) (w : World) (hr0_1 : Kd.C k69 w A0_1 l0_1.length l0_1) (hc0_1 : l0_1.length ≤ c0_1) (hr0_2 : Kd.C k71 w A0_2 l0_2.length l0_2) (hc0_2 : l0_2.length ≤ c0_2) (h : feed_grid_dead.f k a0_0 l0_1 l0_2 a1 a2 = some r) :
  Calls Tryd.prog 60 #[.agg #[.int .i64 a0_0, .slice A0_1 l0_1.length c0_1, .slice A0_2 l0_2.length c0_2], .int .i64 a1, .int .i64 a2] w fun e w' => e = .returned (.bool r) ∧ Below w.heap.size w w' := by
 have hu73 := Tryd.underlying73
 have HR0_1 := Aside0.mk hr0_1
 have HC0_1 := Aside0.mk hc0_1
 clear hr0_1 hc0_1
 have HR0_2 := Aside0.mk hr0_2
 have HC0_2 := Aside0.mk hc0_2
 clear hr0_2 hc0_2
 have HB := Aside0.mk (Below.refl w.heap.size w)
 have H : ((feed_grid_fed.f k a0_0 l0_1 l0_2 a1).bind fun t178 => (if 0 ≤ a2 then (if a2 < (t178.length : Int) then (some ((rd t178 a2) == 0)) else (none)) else (none))) = some r := h
 clear h
 replace H := Option.bind_eq_some_iff.mp H
 obtain ⟨t178, A40, H⟩ := H
 replace H : (if 0 ≤ a2 then (if a2 < (t178.length : Int) then (some ((rd t178 a2) == 0)) else (none)) else (none)) = some r := H
 have A4 := Aside0.mk A40
 clear A40
 by_cases c5 : 0 ≤ a2
 ·
  rw [if_pos c5] at H
  have c5b0 : decide (0 ≤ a2) = true := decide_eq_true c5
  clear c5
  by_cases c6 : a2 < (t178.length : Int)
  ·
   rw [if_pos c6] at H
   have c6b0 : decide (a2 < (t178.length : Int)) = true := decide_eq_true c6
   clear c6
   obtain rfl := Option.some.inj H
   go_enter Tryd.func60, Tryd.ntmps60
   go_wp2_with (first | ((with_reducible refine gate_dst (N := 3) rfl ?_); refine box_event ?hg (N := 3) ?hd (cs := #[.int .i64 a0_0, .slice A0_1 l0_1.length c0_1, .slice A0_2 l0_2.length c0_2]) (t := 73) ?hr ?_; (case hd => rfl); (case hg => rfl); (case hr => first | (go_simp; done) | (go_simp; rfl)); intro gb177 hg w7 hbox hb; have n0_ := Aside0.mk (below_step bel hb); have n1_ := Aside0.mk (hbox); have n2_ := Aside0.mk ((by rw [hg]; exact (below_size bel) : w.heap.size ≤ gb177)); have n3_ := n2_; clear HB; have HB := n0_; have BK177 := n1_; have GW177 := n2_; have GE177 := n3_; clear n0_ n1_ n2_ n3_; clear hb hbox hg; have hcz8_0 := blkc BK177.out 0 (.int .i64 a0_0) rfl; have hcz8_1 := blkc BK177.out 1 (.slice A0_1 l0_1.length c0_1) rfl; have hcz8_2 := blkc BK177.out 2 (.slice A0_2 l0_2.length c0_2) rfl; have hfz8_0 := blk_frozen BK177.out 0; have hfz8_1 := blk_frozen BK177.out 1; have hfz8_2 := blk_frozen BK177.out 2) | ((with_reducible refine gate_callee (f := 89) rfl ?_); refine goesL_ (some 9) rfl rfl Tryd.func89 (by kernel_rfl) rfl #[.agg #[.int .i64 a0_0, .slice A0_1 l0_1.length c0_1, .slice A0_2 l0_2.length c0_2], .int .i64 a1] rfl mapz ?_; (with_reducible refine (feed_grid_fed.calls k a0_0 _ _ l0_1 _ _ l0_2 a1 t178 _ ?side1 ?side2 ?side3 ?side4 A4.out).mono ?_); (case side1 => exact cbz HR0_1); (case side2 => exact HC0_1.out); (case side3 => exact cbz HR0_2); (case side4 => exact HC0_2.out); rintro e w9 ⟨v179, rfl, ho0, hb⟩; refine ⟨_, rfl, ?_⟩; have n0_ := Aside0.mk (Kd.R_lower ho0 (below_size bel)); have n1_ := Aside0.mk (blk_below (g := gb177) blkz hb); have n2_ := Aside0.mk (below_step bel hb); clear BK177; clear HB; have HO180 := n0_; have BK177 := n1_; have HB := n2_; clear n0_ n1_ n2_; (try clear hb); (try clear hb2); (try clear hk); (try clear hi); (try clear ho0); obtain ⟨Ao10, co10, eo10⟩ := Kd.R_slice HO180.out; subst eo10; have p181 : 0 ≤ (a2 : Int) := of_decide_eq_true asz; have q181 : a2 < (t178.length : Int) := of_decide_eq_true asz; obtain ⟨ad181, e181, hx181_0⟩ := Kd.at_int (Kd.R_reads' HO180.out).2.2 a2 p181 q181; cases e181; replace p181 := eq_true p181; replace q181 := eq_true q181))
   go_ret
   exact ⟨by first | rfl | (simp [errW_none, errW_some] <;> rfl) | (simp [*, errW_none, errW_some] <;> rfl), by repeat (first | (with_reducible first | exact HB.out | apply below_alloc | apply pw_below_drewN | apply below_drew1 | refine below_set ?_ GE177.out) | exact HB.out)⟩
  ·
   rw [if_neg c6] at H
   exact absurd H (by simp)
 ·
  rw [if_neg c5] at H
  exact absurd H (by simp)

end Go.Proofs.YtoilhnmdemnknaaDoor.XFeed

-- Written by wip/xprint.py of this repo, over the kit's print.py: out of the translation; the oracles in it are by hand. Not trusted: Lean checks it.
namespace Go.Proofs.YtoilhnmdemnknaaDoor.XFeed
open Go.RowKit Go.Proofs.YtoilhnmdemnknaaDoorW.PrintWords Go.Proofs.YtoilhnmdemnknaaDoorW.PrintLast Go.Proofs.YtoilhnmdemnknaaDoorW.PrintMore
attribute [local go_sem] max2_int min2_int max_two min_two max_three min_three max_four min_four   -- for this text's walks alone
set_option linter.unusedVariables false
set_option linter.unusedSimpArgs false

/-! ### feed_grid_least: function 64 -/
def feed_grid_least.l0 : Nat → Int → Int → Int → Int → Int → Int → List (S69) → List (S71) → Option (Int)
 | 0, _, _, _, _, _, _, _, _ => none
 | k + 1, x1, x2, x7, x11, x12, x183000, x183001, x183002 => if x12 < x11 then (if (Go.bits .andNot .i64 x12 x1) = 0 then ((bits_OnesCount.f (IntKind.u64.wrap (x12))).bind fun t184 => ((bits_OnesCount.f (IntKind.u64.wrap (x7))).bind fun t185 => (if t184 < t185 then ((feed_grid_dead.f k x183000 x183001 x183002 (Go.bits .andNot .i64 x1 x12) x2).bind fun t186 => (if t186 = true then (feed_grid_least.l0 k x1 x2 x12 x11 (wrap64 (x12 + 1)) x183000 x183001 x183002) else (feed_grid_least.l0 k x1 x2 x7 x11 (wrap64 (x12 + 1)) x183000 x183001 x183002))) else (feed_grid_least.l0 k x1 x2 x7 x11 (wrap64 (x12 + 1)) x183000 x183001 x183002)))) else (feed_grid_least.l0 k x1 x2 x7 x11 (wrap64 (x12 + 1)) x183000 x183001 x183002)) else (some x7)
def feed_grid_least.f (k : Nat) (a0_0 : Int) (l0_1 : List (S69)) (l0_2 : List (S71)) (a1 : Int) (a2 : Int) : Option (Int) := (feed_grid_all.f a0_0 l0_1 l0_2).bind fun t183 => (feed_grid_least.l0 k a1 a2 a1 t183 0 a0_0 l0_1 l0_2)
theorem feed_grid_least.mono_l : ∀ k, (∀ y0 y1 y2 y3 y4 y5 y6 y7, LeO (feed_grid_least.l0 k y0 y1 y2 y3 y4 y5 y6 y7) (feed_grid_least.l0 (k + 1) y0 y1 y2 y3 y4 y5 y6 y7))
 | 0 => fun _ _ _ _ _ _ _ _ r h => by simp [feed_grid_least.l0] at h
 | k + 1 => by
  have ih0 := feed_grid_least.mono_l k
  ·
   intro y0 y1 y2 y3 y4 y5 y6 y7
   unfold feed_grid_least.l0
   repeat' first
   | (with_reducible exact ih0 _ _ _ _ _ _ _ _)
   | (with_reducible exact feed_grid_dead.mono _ _ _ _ _ _)
   | (with_reducible exact LeO.refl _)
   | (with_reducible exact LeO.none _)
   | (with_reducible refine LeO.ite ?_ ?_)
   | (with_reducible refine LeO.bind ?_ (fun _ => ?_))
   | exact ih0 _ _ _ _ _ _ _ _
   | exact feed_grid_dead.mono _ _ _ _ _ _
   | exact LeO.none _
   | refine LeO.ite ?_ ?_
   | refine LeO.bind ?_ (fun _ => ?_)
theorem feed_grid_least.mono : ∀ a0 a1 a2 a3 a4 k, LeO (feed_grid_least.f k a0 a1 a2 a3 a4) (feed_grid_least.f (k + 1) a0 a1 a2 a3 a4) := by
 intro a0 a1 a2 a3 a4 k
 have ih0 := feed_grid_least.mono_l k
 unfold feed_grid_least.f
 repeat' first
   | (with_reducible exact ih0 _ _ _ _ _ _ _ _)
   | (with_reducible exact feed_grid_dead.mono _ _ _ _ _ _)
   | (with_reducible exact LeO.refl _)
   | (with_reducible exact LeO.none _)
   | (with_reducible refine LeO.ite ?_ ?_)
   | (with_reducible refine LeO.bind ?_ (fun _ => ?_))
   | exact ih0 _ _ _ _ _ _ _ _
   | exact feed_grid_dead.mono _ _ _ _ _ _
   | exact LeO.none _
   | refine LeO.ite ?_ ?_
   | refine LeO.bind ?_ (fun _ => ?_)
set_option maxHeartbeats 8000000 in
set_option maxRecDepth 100000 in
theorem feed_grid_least.calls (k : Nat) (a0_0 : Int) (A0_1 : Option Addr) (c0_1 : Nat) (l0_1 : List (S69)) (A0_2 : Option Addr) (c0_2 : Nat) (l0_2 : List (S71)) (a1 : Int) (a2 : Int) (r : Int) (w : World) (hr0_1 : Kd.C k69 w A0_1 l0_1.length l0_1) (hc0_1 : l0_1.length ≤ c0_1) (hr0_2 : Kd.C k71 w A0_2 l0_2.length l0_2) (hc0_2 : l0_2.length ≤ c0_2) (h : feed_grid_least.f k a0_0 l0_1 l0_2 a1 a2 = some r) :
  Calls Tryd.prog 64 #[.agg #[.int .i64 a0_0, .slice A0_1 l0_1.length c0_1, .slice A0_2 l0_2.length c0_2], .int .i64 a1, .int .i64 a2] w fun e w' => e = .returned (.int .i64 r) ∧ Below w.heap.size w w' := by
 have hu73 := Tryd.underlying73
 have HR0_1 := Aside0.mk hr0_1
 have HC0_1 := Aside0.mk hc0_1
 clear hr0_1 hc0_1
 have HR0_2 := Aside0.mk hr0_2
 have HC0_2 := Aside0.mk hc0_2
 clear hr0_2 hc0_2
 have HB := Aside0.mk (Below.refl w.heap.size w)
 have H : ((feed_grid_all.f a0_0 l0_1 l0_2).bind fun t183 => (feed_grid_least.l0 k a1 a2 a1 t183 0 a0_0 l0_1 l0_2)) = some r := h
 clear h
 replace H := Option.bind_eq_some_iff.mp H
 obtain ⟨t183, A40, H⟩ := H
 replace H : (feed_grid_least.l0 k a1 a2 a1 t183 0 a0_0 l0_1 l0_2) = some r := H
 have A4 := Aside0.mk A40
 clear A40
 have H' := Aside0.mk H
 clear H
 go_enter Tryd.func64, Tryd.ntmps64
 go_wp2_with (first | ((with_reducible refine gate_dst (N := 3) rfl ?_); refine box_event ?hg (N := 3) ?hd (cs := #[.int .i64 a0_0, .slice A0_1 l0_1.length c0_1, .slice A0_2 l0_2.length c0_2]) (t := 73) ?hr ?_; (case hd => rfl); (case hg => rfl); (case hr => first | (go_simp; done) | (go_simp; rfl)); intro gb182 hg w5 hbox hb; have n0_ := Aside0.mk (below_step bel hb); have n1_ := Aside0.mk (hbox); have n2_ := Aside0.mk ((by rw [hg]; exact (below_size bel) : w.heap.size ≤ gb182)); have n3_ := n2_; clear HB; have HB := n0_; have BK182 := n1_; have GW182 := n2_; have GE182 := n3_; clear n0_ n1_ n2_ n3_; clear hb hbox hg; have hcz6_0 := blkc BK182.out 0 (.int .i64 a0_0) rfl; have hcz6_1 := blkc BK182.out 1 (.slice A0_1 l0_1.length c0_1) rfl; have hcz6_2 := blkc BK182.out 2 (.slice A0_2 l0_2.length c0_2) rfl; have hfz6_0 := blk_frozen BK182.out 0; have hfz6_1 := blk_frozen BK182.out 1; have hfz6_2 := blk_frozen BK182.out 2) | ((with_reducible refine gate_callee (f := 52) rfl ?_); refine goesL_ (some 11) rfl rfl Tryd.func52 (by kernel_rfl) rfl #[.agg #[.int .i64 a0_0, .slice A0_1 l0_1.length c0_1, .slice A0_2 l0_2.length c0_2]] rfl mapz ?_; (with_reducible refine (feed_grid_all.calls a0_0 _ _ l0_1 _ _ l0_2 t183 _ ?side1 ?side2 ?side3 ?side4 A4.out).mono ?_); (case side1 => exact cbz HR0_1); (case side2 => exact HC0_1.out); (case side3 => exact cbz HR0_2); (case side4 => exact HC0_2.out); rintro e w7 ⟨rfl, hb⟩; refine ⟨_, rfl, ?_⟩; have n0_ := Aside0.mk (blk_below (g := gb182) blkz hb); have n1_ := Aside0.mk (below_step bel hb); clear BK182; clear HB; have BK182 := n0_; have HB := n1_; clear n0_ n1_; (try clear hb); (try clear hb2); (try clear hk); (try clear hi)))
 go_loopg [7, 12] k (fun kq v7 v12 w' => ∃ (x7_1 : Int) (x12_1 : Int), v7 = .int .i64 x7_1 ∧ v12 = .int .i64 x12_1 ∧ Aside0 (feed_grid_least.l0 kq a1 a2 x7_1 t183 x12_1 a0_0 l0_1 l0_2 = some r) ∧ Aside0 (kq ≤ k) ∧ Aside0 (w'.heap[gb182]? = some (.cells #[.int .i64 a0_0, (.slice A0_1 l0_1.length c0_1), (.slice A0_2 l0_2.length c0_2)] 73 (0, 0))) ∧ Aside0 (Below w.heap.size w w'))
 case atStart => exact ⟨(a1), (0), rsz, rsz, H', ⟨Nat.le_refl _⟩, ⟨by (with_reducible repeat (first | refine blk_drewN ?_ _ | refine blk_drew ?_ | refine blk_alloc ?_ _)); exact BK182.out⟩, ⟨by repeat (first | (with_reducible first | exact HB.out | apply below_alloc | apply pw_below_drewN | apply below_drew1 | refine below_set ?_ GE182.out) | exact HB.out)⟩⟩
 case round =>
  clear H'
  try clear p2
  try clear c5
  try clear c6
  try clear hcz6_0
  try clear hcz6_1
  try clear hcz6_2
  try clear hfz6_0
  try clear hfz6_1
  try clear hfz6_2
  obtain ⟨x7_1, x12_1, rfl, rfl, HA, HK1, BK182, HB⟩ := hrel
  cases gk with
  | zero => exact absurd HA.out (by simp [feed_grid_least.l0])
  | succ k1 =>
   have H := HA.out
   clear HA
   simp only [feed_grid_least.l0] at H
   by_cases c8 : x12_1 < t183
   ·
    rw [if_pos c8] at H
    have c8b0 : decide (x12_1 < t183) = true := decide_eq_true c8
    clear c8
    by_cases c9 : (Go.bits .andNot .i64 x12_1 a1) = 0
    ·
     rw [if_pos c9] at H
     have c9b0 : ((Go.bits .andNot .i64 x12_1 a1) == 0) = true := beq_iff_eq.mpr c9
     have c9b1 : ((Go.bits .andNot .i64 x12_1 a1) != 0) = false := bne_eq_false_iff_eq.mpr c9
     clear c9
     replace H := Option.bind_eq_some_iff.mp H
     obtain ⟨t184, A100, H⟩ := H
     replace H : ((bits_OnesCount.f (IntKind.u64.wrap (x7_1))).bind fun t185 => (if t184 < t185 then ((feed_grid_dead.f k1 a0_0 l0_1 l0_2 (Go.bits .andNot .i64 a1 x12_1) a2).bind fun t186 => (if t186 = true then (feed_grid_least.l0 k1 a1 a2 x12_1 t183 (wrap64 (x12_1 + 1)) a0_0 l0_1 l0_2) else (feed_grid_least.l0 k1 a1 a2 x7_1 t183 (wrap64 (x12_1 + 1)) a0_0 l0_1 l0_2))) else (feed_grid_least.l0 k1 a1 a2 x7_1 t183 (wrap64 (x12_1 + 1)) a0_0 l0_1 l0_2))) = some r := H
     have A10 := Aside0.mk A100
     clear A100
     replace H := Option.bind_eq_some_iff.mp H
     obtain ⟨t185, A110, H⟩ := H
     replace H : (if t184 < t185 then ((feed_grid_dead.f k1 a0_0 l0_1 l0_2 (Go.bits .andNot .i64 a1 x12_1) a2).bind fun t186 => (if t186 = true then (feed_grid_least.l0 k1 a1 a2 x12_1 t183 (wrap64 (x12_1 + 1)) a0_0 l0_1 l0_2) else (feed_grid_least.l0 k1 a1 a2 x7_1 t183 (wrap64 (x12_1 + 1)) a0_0 l0_1 l0_2))) else (feed_grid_least.l0 k1 a1 a2 x7_1 t183 (wrap64 (x12_1 + 1)) a0_0 l0_1 l0_2)) = some r := H
     have A11 := Aside0.mk A110
     clear A110
     by_cases c12 : t184 < t185
     ·
      rw [if_pos c12] at H
      have c12b0 : decide (t184 < t185) = true := decide_eq_true c12
      clear c12
      replace H := Option.bind_eq_some_iff.mp H
      obtain ⟨t186, A130, H⟩ := H
      replace H : (if t186 = true then (feed_grid_least.l0 k1 a1 a2 x12_1 t183 (wrap64 (x12_1 + 1)) a0_0 l0_1 l0_2) else (feed_grid_least.l0 k1 a1 a2 x7_1 t183 (wrap64 (x12_1 + 1)) a0_0 l0_1 l0_2)) = some r := H
      have A13 := Aside0.mk A130
      clear A130
      by_cases c14 : t186 = true
      ·
       subst c14
       have H1 : (feed_grid_least.l0 k1 a1 a2 x12_1 t183 (wrap64 (x12_1 + 1)) a0_0 l0_1 l0_2) = some r := by rw [if_pos rfl] at H; exact H
       clear H
       have H := H1
       clear H1
       have H' := Aside0.mk H
       clear H
       go_wp2_with (first | (go_at_call 80; (with_reducible refine (bits_OnesCount.calls (IntKind.u64.wrap (x12_1)) t184 _ A10.out).mono ?_); rintro e w' ⟨rfl, ⟨nd, rfl⟩⟩) | (go_at_call 80; (with_reducible refine (bits_OnesCount.calls (IntKind.u64.wrap (x7_1)) t185 _ A11.out).mono ?_); rintro e w' ⟨rfl, ⟨nd, rfl⟩⟩; have hcz15_0 := blkc BK182.out 0 (.int .i64 a0_0) rfl; have hcz15_1 := blkc BK182.out 1 (.slice A0_1 l0_1.length c0_1) rfl; have hcz15_2 := blkc BK182.out 2 (.slice A0_2 l0_2.length c0_2) rfl; have hfz15_0 := blk_frozen BK182.out 0; have hfz15_1 := blk_frozen BK182.out 1; have hfz15_2 := blk_frozen BK182.out 2) | (go_at_call 60; (with_reducible refine (feed_grid_dead.calls k1 a0_0 _ _ l0_1 _ _ l0_2 (Go.bits .andNot .i64 a1 x12_1) a2 true _ ?side1 ?side2 ?side3 ?side4 A13.out).mono ?_); (case side1 => repeat (first | exact (Kd.C_below HR0_1.out bel) | (with_reducible refine Kd.C_alloc ?_ _) | (with_reducible refine Kd.C_drewN ?_ _) | (with_reducible refine Kd.C_drew ?_))); (case side2 => exact HC0_1.out); (case side3 => repeat (first | exact (Kd.C_below HR0_2.out bel) | (with_reducible refine Kd.C_alloc ?_ _) | (with_reducible refine Kd.C_drewN ?_ _) | (with_reducible refine Kd.C_drew ?_))); (case side4 => exact HC0_2.out); rintro e w16 ⟨rfl, hb⟩; have n0_ := Aside0.mk (blk_below (g := gb182) blkz hb); have n1_ := Aside0.mk (below_step bel hb); clear BK182; clear HB; have BK182 := n0_; have HB := n1_; clear n0_ n1_; (try clear hb); (try clear hb2); (try clear hk); (try clear hi)))
       go_roundg k1
       case measure => have := HK1.out; omega
       case rel => exact ⟨(x12_1), (wrap64 (x12_1 + 1)), rsz, rsz, H', ⟨by have := HK1.out; omega⟩, ⟨by (with_reducible repeat (first | refine blk_drewN ?_ _ | refine blk_drew ?_ | refine blk_alloc ?_ _)); exact BK182.out⟩, ⟨by repeat (first | (with_reducible first | exact HB.out | apply below_alloc | apply pw_below_drewN | apply below_drew1 | refine below_set ?_ GE182.out) | exact HB.out)⟩⟩
      ·
       replace c14 := Bool.eq_false_iff.mpr c14
       subst c14
       have H1 : (feed_grid_least.l0 k1 a1 a2 x7_1 t183 (wrap64 (x12_1 + 1)) a0_0 l0_1 l0_2) = some r := by rw [if_neg (show ¬ (false = true) by decide)] at H; exact H
       clear H
       have H := H1
       clear H1
       have H' := Aside0.mk H
       clear H
       go_wp2_with (first | (go_at_call 80; (with_reducible refine (bits_OnesCount.calls (IntKind.u64.wrap (x12_1)) t184 _ A10.out).mono ?_); rintro e w' ⟨rfl, ⟨nd, rfl⟩⟩) | (go_at_call 80; (with_reducible refine (bits_OnesCount.calls (IntKind.u64.wrap (x7_1)) t185 _ A11.out).mono ?_); rintro e w' ⟨rfl, ⟨nd, rfl⟩⟩; have hcz17_0 := blkc BK182.out 0 (.int .i64 a0_0) rfl; have hcz17_1 := blkc BK182.out 1 (.slice A0_1 l0_1.length c0_1) rfl; have hcz17_2 := blkc BK182.out 2 (.slice A0_2 l0_2.length c0_2) rfl; have hfz17_0 := blk_frozen BK182.out 0; have hfz17_1 := blk_frozen BK182.out 1; have hfz17_2 := blk_frozen BK182.out 2) | (go_at_call 60; (with_reducible refine (feed_grid_dead.calls k1 a0_0 _ _ l0_1 _ _ l0_2 (Go.bits .andNot .i64 a1 x12_1) a2 false _ ?side1 ?side2 ?side3 ?side4 A13.out).mono ?_); (case side1 => repeat (first | exact (Kd.C_below HR0_1.out bel) | (with_reducible refine Kd.C_alloc ?_ _) | (with_reducible refine Kd.C_drewN ?_ _) | (with_reducible refine Kd.C_drew ?_))); (case side2 => exact HC0_1.out); (case side3 => repeat (first | exact (Kd.C_below HR0_2.out bel) | (with_reducible refine Kd.C_alloc ?_ _) | (with_reducible refine Kd.C_drewN ?_ _) | (with_reducible refine Kd.C_drew ?_))); (case side4 => exact HC0_2.out); rintro e w18 ⟨rfl, hb⟩; have n0_ := Aside0.mk (blk_below (g := gb182) blkz hb); have n1_ := Aside0.mk (below_step bel hb); clear BK182; clear HB; have BK182 := n0_; have HB := n1_; clear n0_ n1_; (try clear hb); (try clear hb2); (try clear hk); (try clear hi)))
       go_roundg k1
       case measure => have := HK1.out; omega
       case rel => exact ⟨(x7_1), (wrap64 (x12_1 + 1)), rsz, rsz, H', ⟨by have := HK1.out; omega⟩, ⟨by (with_reducible repeat (first | refine blk_drewN ?_ _ | refine blk_drew ?_ | refine blk_alloc ?_ _)); exact BK182.out⟩, ⟨by repeat (first | (with_reducible first | exact HB.out | apply below_alloc | apply pw_below_drewN | apply below_drew1 | refine below_set ?_ GE182.out) | exact HB.out)⟩⟩
     ·
      rw [if_neg c12] at H
      have c12b0 : decide (t184 < t185) = false := decide_eq_false c12
      clear c12
      have H' := Aside0.mk H
      clear H
      go_wp2_with (first | (go_at_call 80; (with_reducible refine (bits_OnesCount.calls (IntKind.u64.wrap (x12_1)) t184 _ A10.out).mono ?_); rintro e w' ⟨rfl, ⟨nd, rfl⟩⟩) | (go_at_call 80; (with_reducible refine (bits_OnesCount.calls (IntKind.u64.wrap (x7_1)) t185 _ A11.out).mono ?_); rintro e w' ⟨rfl, ⟨nd, rfl⟩⟩))
      go_roundg k1
      case measure => have := HK1.out; omega
      case rel => exact ⟨(x7_1), (wrap64 (x12_1 + 1)), rsz, rsz, H', ⟨by have := HK1.out; omega⟩, ⟨by (with_reducible repeat (first | refine blk_drewN ?_ _ | refine blk_drew ?_ | refine blk_alloc ?_ _)); exact BK182.out⟩, ⟨by repeat (first | (with_reducible first | exact HB.out | apply below_alloc | apply pw_below_drewN | apply below_drew1 | refine below_set ?_ GE182.out) | exact HB.out)⟩⟩
    ·
     rw [if_neg c9] at H
     have c9b0 : ((Go.bits .andNot .i64 x12_1 a1) == 0) = false := beq_eq_false_iff_ne.mpr c9
     have c9b1 : ((Go.bits .andNot .i64 x12_1 a1) != 0) = true := bne_iff_ne.mpr c9
     have H' := Aside0.mk H
     clear H
     go_wp2
     go_roundg k1
     case measure => have := HK1.out; omega
     case rel => exact ⟨(x7_1), (wrap64 (x12_1 + 1)), rsz, rsz, H', ⟨by have := HK1.out; omega⟩, ⟨by (with_reducible repeat (first | refine blk_drewN ?_ _ | refine blk_drew ?_ | refine blk_alloc ?_ _)); exact BK182.out⟩, ⟨by repeat (first | (with_reducible first | exact HB.out | apply below_alloc | apply pw_below_drewN | apply below_drew1 | refine below_set ?_ GE182.out) | exact HB.out)⟩⟩
   ·
    rw [if_neg c8] at H
    have c8b0 : decide (x12_1 < t183) = false := decide_eq_false c8
    clear c8
    obtain rfl := Option.some.inj H
    go_wp2
    go_ret
    exact ⟨by first | rfl | (simp [errW_none, errW_some] <;> rfl) | (simp [*, errW_none, errW_some] <;> rfl), by repeat (first | (with_reducible first | exact HB.out | apply below_alloc | apply pw_below_drewN | apply below_drew1 | refine below_set ?_ GE182.out) | exact HB.out)⟩

end Go.Proofs.YtoilhnmdemnknaaDoor.XFeed

-- Written by wip/xprint.py of this repo, over the kit's print.py: out of the translation; the oracles in it are by hand. Not trusted: Lean checks it.
namespace Go.Proofs.YtoilhnmdemnknaaDoor.XFeed
open Go.RowKit Go.Proofs.YtoilhnmdemnknaaDoorW.PrintWords Go.Proofs.YtoilhnmdemnknaaDoorW.PrintLast Go.Proofs.YtoilhnmdemnknaaDoorW.PrintMore
attribute [local go_sem] max2_int min2_int max_two min_two max_three min_three max_four min_four   -- for this text's walks alone
set_option linter.unusedVariables false
set_option linter.unusedSimpArgs false

/-! ### feed_Isolate: function 24 -/
def feed_Isolate.f (k : Nat) (a0_0 : Int) (l0_1 : List (S69)) (l0_2 : List (S71)) (a1 : Int) (a2 : Int) : Option (List Int × Int) := (feed_asked.f a0_0 l0_1 l0_2 a1 a2).bind fun bt188 => (if bt188.2 = 0 then ((feed_grid_atHome.f bt188.1 l0_1 l0_2 a2).bind fun t197 => (if t197 = true then (some (([] : List Int), 5)) else ((feed_grid_least.f k bt188.1 l0_1 l0_2 a1 a2).bind fun t198 => ((feed_list.f k t198).bind fun t199 => (some (t199, 0)))))) else (some (([] : List Int), bt188.2)))
theorem feed_Isolate.mono : ∀ a0 a1 a2 a3 a4 k, LeO (feed_Isolate.f k a0 a1 a2 a3 a4) (feed_Isolate.f (k + 1) a0 a1 a2 a3 a4) := by
 intro a0 a1 a2 a3 a4 k
 unfold feed_Isolate.f
 repeat' first
   | (with_reducible exact feed_grid_least.mono _ _ _ _ _ _)
   | (with_reducible exact feed_list.mono _ _)
   | (with_reducible exact LeO.refl _)
   | (with_reducible exact LeO.none _)
   | (with_reducible refine LeO.ite ?_ ?_)
   | (with_reducible refine LeO.bind ?_ (fun _ => ?_))
   | exact feed_grid_least.mono _ _ _ _ _ _
   | exact feed_list.mono _ _
   | exact LeO.none _
   | refine LeO.ite ?_ ?_
   | refine LeO.bind ?_ (fun _ => ?_)
set_option maxHeartbeats 8000000 in
set_option maxRecDepth 100000 in
theorem feed_Isolate.calls (k : Nat) (a0_0 : Int) (A0_1 : Option Addr) (c0_1 : Nat) (l0_1 : List (S69)) (A0_2 : Option Addr) (c0_2 : Nat) (l0_2 : List (S71)) (a1 : Int) (a2 : Int) (r1 : List Int) (r2 : Int) (w : World) (hr0_1 : Kd.C k69 w A0_1 l0_1.length l0_1) (hc0_1 : l0_1.length ≤ c0_1) (hr0_2 : Kd.C k71 w A0_2 l0_2.length l0_2) (hc0_2 : l0_2.length ≤ c0_2) (hT : Tab.Tabs w) (h : feed_Isolate.f k a0_0 l0_1 l0_2 a1 a2 = some (r1, r2)) :
  Calls Tryd.prog 24 #[.agg #[.int .i64 a0_0, .slice A0_1 l0_1.length c0_1, .slice A0_2 l0_2.length c0_2], .int .i64 a1, .int .i64 a2] w fun e w' => ∃ v0_ : Value, e = .returned (.tuple #[v0_, .int .i64 r2]) ∧ Kd.R (Kd.int .i64) 3 w' w.heap.size (fun _ => True) v0_ r1 ∧ Below w.heap.size w w' := by
 have HT := Aside0.mk hT
 clear hT
 have hu25 := Tryd.underlying25
 have hu73 := Tryd.underlying73
 have HR0_1 := Aside0.mk hr0_1
 have HC0_1 := Aside0.mk hc0_1
 clear hr0_1 hc0_1
 have HR0_2 := Aside0.mk hr0_2
 have HC0_2 := Aside0.mk hc0_2
 clear hr0_2 hc0_2
 have HB := Aside0.mk (Below.refl w.heap.size w)
 have H : ((feed_asked.f a0_0 l0_1 l0_2 a1 a2).bind fun bt188 => (if bt188.2 = 0 then ((feed_grid_atHome.f bt188.1 l0_1 l0_2 a2).bind fun t197 => (if t197 = true then (some (([] : List Int), 5)) else ((feed_grid_least.f k bt188.1 l0_1 l0_2 a1 a2).bind fun t198 => ((feed_list.f k t198).bind fun t199 => (some (t199, 0)))))) else (some (([] : List Int), bt188.2)))) = some (r1, r2) := h
 clear h
 replace H := Option.bind_eq_some_iff.mp H
 obtain ⟨⟨t188, t195⟩, A40, H⟩ := H
 replace H : (if t195 = 0 then ((feed_grid_atHome.f t188 l0_1 l0_2 a2).bind fun t197 => (if t197 = true then (some (([] : List Int), 5)) else ((feed_grid_least.f k t188 l0_1 l0_2 a1 a2).bind fun t198 => ((feed_list.f k t198).bind fun t199 => (some (t199, 0)))))) else (some (([] : List Int), t195))) = some (r1, r2) := H
 have A4 := Aside0.mk A40
 clear A40
 by_cases c5 : t195 = 0
 ·
  rw [if_pos c5] at H
  have c5b0 : (t195 == 0) = true := beq_iff_eq.mpr c5
  have c5b1 : (t195 != 0) = false := bne_eq_false_iff_eq.mpr c5
  clear c5
  replace H := Option.bind_eq_some_iff.mp H
  obtain ⟨t197, A60, H⟩ := H
  replace H : (if t197 = true then (some (([] : List Int), 5)) else ((feed_grid_least.f k t188 l0_1 l0_2 a1 a2).bind fun t198 => ((feed_list.f k t198).bind fun t199 => (some (t199, 0))))) = some (r1, r2) := H
  have A6 := Aside0.mk A60
  clear A60
  by_cases c7 : t197 = true
  ·
   subst c7
   have H1 : (some (([] : List Int), 5)) = some (r1, r2) := by rw [if_pos rfl] at H; exact H
   clear H
   have H := H1
   clear H1
   simp only [Option.some.injEq, Prod.mk.injEq] at H
   obtain ⟨rfl, rfl⟩ := H
   go_enter Tryd.func24, Tryd.ntmps24
   go_wp2_with (first | ((with_reducible refine gate_dst (N := 3) rfl ?_); refine box_event ?hg (N := 3) ?hd (cs := #[.int .i64 a0_0, .slice A0_1 l0_1.length c0_1, .slice A0_2 l0_2.length c0_2]) (t := 25) ?hr ?_; (case hd => rfl); (case hg => rfl); (case hr => first | (go_simp; done) | (go_simp; rfl)); intro gb187 hg w8 hbox hb; have n0_ := Aside0.mk (below_step bel hb); have n1_ := Aside0.mk (hbox); have n2_ := Aside0.mk ((by rw [hg]; exact (below_size bel) : w.heap.size ≤ gb187)); have n3_ := n2_; clear HB; have HB := n0_; have BK187 := n1_; have GW187 := n2_; have GE187 := n3_; clear n0_ n1_ n2_ n3_; clear hb hbox hg; have hcz9_0 := blkc BK187.out 0 (.int .i64 a0_0) rfl; have hcz9_1 := blkc BK187.out 1 (.slice A0_1 l0_1.length c0_1) rfl; have hcz9_2 := blkc BK187.out 2 (.slice A0_2 l0_2.length c0_2) rfl; have hfz9_0 := blk_frozen BK187.out 0; have hfz9_1 := blk_frozen BK187.out 1; have hfz9_2 := blk_frozen BK187.out 2) | ((with_reducible refine gate_callee (f := 59) rfl ?_); refine goesL_ (some 14) rfl rfl Tryd.func59 (by kernel_rfl) rfl #[.agg #[.int .i64 a0_0, .slice A0_1 l0_1.length c0_1, .slice A0_2 l0_2.length c0_2], .int .i64 a1, .int .i64 a2] rfl mapz ?_; (with_reducible refine (feed_asked.calls a0_0 _ _ l0_1 _ _ l0_2 a1 a2 t188 t195 _ ?side1 ?side2 ?side3 ?side4 A4.out).mono ?_); (case side1 => exact cbz HR0_1); (case side2 => exact HC0_1.out); (case side3 => exact cbz HR0_2); (case side4 => exact HC0_2.out); rintro e w10 ⟨rfl, hb⟩; refine ⟨_, rfl, ?_⟩; have n0_ := Aside0.mk (blk_below (g := gb187) blkz hb); have n1_ := Aside0.mk (below_step bel hb); clear BK187; clear HB; have BK187 := n0_; have HB := n1_; clear n0_ n1_; (try clear hb); (try clear hb2); (try clear hk); (try clear hi)) | ((with_reducible refine gate_dst (N := 8) rfl ?_); refine box_event ?hg (N := 8) ?hd (cs := #[.int .i64 0, .slice none 0 0, .slice none 0 0]) (t := 73) ?hr ?_; (case hd => rfl); (case hg => rfl); (case hr => first | (go_simp; done) | (go_simp; rfl)); intro gb196 hg w11 hbox hb; have n0_ := Aside0.mk (blk_below (g := gb187) blkz hb); have n1_ := Aside0.mk (below_step bel hb); have n2_ := Aside0.mk (hbox); have n3_ := Aside0.mk ((by rw [hg]; exact (below_size bel) : w.heap.size ≤ gb196)); have n4_ := n3_; have n5_ := Aside0.mk ((by rw [hg]; exact Nat.ne_of_lt (blk_lt (g := gb187) (o := .cells #[.int .i64 a0_0, .slice A0_1 l0_1.length c0_1, .slice A0_2 l0_2.length c0_2] 25 (0, 0)) blkz) : gb187 ≠ gb196)); have n6_ := Aside0.mk ((by rw [hg]; exact Nat.ne_of_gt (blk_lt (g := gb187) (o := .cells #[.int .i64 a0_0, .slice A0_1 l0_1.length c0_1, .slice A0_2 l0_2.length c0_2] 25 (0, 0)) blkz) : gb196 ≠ gb187)); clear BK187; clear HB; have BK187 := n0_; have HB := n1_; have BK196 := n2_; have GW196 := n3_; have GE196 := n4_; have NB187_196 := n5_; have NB196_187 := n6_; clear n0_ n1_ n2_ n3_ n4_ n5_ n6_; clear hb hbox hg; have hnb12 := NB196_187.out; have hnc12 := NB187_196.out; have hcz13_0 := blkc BK196.out 0 (.int .i64 0) rfl; have hcz13_1 := blkc BK196.out 1 (.slice none 0 0) rfl; have hcz13_2 := blkc BK196.out 2 (.slice none 0 0) rfl; have hfz13_0 := blk_frozen BK196.out 0; have hfz13_1 := blk_frozen BK196.out 1; have hfz13_2 := blk_frozen BK196.out 2) | ((with_reducible refine gate_callee (f := 62) rfl ?_); refine goesL_ (some 24) rfl rfl Tryd.func62 (by kernel_rfl) rfl #[.agg #[.int .i64 t188, .slice A0_1 l0_1.length c0_1, .slice A0_2 l0_2.length c0_2], .int .i64 a2] rfl mapz ?_; (with_reducible refine (feed_grid_atHome.calls t188 _ _ l0_1 _ _ l0_2 a2 true _ ?side1 ?side2 ?side3 ?side4 A6.out).mono ?_); (case side1 => exact cbz HR0_1); (case side2 => exact HC0_1.out); (case side3 => exact cbz HR0_2); (case side4 => exact HC0_2.out); rintro e w14 ⟨rfl, hb⟩; refine ⟨_, rfl, ?_⟩; have n0_ := Aside0.mk (blk_below (g := gb187) (o := .cells #[.int .i64 a0_0, .slice A0_1 l0_1.length c0_1, .slice A0_2 l0_2.length c0_2] 25 (0, 0)) (by (with_reducible repeat (first | refine blk_drewN ?_ _ | refine blk_drew ?_ | refine blk_alloc ?_ _)); refine blk_far ?_ NB187_196.out _; (with_reducible repeat (first | refine blk_drewN ?_ _ | refine blk_drew ?_ | refine blk_alloc ?_ _)); refine blk_far ?_ NB187_196.out _; (with_reducible repeat (first | refine blk_drewN ?_ _ | refine blk_drew ?_ | refine blk_alloc ?_ _)); refine blk_far ?_ NB187_196.out _; (with_reducible repeat (first | refine blk_drewN ?_ _ | refine blk_drew ?_ | refine blk_alloc ?_ _)); exact BK187.out) hb); have n1_ := Aside0.mk (blk_below (g := gb196) (o := .cells #[.int .i64 t188, .slice A0_1 l0_1.length c0_1, .slice A0_2 l0_2.length c0_2] 73 (0, 0)) (by (with_reducible repeat (first | refine blk_drewN ?_ _ | refine blk_drew ?_ | refine blk_alloc ?_ _)); refine blk_put (cs := #[.int .i64 t188, .slice A0_1 l0_1.length c0_1, .slice none 0 0]) ?_ 2 _ rfl; (with_reducible repeat (first | refine blk_drewN ?_ _ | refine blk_drew ?_ | refine blk_alloc ?_ _)); refine blk_put (cs := #[.int .i64 t188, .slice none 0 0, .slice none 0 0]) ?_ 1 _ rfl; (with_reducible repeat (first | refine blk_drewN ?_ _ | refine blk_drew ?_ | refine blk_alloc ?_ _)); refine blk_put (cs := #[.int .i64 0, .slice none 0 0, .slice none 0 0]) ?_ 0 _ rfl; (with_reducible repeat (first | refine blk_drewN ?_ _ | refine blk_drew ?_ | refine blk_alloc ?_ _)); exact BK196.out) hb); have n2_ := Aside0.mk (below_step bel hb); clear BK187; clear BK196; clear HB; have BK187 := n0_; have BK196 := n1_; have HB := n2_; clear n0_ n1_ n2_; (try clear hb); (try clear hb2); (try clear hk); (try clear hi)))
   go_ret2
   exact ⟨_, by first | rfl | (simp [errW_none, errW_some] <;> rfl) | (simp [*, errW_none, errW_some] <;> rfl), by first | exact Kd.R_nil _ _ _ _ _ | exact Kd.N_nil _ _ _ _ _ | exact Kd.V_nil _ _ _ _ _ | exact Kd.Q_nil _ _ _ _ _ | exact Kd.S_nil _ _ _ _ _, by repeat (first | (with_reducible first | exact HB.out | apply below_alloc | apply pw_below_drewN | apply below_drew1 | refine below_set ?_ GE187.out | refine below_set ?_ GE196.out) | exact HB.out)⟩
  ·
   replace c7 := Bool.eq_false_iff.mpr c7
   subst c7
   have H1 : ((feed_grid_least.f k t188 l0_1 l0_2 a1 a2).bind fun t198 => ((feed_list.f k t198).bind fun t199 => (some (t199, 0)))) = some (r1, r2) := by rw [if_neg (show ¬ (false = true) by decide)] at H; exact H
   clear H
   have H := H1
   clear H1
   replace H := Option.bind_eq_some_iff.mp H
   obtain ⟨t198, A150, H⟩ := H
   replace H : ((feed_list.f k t198).bind fun t199 => (some (t199, 0))) = some (r1, r2) := H
   have A15 := Aside0.mk A150
   clear A150
   replace H := Option.bind_eq_some_iff.mp H
   obtain ⟨t199, A160, H⟩ := H
   replace H : (some (t199, 0)) = some (r1, r2) := H
   have A16 := Aside0.mk A160
   clear A160
   simp only [Option.some.injEq, Prod.mk.injEq] at H
   obtain ⟨rfl, rfl⟩ := H
   go_enter Tryd.func24, Tryd.ntmps24
   go_wp2_with (first | ((with_reducible refine gate_dst (N := 3) rfl ?_); refine box_event ?hg (N := 3) ?hd (cs := #[.int .i64 a0_0, .slice A0_1 l0_1.length c0_1, .slice A0_2 l0_2.length c0_2]) (t := 25) ?hr ?_; (case hd => rfl); (case hg => rfl); (case hr => first | (go_simp; done) | (go_simp; rfl)); intro gb187 hg w17 hbox hb; have n0_ := Aside0.mk (below_step bel hb); have n1_ := Aside0.mk (hbox); have n2_ := Aside0.mk ((by rw [hg]; exact (below_size bel) : w.heap.size ≤ gb187)); have n3_ := n2_; clear HB; have HB := n0_; have BK187 := n1_; have GW187 := n2_; have GE187 := n3_; clear n0_ n1_ n2_ n3_; clear hb hbox hg; have hcz18_0 := blkc BK187.out 0 (.int .i64 a0_0) rfl; have hcz18_1 := blkc BK187.out 1 (.slice A0_1 l0_1.length c0_1) rfl; have hcz18_2 := blkc BK187.out 2 (.slice A0_2 l0_2.length c0_2) rfl; have hfz18_0 := blk_frozen BK187.out 0; have hfz18_1 := blk_frozen BK187.out 1; have hfz18_2 := blk_frozen BK187.out 2) | ((with_reducible refine gate_callee (f := 59) rfl ?_); refine goesL_ (some 14) rfl rfl Tryd.func59 (by kernel_rfl) rfl #[.agg #[.int .i64 a0_0, .slice A0_1 l0_1.length c0_1, .slice A0_2 l0_2.length c0_2], .int .i64 a1, .int .i64 a2] rfl mapz ?_; (with_reducible refine (feed_asked.calls a0_0 _ _ l0_1 _ _ l0_2 a1 a2 t188 t195 _ ?side1 ?side2 ?side3 ?side4 A4.out).mono ?_); (case side1 => exact cbz HR0_1); (case side2 => exact HC0_1.out); (case side3 => exact cbz HR0_2); (case side4 => exact HC0_2.out); rintro e w19 ⟨rfl, hb⟩; refine ⟨_, rfl, ?_⟩; have n0_ := Aside0.mk (blk_below (g := gb187) blkz hb); have n1_ := Aside0.mk (below_step bel hb); clear BK187; clear HB; have BK187 := n0_; have HB := n1_; clear n0_ n1_; (try clear hb); (try clear hb2); (try clear hk); (try clear hi)) | ((with_reducible refine gate_dst (N := 8) rfl ?_); refine box_event ?hg (N := 8) ?hd (cs := #[.int .i64 0, .slice none 0 0, .slice none 0 0]) (t := 73) ?hr ?_; (case hd => rfl); (case hg => rfl); (case hr => first | (go_simp; done) | (go_simp; rfl)); intro gb196 hg w20 hbox hb; have n0_ := Aside0.mk (blk_below (g := gb187) blkz hb); have n1_ := Aside0.mk (below_step bel hb); have n2_ := Aside0.mk (hbox); have n3_ := Aside0.mk ((by rw [hg]; exact (below_size bel) : w.heap.size ≤ gb196)); have n4_ := n3_; have n5_ := Aside0.mk ((by rw [hg]; exact Nat.ne_of_lt (blk_lt (g := gb187) (o := .cells #[.int .i64 a0_0, .slice A0_1 l0_1.length c0_1, .slice A0_2 l0_2.length c0_2] 25 (0, 0)) blkz) : gb187 ≠ gb196)); have n6_ := Aside0.mk ((by rw [hg]; exact Nat.ne_of_gt (blk_lt (g := gb187) (o := .cells #[.int .i64 a0_0, .slice A0_1 l0_1.length c0_1, .slice A0_2 l0_2.length c0_2] 25 (0, 0)) blkz) : gb196 ≠ gb187)); clear BK187; clear HB; have BK187 := n0_; have HB := n1_; have BK196 := n2_; have GW196 := n3_; have GE196 := n4_; have NB187_196 := n5_; have NB196_187 := n6_; clear n0_ n1_ n2_ n3_ n4_ n5_ n6_; clear hb hbox hg; have hnb21 := NB196_187.out; have hnc21 := NB187_196.out; have hcz22_0 := blkc BK196.out 0 (.int .i64 0) rfl; have hcz22_1 := blkc BK196.out 1 (.slice none 0 0) rfl; have hcz22_2 := blkc BK196.out 2 (.slice none 0 0) rfl; have hfz22_0 := blk_frozen BK196.out 0; have hfz22_1 := blk_frozen BK196.out 1; have hfz22_2 := blk_frozen BK196.out 2) | ((with_reducible refine gate_callee (f := 62) rfl ?_); refine goesL_ (some 24) rfl rfl Tryd.func62 (by kernel_rfl) rfl #[.agg #[.int .i64 t188, .slice A0_1 l0_1.length c0_1, .slice A0_2 l0_2.length c0_2], .int .i64 a2] rfl mapz ?_; (with_reducible refine (feed_grid_atHome.calls t188 _ _ l0_1 _ _ l0_2 a2 false _ ?side1 ?side2 ?side3 ?side4 A6.out).mono ?_); (case side1 => exact cbz HR0_1); (case side2 => exact HC0_1.out); (case side3 => exact cbz HR0_2); (case side4 => exact HC0_2.out); rintro e w23 ⟨rfl, hb⟩; refine ⟨_, rfl, ?_⟩; have n0_ := Aside0.mk (blk_below (g := gb187) (o := .cells #[.int .i64 a0_0, .slice A0_1 l0_1.length c0_1, .slice A0_2 l0_2.length c0_2] 25 (0, 0)) (by (with_reducible repeat (first | refine blk_drewN ?_ _ | refine blk_drew ?_ | refine blk_alloc ?_ _)); refine blk_far ?_ NB187_196.out _; (with_reducible repeat (first | refine blk_drewN ?_ _ | refine blk_drew ?_ | refine blk_alloc ?_ _)); refine blk_far ?_ NB187_196.out _; (with_reducible repeat (first | refine blk_drewN ?_ _ | refine blk_drew ?_ | refine blk_alloc ?_ _)); refine blk_far ?_ NB187_196.out _; (with_reducible repeat (first | refine blk_drewN ?_ _ | refine blk_drew ?_ | refine blk_alloc ?_ _)); exact BK187.out) hb); have n1_ := Aside0.mk (blk_below (g := gb196) (o := .cells #[.int .i64 t188, .slice A0_1 l0_1.length c0_1, .slice A0_2 l0_2.length c0_2] 73 (0, 0)) (by (with_reducible repeat (first | refine blk_drewN ?_ _ | refine blk_drew ?_ | refine blk_alloc ?_ _)); refine blk_put (cs := #[.int .i64 t188, .slice A0_1 l0_1.length c0_1, .slice none 0 0]) ?_ 2 _ rfl; (with_reducible repeat (first | refine blk_drewN ?_ _ | refine blk_drew ?_ | refine blk_alloc ?_ _)); refine blk_put (cs := #[.int .i64 t188, .slice none 0 0, .slice none 0 0]) ?_ 1 _ rfl; (with_reducible repeat (first | refine blk_drewN ?_ _ | refine blk_drew ?_ | refine blk_alloc ?_ _)); refine blk_put (cs := #[.int .i64 0, .slice none 0 0, .slice none 0 0]) ?_ 0 _ rfl; (with_reducible repeat (first | refine blk_drewN ?_ _ | refine blk_drew ?_ | refine blk_alloc ?_ _)); exact BK196.out) hb); have n2_ := Aside0.mk (below_step bel hb); clear BK187; clear BK196; clear HB; have BK187 := n0_; have BK196 := n1_; have HB := n2_; clear n0_ n1_ n2_; (try clear hb); (try clear hb2); (try clear hk); (try clear hi); have hcz24_0 := blkc BK196.out 0 (.int .i64 t188) rfl; have hcz24_1 := blkc BK196.out 1 (.slice A0_1 l0_1.length c0_1) rfl; have hcz24_2 := blkc BK196.out 2 (.slice A0_2 l0_2.length c0_2) rfl; have hfz24_0 := blk_frozen BK196.out 0; have hfz24_1 := blk_frozen BK196.out 1; have hfz24_2 := blk_frozen BK196.out 2) | ((with_reducible refine gate_callee (f := 64) rfl ?_); refine goesL_ (some 28) rfl rfl Tryd.func64 (by kernel_rfl) rfl #[.agg #[.int .i64 t188, .slice A0_1 l0_1.length c0_1, .slice A0_2 l0_2.length c0_2], .int .i64 a1, .int .i64 a2] rfl mapz ?_; (with_reducible refine (feed_grid_least.calls k t188 _ _ l0_1 _ _ l0_2 a1 a2 t198 _ ?side1 ?side2 ?side3 ?side4 A15.out).mono ?_); (case side1 => exact cbz HR0_1); (case side2 => exact HC0_1.out); (case side3 => exact cbz HR0_2); (case side4 => exact HC0_2.out); rintro e w25 ⟨rfl, hb⟩; refine ⟨_, rfl, ?_⟩; have n0_ := Aside0.mk (blk_below (g := gb187) blkz hb); have n1_ := Aside0.mk (blk_below (g := gb196) blkz hb); have n2_ := Aside0.mk (below_step bel hb); clear BK187; clear BK196; clear HB; have BK187 := n0_; have BK196 := n1_; have HB := n2_; clear n0_ n1_ n2_; (try clear hb); (try clear hb2); (try clear hk); (try clear hi)) | ((with_reducible refine gate_callee (f := 63) rfl ?_); refine goesL_ (some 29) rfl rfl Tryd.func63 (by kernel_rfl) rfl #[.int .i64 t198] rfl mapz ?_; (with_reducible refine (feed_list.calls k t198 t199 _ ?sideT A16.out).mono ?_); (case sideT => first | exact HT.out | exact Tab.Tabs.below HT.out bel | (with_reducible repeat (first | exact HT.out | apply Tab.Tabs.alloc | apply Tab.Tabs.drewN | apply Tab.Tabs.drew))); rintro e w26 ⟨v200, rfl, ho0, hb⟩; refine ⟨_, rfl, ?_⟩; have n0_ := Aside0.mk (Kd.R_lower ho0 (below_size bel)); have n1_ := Aside0.mk (blk_below (g := gb187) blkz hb); have n2_ := Aside0.mk (blk_below (g := gb196) blkz hb); have n3_ := Aside0.mk (below_step bel hb); clear BK187; clear BK196; clear HB; have HO201 := n0_; have BK187 := n1_; have BK196 := n2_; have HB := n3_; clear n0_ n1_ n2_ n3_; (try clear hb); (try clear hb2); (try clear hk); (try clear hi); (try clear ho0)))
   go_ret2
   exact ⟨_, by first | rfl | (simp [errW_none, errW_some] <;> rfl) | (simp [*, errW_none, errW_some] <;> rfl), by (with_reducible repeat (first | apply Kd.R_alloc | apply Kd.R_drewN | apply Kd.R_drew)); exact HO201.out, by repeat (first | (with_reducible first | exact HB.out | apply below_alloc | apply pw_below_drewN | apply below_drew1 | refine below_set ?_ GE187.out | refine below_set ?_ GE196.out) | exact HB.out)⟩
 ·
  rw [if_neg c5] at H
  have c5b0 : (t195 == 0) = false := beq_eq_false_iff_ne.mpr c5
  have c5b1 : (t195 != 0) = true := bne_iff_ne.mpr c5
  simp only [Option.some.injEq, Prod.mk.injEq] at H
  obtain ⟨rfl, rfl⟩ := H
  go_enter Tryd.func24, Tryd.ntmps24
  go_wp2_with (first | ((with_reducible refine gate_dst (N := 3) rfl ?_); refine box_event ?hg (N := 3) ?hd (cs := #[.int .i64 a0_0, .slice A0_1 l0_1.length c0_1, .slice A0_2 l0_2.length c0_2]) (t := 25) ?hr ?_; (case hd => rfl); (case hg => rfl); (case hr => first | (go_simp; done) | (go_simp; rfl)); intro gb187 hg w27 hbox hb; have n0_ := Aside0.mk (below_step bel hb); have n1_ := Aside0.mk (hbox); have n2_ := Aside0.mk ((by rw [hg]; exact (below_size bel) : w.heap.size ≤ gb187)); have n3_ := n2_; clear HB; have HB := n0_; have BK187 := n1_; have GW187 := n2_; have GE187 := n3_; clear n0_ n1_ n2_ n3_; clear hb hbox hg; have hcz28_0 := blkc BK187.out 0 (.int .i64 a0_0) rfl; have hcz28_1 := blkc BK187.out 1 (.slice A0_1 l0_1.length c0_1) rfl; have hcz28_2 := blkc BK187.out 2 (.slice A0_2 l0_2.length c0_2) rfl; have hfz28_0 := blk_frozen BK187.out 0; have hfz28_1 := blk_frozen BK187.out 1; have hfz28_2 := blk_frozen BK187.out 2) | ((with_reducible refine gate_callee (f := 59) rfl ?_); refine goesL_ (some 14) rfl rfl Tryd.func59 (by kernel_rfl) rfl #[.agg #[.int .i64 a0_0, .slice A0_1 l0_1.length c0_1, .slice A0_2 l0_2.length c0_2], .int .i64 a1, .int .i64 a2] rfl mapz ?_; (with_reducible refine (feed_asked.calls a0_0 _ _ l0_1 _ _ l0_2 a1 a2 t188 t195 _ ?side1 ?side2 ?side3 ?side4 A4.out).mono ?_); (case side1 => exact cbz HR0_1); (case side2 => exact HC0_1.out); (case side3 => exact cbz HR0_2); (case side4 => exact HC0_2.out); rintro e w29 ⟨rfl, hb⟩; refine ⟨_, rfl, ?_⟩; have n0_ := Aside0.mk (blk_below (g := gb187) blkz hb); have n1_ := Aside0.mk (below_step bel hb); clear BK187; clear HB; have BK187 := n0_; have HB := n1_; clear n0_ n1_; (try clear hb); (try clear hb2); (try clear hk); (try clear hi)) | ((with_reducible refine gate_dst (N := 8) rfl ?_); refine box_event ?hg (N := 8) ?hd (cs := #[.int .i64 0, .slice none 0 0, .slice none 0 0]) (t := 73) ?hr ?_; (case hd => rfl); (case hg => rfl); (case hr => first | (go_simp; done) | (go_simp; rfl)); intro gb196 hg w30 hbox hb; have n0_ := Aside0.mk (blk_below (g := gb187) blkz hb); have n1_ := Aside0.mk (below_step bel hb); have n2_ := Aside0.mk (hbox); have n3_ := Aside0.mk ((by rw [hg]; exact (below_size bel) : w.heap.size ≤ gb196)); have n4_ := n3_; have n5_ := Aside0.mk ((by rw [hg]; exact Nat.ne_of_lt (blk_lt (g := gb187) (o := .cells #[.int .i64 a0_0, .slice A0_1 l0_1.length c0_1, .slice A0_2 l0_2.length c0_2] 25 (0, 0)) blkz) : gb187 ≠ gb196)); have n6_ := Aside0.mk ((by rw [hg]; exact Nat.ne_of_gt (blk_lt (g := gb187) (o := .cells #[.int .i64 a0_0, .slice A0_1 l0_1.length c0_1, .slice A0_2 l0_2.length c0_2] 25 (0, 0)) blkz) : gb196 ≠ gb187)); clear BK187; clear HB; have BK187 := n0_; have HB := n1_; have BK196 := n2_; have GW196 := n3_; have GE196 := n4_; have NB187_196 := n5_; have NB196_187 := n6_; clear n0_ n1_ n2_ n3_ n4_ n5_ n6_; clear hb hbox hg; have hnb31 := NB196_187.out; have hnc31 := NB187_196.out; have hcz32_0 := blkc BK196.out 0 (.int .i64 0) rfl; have hcz32_1 := blkc BK196.out 1 (.slice none 0 0) rfl; have hcz32_2 := blkc BK196.out 2 (.slice none 0 0) rfl; have hfz32_0 := blk_frozen BK196.out 0; have hfz32_1 := blk_frozen BK196.out 1; have hfz32_2 := blk_frozen BK196.out 2))
  go_ret2
  exact ⟨_, by first | rfl | (simp [errW_none, errW_some] <;> rfl) | (simp [*, errW_none, errW_some] <;> rfl), by first | exact Kd.R_nil _ _ _ _ _ | exact Kd.N_nil _ _ _ _ _ | exact Kd.V_nil _ _ _ _ _ | exact Kd.Q_nil _ _ _ _ _ | exact Kd.S_nil _ _ _ _ _, by repeat (first | (with_reducible first | exact HB.out | apply below_alloc | apply pw_below_drewN | apply below_drew1 | refine below_set ?_ GE187.out | refine below_set ?_ GE196.out) | exact HB.out)⟩

end Go.Proofs.YtoilhnmdemnknaaDoor.XFeed

-- Written by wip/xprint.py of this repo, over the kit's print.py: out of the translation; the oracles in it are by hand. Not trusted: Lean checks it.
namespace Go.Proofs.YtoilhnmdemnknaaDoor.XFeed
open Go.RowKit Go.Proofs.YtoilhnmdemnknaaDoorW.PrintWords Go.Proofs.YtoilhnmdemnknaaDoorW.PrintLast Go.Proofs.YtoilhnmdemnknaaDoorW.PrintMore
attribute [local go_sem] max2_int min2_int max_two min_two max_three min_three max_four min_four   -- for this text's walks alone
set_option linter.unusedVariables false
set_option linter.unusedSimpArgs false

/-! ### feed_grid_live: function 47 -/
def feed_grid_live.l0 : Nat → List Int → List Int → Int → Int → Option (List Int)
 | 0, _, _, _, _ => none
 | k + 1, x5, x10, x11, x12 => if x12 < x11 then (if 0 ≤ x12 then (if x12 < (x10.length : Int) then ((bits_OnesCount.f (rd x10 x12)).bind fun t128 => (if t128 = 0 then (if x5.length < 17592186044416 then (feed_grid_live.l0 k (x5 ++ [0]) x10 x11 (wrap64 (x12 + 1))) else (none)) else (if t128 = 1 then ((bits_TrailingZeros.f (rd x10 x12)).bind fun t132 => (if x5.length < 17592186044416 then (feed_grid_live.l0 k (x5 ++ [t132]) x10 x11 (wrap64 (x12 + 1))) else (none))) else (if x5.length < 17592186044416 then (feed_grid_live.l0 k (x5 ++ [(-1)]) x10 x11 (wrap64 (x12 + 1))) else (none))))) else (none)) else (none)) else (some x5)
def feed_grid_live.f (k : Nat) (a0_0 : Int) (l0_1 : List (S69)) (l0_2 : List (S71)) (a1 : Int) : Option (List Int) := (feed_grid_fed.f k a0_0 l0_1 l0_2 a1).bind fun t124 => (feed_grid_live.l0 k ([] : List Int) t124 (t124.length : Int) 0)
theorem feed_grid_live.mono_l : ∀ k, (∀ y0 y1 y2 y3, LeO (feed_grid_live.l0 k y0 y1 y2 y3) (feed_grid_live.l0 (k + 1) y0 y1 y2 y3))
 | 0 => fun _ _ _ _ r h => by simp [feed_grid_live.l0] at h
 | k + 1 => by
  have ih0 := feed_grid_live.mono_l k
  ·
   intro y0 y1 y2 y3
   unfold feed_grid_live.l0
   repeat' first
   | (with_reducible exact ih0 _ _ _ _)
   | (with_reducible exact feed_grid_fed.mono _ _ _ _ _)
   | (with_reducible exact LeO.refl _)
   | (with_reducible exact LeO.none _)
   | (with_reducible refine LeO.ite ?_ ?_)
   | (with_reducible refine LeO.bind ?_ (fun _ => ?_))
   | exact ih0 _ _ _ _
   | exact feed_grid_fed.mono _ _ _ _ _
   | exact LeO.none _
   | refine LeO.ite ?_ ?_
   | refine LeO.bind ?_ (fun _ => ?_)
theorem feed_grid_live.mono : ∀ a0 a1 a2 a3 k, LeO (feed_grid_live.f k a0 a1 a2 a3) (feed_grid_live.f (k + 1) a0 a1 a2 a3) := by
 intro a0 a1 a2 a3 k
 have ih0 := feed_grid_live.mono_l k
 unfold feed_grid_live.f
 repeat' first
   | (with_reducible exact ih0 _ _ _ _)
   | (with_reducible exact feed_grid_fed.mono _ _ _ _ _)
   | (with_reducible exact LeO.refl _)
   | (with_reducible exact LeO.none _)
   | (with_reducible refine LeO.ite ?_ ?_)
   | (with_reducible refine LeO.bind ?_ (fun _ => ?_))
   | exact ih0 _ _ _ _
   | exact feed_grid_fed.mono _ _ _ _ _
   | exact LeO.none _
   | refine LeO.ite ?_ ?_
   | refine LeO.bind ?_ (fun _ => ?_)
set_option maxHeartbeats 8000000 in
set_option maxRecDepth 100000 in
theorem feed_grid_live.calls (k : Nat) (a0_0 : Int) (A0_1 : Option Addr) (c0_1 : Nat) (l0_1 : List (S69)) (A0_2 : Option Addr) (c0_2 : Nat) (l0_2 : List (S71)) (a1 : Int) (r : List Int) (w : World) (hr0_1 : Kd.C k69 w A0_1 l0_1.length l0_1) (hc0_1 : l0_1.length ≤ c0_1) (hr0_2 : Kd.C k71 w A0_2 l0_2.length l0_2) (hc0_2 : l0_2.length ≤ c0_2) (hT : Tab.Tabs w) (h : feed_grid_live.f k a0_0 l0_1 l0_2 a1 = some r) :
  Calls Tryd.prog 47 #[.agg #[.int .i64 a0_0, .slice A0_1 l0_1.length c0_1, .slice A0_2 l0_2.length c0_2], .int .i64 a1] w fun e w' => ∃ v0_ : Value, e = .returned (v0_) ∧ Kd.R (Kd.int .i64) 3 w' w.heap.size (fun _ => True) v0_ r ∧ Below w.heap.size w w' := by
 have HT := Aside0.mk hT
 clear hT
 have hu73 := Tryd.underlying73
 have HR0_1 := Aside0.mk hr0_1
 have HC0_1 := Aside0.mk hc0_1
 clear hr0_1 hc0_1
 have HR0_2 := Aside0.mk hr0_2
 have HC0_2 := Aside0.mk hc0_2
 clear hr0_2 hc0_2
 have HB := Aside0.mk (Below.refl w.heap.size w)
 have H : ((feed_grid_fed.f k a0_0 l0_1 l0_2 a1).bind fun t124 => (feed_grid_live.l0 k ([] : List Int) t124 (t124.length : Int) 0)) = some r := h
 clear h
 replace H := Option.bind_eq_some_iff.mp H
 obtain ⟨t124, A30, H⟩ := H
 replace H : (feed_grid_live.l0 k ([] : List Int) t124 (t124.length : Int) 0) = some r := H
 have A3 := Aside0.mk A30
 clear A30
 have H' := Aside0.mk H
 clear H
 go_enter Tryd.func47, Tryd.ntmps47
 go_wp2_with (first | ((with_reducible refine gate_dst (N := 2) rfl ?_); refine box_event ?hg (N := 2) ?hd (cs := #[.int .i64 a0_0, .slice A0_1 l0_1.length c0_1, .slice A0_2 l0_2.length c0_2]) (t := 73) ?hr ?_; (case hd => rfl); (case hg => rfl); (case hr => first | (go_simp; done) | (go_simp; rfl)); intro gb123 hg w4 hbox hb; have n0_ := Aside0.mk (below_step bel hb); have n1_ := Aside0.mk (hbox); have n2_ := Aside0.mk ((by rw [hg]; exact (below_size bel) : w.heap.size ≤ gb123)); have n3_ := n2_; clear HB; have HB := n0_; have BK123 := n1_; have GW123 := n2_; have GE123 := n3_; clear n0_ n1_ n2_ n3_; clear hb hbox hg; have hcz5_0 := blkc BK123.out 0 (.int .i64 a0_0) rfl; have hcz5_1 := blkc BK123.out 1 (.slice A0_1 l0_1.length c0_1) rfl; have hcz5_2 := blkc BK123.out 2 (.slice A0_2 l0_2.length c0_2) rfl; have hfz5_0 := blk_frozen BK123.out 0; have hfz5_1 := blk_frozen BK123.out 1; have hfz5_2 := blk_frozen BK123.out 2) | ((with_reducible refine gate_callee (f := 89) rfl ?_); refine goesL_ (some 10) rfl rfl Tryd.func89 (by kernel_rfl) rfl #[.agg #[.int .i64 a0_0, .slice A0_1 l0_1.length c0_1, .slice A0_2 l0_2.length c0_2], .int .i64 a1] rfl mapz ?_; (with_reducible refine (feed_grid_fed.calls k a0_0 _ _ l0_1 _ _ l0_2 a1 t124 _ ?side1 ?side2 ?side3 ?side4 A3.out).mono ?_); (case side1 => exact cbz HR0_1); (case side2 => exact HC0_1.out); (case side3 => exact cbz HR0_2); (case side4 => exact HC0_2.out); rintro e w6 ⟨v125, rfl, ho0, hb⟩; refine ⟨_, rfl, ?_⟩; have n0_ := Aside0.mk (Kd.R_lower ho0 (below_size bel)); have n1_ := Aside0.mk (blk_below (g := gb123) blkz hb); have n2_ := Aside0.mk (below_step bel hb); clear BK123; clear HB; have HO126 := n0_; have BK123 := n1_; have HB := n2_; clear n0_ n1_ n2_; (try clear hb); (try clear hb2); (try clear hk); (try clear hi); (try clear ho0); obtain ⟨Ao7, co7, eo7⟩ := Kd.R_slice HO126.out; subst eo7))
 go_loopg [5, 12] k (fun kq v5 v12 w' => ∃ (x5_1 : List Int) (x12_1 : Int), v12 = .int .i64 x12_1 ∧ Aside0 (feed_grid_live.l0 kq x5_1 t124 (t124.length : Int) x12_1 = some r) ∧ Aside0 (kq ≤ k) ∧ Aside0 (Kd.R (Kd.int .i64) 3 w' w.heap.size (fun _ => True) v5 x5_1) ∧ Aside0 (Kd.R (Kd.int .u64) 90 w' w.heap.size (fun _ => True) (.slice Ao7 t124.length co7) t124) ∧ Aside0 (w'.heap[gb123]? = some (.cells #[.int .i64 a0_0, (.slice A0_1 l0_1.length c0_1), (.slice A0_2 l0_2.length c0_2)] 73 (0, 0))) ∧ Aside0 (Below w.heap.size w w'))
 case atStart => exact ⟨(([] : List Int)), (0), rsz, H', ⟨Nat.le_refl _⟩, ⟨by first | exact Kd.R_nil _ _ _ _ _ | exact Kd.N_nil _ _ _ _ _ | exact Kd.V_nil _ _ _ _ _ | exact Kd.Q_nil _ _ _ _ _ | exact Kd.S_nil _ _ _ _ _⟩, ⟨by (with_reducible repeat (first | apply Kd.R_alloc | apply Kd.R_drewN | apply Kd.R_drew)); exact HO126.out⟩, ⟨by (with_reducible repeat (first | refine blk_drewN ?_ _ | refine blk_drew ?_ | refine blk_alloc ?_ _)); exact BK123.out⟩, ⟨by repeat (first | (with_reducible first | exact HB.out | apply below_alloc | apply pw_below_drewN | apply below_drew1 | refine below_set ?_ GE123.out) | exact HB.out)⟩⟩
 case round =>
  clear H'
  try clear p2
  try clear c4
  try clear hcz5_0
  try clear hcz5_1
  try clear hcz5_2
  try clear hfz5_0
  try clear hfz5_1
  try clear hfz5_2
  obtain ⟨x5_1, x12_1, rfl, HA, HK1, HO_5, HO_10, BK123, HB⟩ := hrel
  cases gk with
  | zero => exact absurd HA.out (by simp [feed_grid_live.l0])
  | succ k1 =>
   have H := HA.out
   clear HA
   simp only [feed_grid_live.l0] at H
   by_cases c8 : x12_1 < (t124.length : Int)
   ·
    rw [if_pos c8] at H
    have c8b0 : decide (x12_1 < (t124.length : Int)) = true := decide_eq_true c8
    clear c8
    by_cases c9 : 0 ≤ x12_1
    ·
     rw [if_pos c9] at H
     have c9b0 : decide (0 ≤ x12_1) = true := decide_eq_true c9
     clear c9
     by_cases c10 : x12_1 < (t124.length : Int)
     ·
      rw [if_pos c10] at H
      have c10b0 : decide (x12_1 < (t124.length : Int)) = true := decide_eq_true c10
      clear c10
      replace H := Option.bind_eq_some_iff.mp H
      obtain ⟨t128, A110, H⟩ := H
      replace H : (if t128 = 0 then (if x5_1.length < 17592186044416 then (feed_grid_live.l0 k1 (x5_1 ++ [0]) t124 (t124.length : Int) (wrap64 (x12_1 + 1))) else (none)) else (if t128 = 1 then ((bits_TrailingZeros.f (rd t124 x12_1)).bind fun t132 => (if x5_1.length < 17592186044416 then (feed_grid_live.l0 k1 (x5_1 ++ [t132]) t124 (t124.length : Int) (wrap64 (x12_1 + 1))) else (none))) else (if x5_1.length < 17592186044416 then (feed_grid_live.l0 k1 (x5_1 ++ [(-1)]) t124 (t124.length : Int) (wrap64 (x12_1 + 1))) else (none)))) = some r := H
      have A11 := Aside0.mk A110
      clear A110
      by_cases c12 : t128 = 0
      ·
       rw [if_pos c12] at H
       have c12b0 : (t128 == 0) = true := beq_iff_eq.mpr c12
       have c12b1 : (t128 != 0) = false := bne_eq_false_iff_eq.mpr c12
       clear c12
       by_cases c13 : x5_1.length < 17592186044416
       ·
        rw [if_pos c13] at H
        have LMc13 := Aside0.mk c13
        clear c13
        obtain ⟨y129, hy129⟩ : ∃ y_ : List Int, y_ = (x5_1 ++ [0]) := ⟨_, rfl⟩
        replace H : (feed_grid_live.l0 k1 y129 t124 (t124.length : Int) (wrap64 (x12_1 + 1))) = some r := by first | (rw [hy129]; with_reducible exact H) | (have H2_ := (Option.bind_some _ _).symm.trans H; rw [hy129]; with_reducible exact H2_) | (have H2_ := (Option.bind_some _ _).symm.trans H; with_reducible exact H2_) | with_reducible exact H | (rw [hy129]; exact H) | exact H
        have Ny129 := Aside0.mk hy129
        clear hy129
        have H' := Aside0.mk H
        clear H
        have p127 : 0 ≤ (x12_1 : Int) := of_decide_eq_true asz
        have q127 : x12_1 < (t124.length : Int) := of_decide_eq_true asz
        obtain ⟨ad127, e127, hx127_0⟩ := Kd.at_int (Kd.R_reads' HO_10.out).2.2 x12_1 p127 q127
        cases e127
        replace p127 := eq_true p127
        replace q127 := eq_true q127
        go_wp2_with (first | ((with_reducible refine gate_callee (f := 80) rfl ?_); refine goesL_ (some 17) rfl rfl Tryd.func80 (by kernel_rfl) rfl #[.int .u64 (rd t124 x12_1)] rfl mapz ?_; (with_reducible refine (bits_OnesCount.calls (rd t124 x12_1) t128 _ A11.out).mono ?_); rintro e w' ⟨rfl, ⟨nd, rfl⟩⟩; refine ⟨_, rfl, ?_⟩) | ((with_reducible refine gate_builtin (b := .append) (xs := #[.tmp 23, .tmp 24]) rfl ?_); at_builtin; refine Kd.R_append (Kd.int .i64) (w0 := w) w.heap.size rfl (.tmp 23) (.tmp 24) 28 3 (.int .i64 0) 8 rfl Tryd.underlying28 info3 rfl (by decide) (by omega) u5 x5_1 0 [.int .i64 0] (fun _ => True) (fun _ => False) rfl rfl ?aP (fun _ hk => hk.elim) ?aF ?aO ?aB ?aS ?aL ?_; (case aP => exact rfl); (case aB => exact bel); (case aF => exact (fun _ _ => trivial)); (case aO => exact (by (with_reducible repeat (first | apply Kd.R_alloc | apply Kd.R_drewN | apply Kd.R_drew)); exact HO_5.out)); (case aS => exact (below_size bel)); (case aL => have := LMc13.out; omega); intro v130 w14 ho hb hg hat; rw [← Ny129.out] at ho; have n0_ := Aside0.mk (Kd.R_over' (by (with_reducible repeat (first | apply Kd.R_alloc | apply Kd.R_drewN | apply Kd.R_drew)); exact HO_10.out) (Kd.R_typed (by (with_reducible repeat (first | apply Kd.R_alloc | apply Kd.R_drewN | apply Kd.R_drew)); exact HO_5.out)) (by decide) hg); have n1_ := Aside0.mk (blk_grown (g := gb123) (o := .cells #[.int .i64 a0_0, .slice A0_1 l0_1.length c0_1, .slice A0_2 l0_2.length c0_2] 73 (0, 0)) blkz hg (Kd.R_ne HO_5.out BK123.out (by decide))); have n2_ := Aside0.mk (hb); have n3_ := Aside0.mk (ho); clear HO_10; clear BK123; clear HB; clear HO_5; have HO_10 := n0_; have BK123 := n1_; have HB := n2_; have HO131 := n3_; clear n0_ n1_ n2_ n3_; clear ho hb hg hat))
        go_roundg k1
        case measure => have := HK1.out; omega
        case rel => exact ⟨(y129), (wrap64 (x12_1 + 1)), rsz, H', ⟨by have := HK1.out; omega⟩, ⟨by (with_reducible repeat (first | apply Kd.R_alloc | apply Kd.R_drewN | apply Kd.R_drew)); exact HO131.out⟩, ⟨by (with_reducible repeat (first | apply Kd.R_alloc | apply Kd.R_drewN | apply Kd.R_drew)); exact HO_10.out⟩, ⟨by (with_reducible repeat (first | refine blk_drewN ?_ _ | refine blk_drew ?_ | refine blk_alloc ?_ _)); exact BK123.out⟩, ⟨by repeat (first | (with_reducible first | exact HB.out | apply below_alloc | apply pw_below_drewN | apply below_drew1 | refine below_set ?_ GE123.out) | exact HB.out)⟩⟩
       ·
        rw [if_neg c13] at H
        exact absurd H (by simp)
      ·
       rw [if_neg c12] at H
       have c12b0 : (t128 == 0) = false := beq_eq_false_iff_ne.mpr c12
       have c12b1 : (t128 != 0) = true := bne_iff_ne.mpr c12
       by_cases c15 : t128 = 1
       ·
        rw [if_pos c15] at H
        have c15b0 : (t128 == 1) = true := beq_iff_eq.mpr c15
        have c15b1 : (t128 != 1) = false := bne_eq_false_iff_eq.mpr c15
        clear c15
        replace H := Option.bind_eq_some_iff.mp H
        obtain ⟨t132, A160, H⟩ := H
        replace H : (if x5_1.length < 17592186044416 then (feed_grid_live.l0 k1 (x5_1 ++ [t132]) t124 (t124.length : Int) (wrap64 (x12_1 + 1))) else (none)) = some r := H
        have A16 := Aside0.mk A160
        clear A160
        by_cases c17 : x5_1.length < 17592186044416
        ·
         rw [if_pos c17] at H
         have LMc17 := Aside0.mk c17
         clear c17
         obtain ⟨y133, hy133⟩ : ∃ y_ : List Int, y_ = (x5_1 ++ [t132]) := ⟨_, rfl⟩
         replace H : (feed_grid_live.l0 k1 y133 t124 (t124.length : Int) (wrap64 (x12_1 + 1))) = some r := by first | (rw [hy133]; with_reducible exact H) | (have H2_ := (Option.bind_some _ _).symm.trans H; rw [hy133]; with_reducible exact H2_) | (have H2_ := (Option.bind_some _ _).symm.trans H; with_reducible exact H2_) | with_reducible exact H | (rw [hy133]; exact H) | exact H
         have Ny133 := Aside0.mk hy133
         clear hy133
         have H' := Aside0.mk H
         clear H
         have p127 : 0 ≤ (x12_1 : Int) := of_decide_eq_true asz
         have q127 : x12_1 < (t124.length : Int) := of_decide_eq_true asz
         obtain ⟨ad127, e127, hx127_0⟩ := Kd.at_int (Kd.R_reads' HO_10.out).2.2 x12_1 p127 q127
         cases e127
         replace p127 := eq_true p127
         replace q127 := eq_true q127
         go_wp2_with (first | ((with_reducible refine gate_callee (f := 80) rfl ?_); refine goesL_ (some 17) rfl rfl Tryd.func80 (by kernel_rfl) rfl #[.int .u64 (rd t124 x12_1)] rfl mapz ?_; (with_reducible refine (bits_OnesCount.calls (rd t124 x12_1) t128 _ A11.out).mono ?_); rintro e w' ⟨rfl, ⟨nd, rfl⟩⟩; refine ⟨_, rfl, ?_⟩) | ((with_reducible refine gate_callee (f := 90) rfl ?_); refine goesL_ (some 30) rfl rfl Tryd.func90 (by kernel_rfl) rfl #[.int .u64 (rd t124 x12_1)] rfl mapz ?_; (with_reducible refine (bits_TrailingZeros.calls (rd t124 x12_1) t132 _ ?sideT A16.out).mono ?_); (case sideT => first | exact HT.out | exact Tab.Tabs.below HT.out bel | (with_reducible repeat (first | exact HT.out | apply Tab.Tabs.alloc | apply Tab.Tabs.drewN | apply Tab.Tabs.drew))); rintro e w' ⟨rfl, ⟨nd, rfl⟩⟩; refine ⟨_, rfl, ?_⟩) | ((with_reducible refine gate_builtin (b := .append) (xs := #[.tmp 28, .tmp 31]) rfl ?_); at_builtin; refine Kd.R_append (Kd.int .i64) (w0 := w) w.heap.size rfl (.tmp 28) (.tmp 31) 28 3 (.int .i64 0) 8 rfl Tryd.underlying28 info3 rfl (by decide) (by omega) u5 x5_1 t132 [.int .i64 t132] (fun _ => True) (fun _ => False) rfl rfl ?aP (fun _ hk => hk.elim) ?aF ?aO ?aB ?aS ?aL ?_; (case aP => exact rfl); (case aB => exact bel); (case aF => exact (fun _ _ => trivial)); (case aO => exact (by (with_reducible repeat (first | apply Kd.R_alloc | apply Kd.R_drewN | apply Kd.R_drew)); exact HO_5.out)); (case aS => exact (below_size bel)); (case aL => have := LMc17.out; omega); intro v134 w18 ho hb hg hat; rw [← Ny133.out] at ho; have n0_ := Aside0.mk (Kd.R_over' (by (with_reducible repeat (first | apply Kd.R_alloc | apply Kd.R_drewN | apply Kd.R_drew)); exact HO_10.out) (Kd.R_typed (by (with_reducible repeat (first | apply Kd.R_alloc | apply Kd.R_drewN | apply Kd.R_drew)); exact HO_5.out)) (by decide) hg); have n1_ := Aside0.mk (blk_grown (g := gb123) (o := .cells #[.int .i64 a0_0, .slice A0_1 l0_1.length c0_1, .slice A0_2 l0_2.length c0_2] 73 (0, 0)) blkz hg (Kd.R_ne HO_5.out BK123.out (by decide))); have n2_ := Aside0.mk (hb); have n3_ := Aside0.mk (ho); clear HO_10; clear BK123; clear HB; clear HO_5; have HO_10 := n0_; have BK123 := n1_; have HB := n2_; have HO135 := n3_; clear n0_ n1_ n2_ n3_; clear ho hb hg hat))
         go_roundg k1
         case measure => have := HK1.out; omega
         case rel => exact ⟨(y133), (wrap64 (x12_1 + 1)), rsz, H', ⟨by have := HK1.out; omega⟩, ⟨by (with_reducible repeat (first | apply Kd.R_alloc | apply Kd.R_drewN | apply Kd.R_drew)); exact HO135.out⟩, ⟨by (with_reducible repeat (first | apply Kd.R_alloc | apply Kd.R_drewN | apply Kd.R_drew)); exact HO_10.out⟩, ⟨by (with_reducible repeat (first | refine blk_drewN ?_ _ | refine blk_drew ?_ | refine blk_alloc ?_ _)); exact BK123.out⟩, ⟨by repeat (first | (with_reducible first | exact HB.out | apply below_alloc | apply pw_below_drewN | apply below_drew1 | refine below_set ?_ GE123.out) | exact HB.out)⟩⟩
        ·
         rw [if_neg c17] at H
         exact absurd H (by simp)
       ·
        rw [if_neg c15] at H
        have c15b0 : (t128 == 1) = false := beq_eq_false_iff_ne.mpr c15
        have c15b1 : (t128 != 1) = true := bne_iff_ne.mpr c15
        by_cases c19 : x5_1.length < 17592186044416
        ·
         rw [if_pos c19] at H
         have LMc19 := Aside0.mk c19
         clear c19
         obtain ⟨y136, hy136⟩ : ∃ y_ : List Int, y_ = (x5_1 ++ [(-1)]) := ⟨_, rfl⟩
         replace H : (feed_grid_live.l0 k1 y136 t124 (t124.length : Int) (wrap64 (x12_1 + 1))) = some r := by first | (rw [hy136]; with_reducible exact H) | (have H2_ := (Option.bind_some _ _).symm.trans H; rw [hy136]; with_reducible exact H2_) | (have H2_ := (Option.bind_some _ _).symm.trans H; with_reducible exact H2_) | with_reducible exact H | (rw [hy136]; exact H) | exact H
         have Ny136 := Aside0.mk hy136
         clear hy136
         have H' := Aside0.mk H
         clear H
         have p127 : 0 ≤ (x12_1 : Int) := of_decide_eq_true asz
         have q127 : x12_1 < (t124.length : Int) := of_decide_eq_true asz
         obtain ⟨ad127, e127, hx127_0⟩ := Kd.at_int (Kd.R_reads' HO_10.out).2.2 x12_1 p127 q127
         cases e127
         replace p127 := eq_true p127
         replace q127 := eq_true q127
         go_wp2_with (first | ((with_reducible refine gate_callee (f := 80) rfl ?_); refine goesL_ (some 17) rfl rfl Tryd.func80 (by kernel_rfl) rfl #[.int .u64 (rd t124 x12_1)] rfl mapz ?_; (with_reducible refine (bits_OnesCount.calls (rd t124 x12_1) t128 _ A11.out).mono ?_); rintro e w' ⟨rfl, ⟨nd, rfl⟩⟩; refine ⟨_, rfl, ?_⟩) | ((with_reducible refine gate_builtin (b := .append) (xs := #[.tmp 18, .tmp 19]) rfl ?_); at_builtin; refine Kd.R_append (Kd.int .i64) (w0 := w) w.heap.size rfl (.tmp 18) (.tmp 19) 28 3 (.int .i64 0) 8 rfl Tryd.underlying28 info3 rfl (by decide) (by omega) u5 x5_1 (-1) [.int .i64 (-1)] (fun _ => True) (fun _ => False) rfl rfl ?aP (fun _ hk => hk.elim) ?aF ?aO ?aB ?aS ?aL ?_; (case aP => exact rfl); (case aB => exact bel); (case aF => exact (fun _ _ => trivial)); (case aO => exact (by (with_reducible repeat (first | apply Kd.R_alloc | apply Kd.R_drewN | apply Kd.R_drew)); exact HO_5.out)); (case aS => exact (below_size bel)); (case aL => have := LMc19.out; omega); intro v137 w20 ho hb hg hat; rw [← Ny136.out] at ho; have n0_ := Aside0.mk (Kd.R_over' (by (with_reducible repeat (first | apply Kd.R_alloc | apply Kd.R_drewN | apply Kd.R_drew)); exact HO_10.out) (Kd.R_typed (by (with_reducible repeat (first | apply Kd.R_alloc | apply Kd.R_drewN | apply Kd.R_drew)); exact HO_5.out)) (by decide) hg); have n1_ := Aside0.mk (blk_grown (g := gb123) (o := .cells #[.int .i64 a0_0, .slice A0_1 l0_1.length c0_1, .slice A0_2 l0_2.length c0_2] 73 (0, 0)) blkz hg (Kd.R_ne HO_5.out BK123.out (by decide))); have n2_ := Aside0.mk (hb); have n3_ := Aside0.mk (ho); clear HO_10; clear BK123; clear HB; clear HO_5; have HO_10 := n0_; have BK123 := n1_; have HB := n2_; have HO138 := n3_; clear n0_ n1_ n2_ n3_; clear ho hb hg hat))
         go_roundg k1
         case measure => have := HK1.out; omega
         case rel => exact ⟨(y136), (wrap64 (x12_1 + 1)), rsz, H', ⟨by have := HK1.out; omega⟩, ⟨by (with_reducible repeat (first | apply Kd.R_alloc | apply Kd.R_drewN | apply Kd.R_drew)); exact HO138.out⟩, ⟨by (with_reducible repeat (first | apply Kd.R_alloc | apply Kd.R_drewN | apply Kd.R_drew)); exact HO_10.out⟩, ⟨by (with_reducible repeat (first | refine blk_drewN ?_ _ | refine blk_drew ?_ | refine blk_alloc ?_ _)); exact BK123.out⟩, ⟨by repeat (first | (with_reducible first | exact HB.out | apply below_alloc | apply pw_below_drewN | apply below_drew1 | refine below_set ?_ GE123.out) | exact HB.out)⟩⟩
        ·
         rw [if_neg c19] at H
         exact absurd H (by simp)
     ·
      rw [if_neg c10] at H
      exact absurd H (by simp)
    ·
     rw [if_neg c9] at H
     exact absurd H (by simp)
   ·
    rw [if_neg c8] at H
    have c8b0 : decide (x12_1 < (t124.length : Int)) = false := decide_eq_false c8
    clear c8
    obtain rfl := Option.some.inj H
    go_wp2
    go_ret
    exact ⟨_, by first | rfl | (simp [errW_none, errW_some] <;> rfl) | (simp [*, errW_none, errW_some] <;> rfl), by (with_reducible repeat (first | apply Kd.R_alloc | apply Kd.R_drewN | apply Kd.R_drew)); exact HO_5.out, by repeat (first | (with_reducible first | exact HB.out | apply below_alloc | apply pw_below_drewN | apply below_drew1 | refine below_set ?_ GE123.out) | exact HB.out)⟩

end Go.Proofs.YtoilhnmdemnknaaDoor.XFeed

-- Written by wip/xprint.py of this repo, over the kit's print.py: out of the translation; the oracles in it are by hand. Not trusted: Lean checks it.
namespace Go.Proofs.YtoilhnmdemnknaaDoor.XFeed
open Go.RowKit Go.Proofs.YtoilhnmdemnknaaDoorW.PrintWords Go.Proofs.YtoilhnmdemnknaaDoorW.PrintLast Go.Proofs.YtoilhnmdemnknaaDoorW.PrintMore
attribute [local go_sem] max2_int min2_int max_two min_two max_three min_three max_four min_four   -- for this text's walks alone
set_option linter.unusedVariables false
set_option linter.unusedSimpArgs false

/-! ### slices_Index_int_int: function 95 -/
def slices_Index_int_int.l0 : Nat → List Int → Int → Int → Int → Option (Int)
 | 0, _, _, _, _ => none
 | k + 1, x0, x1, x7, x8 => if x8 < x7 then (if 0 ≤ x8 then (if x8 < (x0.length : Int) then (if x1 = (rd x0 x8) then (some x8) else (slices_Index_int_int.l0 k x0 x1 x7 (wrap64 (x8 + 1)))) else (none)) else (none)) else (some (-1))
def slices_Index_int_int.f (k : Nat) (l0 : List Int) (a1 : Int) : Option (Int) := slices_Index_int_int.l0 k l0 a1 (l0.length : Int) 0
theorem slices_Index_int_int.mono_l : ∀ k, (∀ y0 y1 y2 y3, LeO (slices_Index_int_int.l0 k y0 y1 y2 y3) (slices_Index_int_int.l0 (k + 1) y0 y1 y2 y3))
 | 0 => fun _ _ _ _ r h => by simp [slices_Index_int_int.l0] at h
 | k + 1 => by
  have ih0 := slices_Index_int_int.mono_l k
  ·
   intro y0 y1 y2 y3
   unfold slices_Index_int_int.l0
   repeat' first
   | (with_reducible exact ih0 _ _ _ _)
   | (with_reducible exact LeO.refl _)
   | (with_reducible exact LeO.none _)
   | (with_reducible refine LeO.ite ?_ ?_)
   | (with_reducible refine LeO.bind ?_ (fun _ => ?_))
   | exact ih0 _ _ _ _
   | exact LeO.none _
   | refine LeO.ite ?_ ?_
   | refine LeO.bind ?_ (fun _ => ?_)
theorem slices_Index_int_int.mono : ∀ a0 a1 k, LeO (slices_Index_int_int.f k a0 a1) (slices_Index_int_int.f (k + 1) a0 a1) := by
 intro a0 a1 k
 have ih0 := slices_Index_int_int.mono_l k
 unfold slices_Index_int_int.f
 repeat' first
   | (with_reducible exact ih0 _ _ _ _)
   | (with_reducible exact LeO.refl _)
   | (with_reducible exact LeO.none _)
   | (with_reducible refine LeO.ite ?_ ?_)
   | (with_reducible refine LeO.bind ?_ (fun _ => ?_))
   | exact ih0 _ _ _ _
   | exact LeO.none _
   | refine LeO.ite ?_ ?_
   | refine LeO.bind ?_ (fun _ => ?_)
set_option maxHeartbeats 8000000 in
set_option maxRecDepth 100000 in
theorem slices_Index_int_int.calls (k : Nat) (A0 : Option Addr) (c0 : Nat) (l0 : List Int) (a1 : Int) (r : Int) (w : World) (hr0 : Kd.C (Kd.int .i64) w A0 l0.length l0) (hc0 : l0.length ≤ c0) (h : slices_Index_int_int.f k l0 a1 = some r) :
  Calls Tryd.prog 95 #[.slice A0 l0.length c0, .int .i64 a1] w fun e w' => e = .returned (.int .i64 r) ∧ Drawn0 w w' := by
 have HR0 := Aside0.mk hr0
 have HC0 := Aside0.mk hc0
 clear hr0 hc0
 have H : (slices_Index_int_int.l0 k l0 a1 (l0.length : Int) 0) = some r := h
 clear h
 have H' := Aside0.mk H
 clear H
 go_enter Tryd.func95, Tryd.ntmps95
 go_wp2
 go_loopg [8] k (fun kq v8 w' => ∃ (x8_1 : Int), v8 = .int .i64 x8_1 ∧ Aside0 (slices_Index_int_int.l0 kq l0 a1 (l0.length : Int) x8_1 = some r) ∧ Aside0 (kq ≤ k) ∧ Drawn0 w w')
 case atStart => exact ⟨(0), rsz, H', ⟨Nat.le_refl _⟩, drz⟩
 case round =>
  clear H'
  try clear p2
  obtain ⟨x8_1, rfl, HA, HK1, ⟨m1, rfl⟩⟩ := hrel
  cases gk with
  | zero => exact absurd HA.out (by simp [slices_Index_int_int.l0])
  | succ k1 =>
   have H := HA.out
   clear HA
   simp only [slices_Index_int_int.l0] at H
   by_cases c3 : x8_1 < (l0.length : Int)
   ·
    rw [if_pos c3] at H
    have c3b0 : decide (x8_1 < (l0.length : Int)) = true := decide_eq_true c3
    clear c3
    by_cases c4 : 0 ≤ x8_1
    ·
     rw [if_pos c4] at H
     have c4b0 : decide (0 ≤ x8_1) = true := decide_eq_true c4
     clear c4
     by_cases c5 : x8_1 < (l0.length : Int)
     ·
      rw [if_pos c5] at H
      have c5b0 : decide (x8_1 < (l0.length : Int)) = true := decide_eq_true c5
      clear c5
      by_cases c6 : a1 = (rd l0 x8_1)
      ·
       rw [if_pos c6] at H
       have c6b0 : (a1 == (rd l0 x8_1)) = true := beq_iff_eq.mpr c6
       have c6b1 : (a1 != (rd l0 x8_1)) = false := bne_eq_false_iff_eq.mpr c6
       clear c6
       obtain rfl := Option.some.inj H
       have p139 : 0 ≤ (x8_1 : Int) := of_decide_eq_true asz
       have q139 : x8_1 < (l0.length : Int) := of_decide_eq_true asz
       obtain ⟨ad139, e139, hx139_0⟩ := Kd.at_int HR0.out x8_1 p139 q139
       cases e139
       replace p139 := eq_true p139
       replace q139 := eq_true q139
       go_wp2
       go_ret
       exact ⟨by first | rfl | (simp; done) | (simp [*]; done), drz⟩
      ·
       rw [if_neg c6] at H
       have c6b0 : (a1 == (rd l0 x8_1)) = false := beq_eq_false_iff_ne.mpr c6
       have c6b1 : (a1 != (rd l0 x8_1)) = true := bne_iff_ne.mpr c6
       have H' := Aside0.mk H
       clear H
       have p139 : 0 ≤ (x8_1 : Int) := of_decide_eq_true asz
       have q139 : x8_1 < (l0.length : Int) := of_decide_eq_true asz
       obtain ⟨ad139, e139, hx139_0⟩ := Kd.at_int HR0.out x8_1 p139 q139
       cases e139
       replace p139 := eq_true p139
       replace q139 := eq_true q139
       go_wp2
       go_roundg k1
       case measure => have := HK1.out; omega
       case rel => exact ⟨(wrap64 (x8_1 + 1)), rsz, H', ⟨by have := HK1.out; omega⟩, drz⟩
     ·
      rw [if_neg c5] at H
      exact absurd H (by simp)
    ·
     rw [if_neg c4] at H
     exact absurd H (by simp)
   ·
    rw [if_neg c3] at H
    have c3b0 : decide (x8_1 < (l0.length : Int)) = false := decide_eq_false c3
    clear c3
    obtain rfl := Option.some.inj H
    go_wp2
    go_ret
    exact ⟨by first | rfl | (simp; done) | (simp [*]; done), drz⟩

end Go.Proofs.YtoilhnmdemnknaaDoor.XFeed

-- Written by wip/xprint.py of this repo, over the kit's print.py: out of the translation; the oracles in it are by hand. Not trusted: Lean checks it.
namespace Go.Proofs.YtoilhnmdemnknaaDoor.XFeed
open Go.RowKit Go.Proofs.YtoilhnmdemnknaaDoorW.PrintWords Go.Proofs.YtoilhnmdemnknaaDoorW.PrintLast Go.Proofs.YtoilhnmdemnknaaDoorW.PrintMore
attribute [local go_sem] max2_int min2_int max_two min_two max_three min_three max_four min_four   -- for this text's walks alone
set_option linter.unusedVariables false
set_option linter.unusedSimpArgs false

/-! ### slices_Contains_int_int: function 68 -/
def slices_Contains_int_int.f (k : Nat) (l0 : List Int) (a1 : Int) : Option (Bool) := (slices_Index_int_int.f k l0 a1).bind fun t140 => (some (decide (t140 ≥ 0)))
theorem slices_Contains_int_int.mono : ∀ a0 a1 k, LeO (slices_Contains_int_int.f k a0 a1) (slices_Contains_int_int.f (k + 1) a0 a1) := by
 intro a0 a1 k
 unfold slices_Contains_int_int.f
 repeat' first
   | (with_reducible exact slices_Index_int_int.mono _ _ _)
   | (with_reducible exact LeO.refl _)
   | (with_reducible exact LeO.none _)
   | (with_reducible refine LeO.ite ?_ ?_)
   | (with_reducible refine LeO.bind ?_ (fun _ => ?_))
   | exact slices_Index_int_int.mono _ _ _
   | exact LeO.none _
   | refine LeO.ite ?_ ?_
   | refine LeO.bind ?_ (fun _ => ?_)
set_option maxHeartbeats 8000000 in
set_option maxRecDepth 100000 in
theorem slices_Contains_int_int.calls (k : Nat) (A0 : Option Addr) (c0 : Nat) (l0 : List Int) (a1 : Int) (r : Bool) (w : World) (hr0 : Kd.C (Kd.int .i64) w A0 l0.length l0) (hc0 : l0.length ≤ c0) (h : slices_Contains_int_int.f k l0 a1 = some r) :
  Calls Tryd.prog 68 #[.slice A0 l0.length c0, .int .i64 a1] w fun e w' => e = .returned (.bool r) ∧ Drawn0 w w' := by
 have HR0 := Aside0.mk hr0
 have HC0 := Aside0.mk hc0
 clear hr0 hc0
 have H : ((slices_Index_int_int.f k l0 a1).bind fun t140 => (some (decide (t140 ≥ 0)))) = some r := h
 clear h
 replace H := Option.bind_eq_some_iff.mp H
 obtain ⟨t140, A30, H⟩ := H
 replace H : (some (decide (t140 ≥ 0))) = some r := H
 have A3 := Aside0.mk A30
 clear A30
 obtain rfl := Option.some.inj H
 go_enter Tryd.func68, Tryd.ntmps68
 go_wp2_with (first | ((with_reducible refine gate_callee (f := 95) rfl ?_); refine goesL_ (some 7) rfl rfl Tryd.func95 (by kernel_rfl) rfl #[.slice A0 l0.length c0, .int .i64 a1] rfl mapz ?_; (with_reducible refine (slices_Index_int_int.calls k _ _ l0 a1 t140 _ ?side1 ?side2 A3.out).mono ?_); (case side1 => repeat (first | exact HR0.out | (with_reducible refine Kd.C_alloc ?_ _) | (with_reducible refine Kd.C_drewN ?_ _) | (with_reducible refine Kd.C_drew ?_))); (case side2 => exact HC0.out); rintro e w' ⟨rfl, ⟨nd, rfl⟩⟩; refine ⟨_, rfl, ?_⟩))
 go_ret
 exact ⟨by first | rfl | (simp; done) | (simp [*]; done), drz⟩

end Go.Proofs.YtoilhnmdemnknaaDoor.XFeed

-- Written by wip/xprint.py of this repo, over the kit's print.py: out of the translation; the oracles in it are by hand. Not trusted: Lean checks it.
namespace Go.Proofs.YtoilhnmdemnknaaDoor.XFeed
open Go.RowKit Go.Proofs.YtoilhnmdemnknaaDoorW.PrintWords Go.Proofs.YtoilhnmdemnknaaDoorW.PrintLast Go.Proofs.YtoilhnmdemnknaaDoorW.PrintMore
attribute [local go_sem] max2_int min2_int max_two min_two max_three min_three max_four min_four   -- for this text's walks alone
set_option linter.unusedVariables false
set_option linter.unusedSimpArgs false

/-! ### feed_grid_right: function 50 -/
def feed_grid_right.f (k : Nat) (a0_0 : Int) (l0_1 : List (S69)) (l0_2 : List (S71)) (a1 : Int) : Option (Bool) := (feed_grid_live.f k a0_0 l0_1 l0_2 a1).bind fun t142 => ((slices_Contains_int_int.f k t142 (-1)).bind fun t145 => (some (!t145)))
theorem feed_grid_right.mono : ∀ a0 a1 a2 a3 k, LeO (feed_grid_right.f k a0 a1 a2 a3) (feed_grid_right.f (k + 1) a0 a1 a2 a3) := by
 intro a0 a1 a2 a3 k
 unfold feed_grid_right.f
 repeat' first
   | (with_reducible exact feed_grid_live.mono _ _ _ _ _)
   | (with_reducible exact slices_Contains_int_int.mono _ _ _)
   | (with_reducible exact LeO.refl _)
   | (with_reducible exact LeO.none _)
   | (with_reducible refine LeO.ite ?_ ?_)
   | (with_reducible refine LeO.bind ?_ (fun _ => ?_))
   | exact feed_grid_live.mono _ _ _ _ _
   | exact slices_Contains_int_int.mono _ _ _
   | exact LeO.none _
   | refine LeO.ite ?_ ?_
   | refine LeO.bind ?_ (fun _ => ?_)
set_option maxHeartbeats 8000000 in
set_option maxRecDepth 100000 in
theorem feed_grid_right.calls (k : Nat) (a0_0 : Int) (A0_1 : Option Addr) (c0_1 : Nat) (l0_1 : List (S69)) (A0_2 : Option Addr) (c0_2 : Nat) (l0_2 : List (S71)) (a1 : Int) (r : Bool) (w : World) (hr0_1 : Kd.C k69 w A0_1 l0_1.length l0_1) (hc0_1 : l0_1.length ≤ c0_1) (hr0_2 : Kd.C k71 w A0_2 l0_2.length l0_2) (hc0_2 : l0_2.length ≤ c0_2) (hT : Tab.Tabs w) (h : feed_grid_right.f k a0_0 l0_1 l0_2 a1 = some r) :
  Calls Tryd.prog 50 #[.agg #[.int .i64 a0_0, .slice A0_1 l0_1.length c0_1, .slice A0_2 l0_2.length c0_2], .int .i64 a1] w fun e w' => e = .returned (.bool r) ∧ Below w.heap.size w w' := by
 have HT := Aside0.mk hT
 clear hT
 have hu73 := Tryd.underlying73
 have HR0_1 := Aside0.mk hr0_1
 have HC0_1 := Aside0.mk hc0_1
 clear hr0_1 hc0_1
 have HR0_2 := Aside0.mk hr0_2
 have HC0_2 := Aside0.mk hc0_2
 clear hr0_2 hc0_2
 have HB := Aside0.mk (Below.refl w.heap.size w)
 have H : ((feed_grid_live.f k a0_0 l0_1 l0_2 a1).bind fun t142 => ((slices_Contains_int_int.f k t142 (-1)).bind fun t145 => (some (!t145)))) = some r := h
 clear h
 replace H := Option.bind_eq_some_iff.mp H
 obtain ⟨t142, A30, H⟩ := H
 replace H : ((slices_Contains_int_int.f k t142 (-1)).bind fun t145 => (some (!t145))) = some r := H
 have A3 := Aside0.mk A30
 clear A30
 replace H := Option.bind_eq_some_iff.mp H
 obtain ⟨t145, A40, H⟩ := H
 replace H : (some (!t145)) = some r := H
 have A4 := Aside0.mk A40
 clear A40
 obtain rfl := Option.some.inj H
 go_enter Tryd.func50, Tryd.ntmps50
 go_wp2_with (first | ((with_reducible refine gate_dst (N := 2) rfl ?_); refine box_event ?hg (N := 2) ?hd (cs := #[.int .i64 a0_0, .slice A0_1 l0_1.length c0_1, .slice A0_2 l0_2.length c0_2]) (t := 73) ?hr ?_; (case hd => rfl); (case hg => rfl); (case hr => first | (go_simp; done) | (go_simp; rfl)); intro gb141 hg w5 hbox hb; have n0_ := Aside0.mk (below_step bel hb); have n1_ := Aside0.mk (hbox); have n2_ := Aside0.mk ((by rw [hg]; exact (below_size bel) : w.heap.size ≤ gb141)); have n3_ := n2_; clear HB; have HB := n0_; have BK141 := n1_; have GW141 := n2_; have GE141 := n3_; clear n0_ n1_ n2_ n3_; clear hb hbox hg; have hcz6_0 := blkc BK141.out 0 (.int .i64 a0_0) rfl; have hcz6_1 := blkc BK141.out 1 (.slice A0_1 l0_1.length c0_1) rfl; have hcz6_2 := blkc BK141.out 2 (.slice A0_2 l0_2.length c0_2) rfl; have hfz6_0 := blk_frozen BK141.out 0; have hfz6_1 := blk_frozen BK141.out 1; have hfz6_2 := blk_frozen BK141.out 2) | ((with_reducible refine gate_callee (f := 47) rfl ?_); refine goesL_ (some 7) rfl rfl Tryd.func47 (by kernel_rfl) rfl #[.agg #[.int .i64 a0_0, .slice A0_1 l0_1.length c0_1, .slice A0_2 l0_2.length c0_2], .int .i64 a1] rfl mapz ?_; (with_reducible refine (feed_grid_live.calls k a0_0 _ _ l0_1 _ _ l0_2 a1 t142 _ ?side1 ?side2 ?side3 ?side4 ?sideT A3.out).mono ?_); (case sideT => first | exact HT.out | exact Tab.Tabs.below HT.out bel | (with_reducible repeat (first | exact HT.out | apply Tab.Tabs.alloc | apply Tab.Tabs.drewN | apply Tab.Tabs.drew))); (case side1 => exact cbz HR0_1); (case side2 => exact HC0_1.out); (case side3 => exact cbz HR0_2); (case side4 => exact HC0_2.out); rintro e w7 ⟨v143, rfl, ho0, hb⟩; refine ⟨_, rfl, ?_⟩; have n0_ := Aside0.mk (Kd.R_lower ho0 (below_size bel)); have n1_ := Aside0.mk (blk_below (g := gb141) blkz hb); have n2_ := Aside0.mk (below_step bel hb); clear BK141; clear HB; have HO144 := n0_; have BK141 := n1_; have HB := n2_; clear n0_ n1_ n2_; (try clear hb); (try clear hb2); (try clear hk); (try clear hi); (try clear ho0); obtain ⟨Ao8, co8, eo8⟩ := Kd.R_slice HO144.out; subst eo8) | ((with_reducible refine gate_callee (f := 68) rfl ?_); refine goesL_ (some 8) rfl rfl Tryd.func68 (by kernel_rfl) rfl #[.slice Ao8 t142.length co8, .int .i64 (-1)] rfl mapz ?_; (with_reducible refine (slices_Contains_int_int.calls k _ _ t142 (-1) t145 _ ?side1 ?side2 A4.out).mono ?_); (case side1 => repeat (first | exact (Kd.R_reads' HO144.out).2.2 | (with_reducible refine Kd.C_alloc ?_ _) | (with_reducible refine Kd.C_drewN ?_ _) | (with_reducible refine Kd.C_drew ?_))); (case side2 => exact (Kd.R_reads' HO144.out).2.1); rintro e w' ⟨rfl, ⟨nd, rfl⟩⟩; refine ⟨_, rfl, ?_⟩))
 go_ret
 exact ⟨by first | rfl | (simp [errW_none, errW_some] <;> rfl) | (simp [*, errW_none, errW_some] <;> rfl), by repeat (first | (with_reducible first | exact HB.out | apply below_alloc | apply pw_below_drewN | apply below_drew1 | refine below_set ?_ GE141.out) | exact HB.out)⟩

end Go.Proofs.YtoilhnmdemnknaaDoor.XFeed

-- Written by wip/xprint.py of this repo, over the kit's print.py: out of the translation; the oracles in it are by hand. Not trusted: Lean checks it.
namespace Go.Proofs.YtoilhnmdemnknaaDoor.XFeed
open Go.RowKit Go.Proofs.YtoilhnmdemnknaaDoorW.PrintWords Go.Proofs.YtoilhnmdemnknaaDoorW.PrintLast Go.Proofs.YtoilhnmdemnknaaDoorW.PrintMore
attribute [local go_sem] max2_int min2_int max_two min_two max_three min_three max_four min_four   -- for this text's walks alone
set_option linter.unusedVariables false
set_option linter.unusedSimpArgs false

/-! ### feed_States: function 17 -/
def feed_States.l0 : Nat → Int → Int → Int → Int → List (S69) → List (S71) → Option (Int × Int)
 | 0, _, _, _, _, _, _ => none
 | k + 1, x6, x17, x18, x156000, x156001, x156002 => if x18 < x17 then ((feed_grid_right.f k x156000 x156001 x156002 x18).bind fun t157 => (if t157 = true then (feed_States.l0 k (wrap64 (x6 + 1)) x17 (wrap64 (x18 + 1)) x156000 x156001 x156002) else (feed_States.l0 k x6 x17 (wrap64 (x18 + 1)) x156000 x156001 x156002))) else (some (x6, 0))
def feed_States.f (k : Nat) (a0_0 : Int) (l0_1 : List (S69)) (l0_2 : List (S71)) : Option (Int × Int) := (feed_open.f a0_0 l0_1 l0_2 0).bind fun bt147 => (if bt147.2 = 0 then ((feed_grid_all.f bt147.1 l0_1 l0_2).bind fun t156 => (feed_States.l0 k 0 t156 0 bt147.1 l0_1 l0_2)) else (some (0, bt147.2)))
theorem feed_States.mono_l : ∀ k, (∀ y0 y1 y2 y3 y4 y5, LeO (feed_States.l0 k y0 y1 y2 y3 y4 y5) (feed_States.l0 (k + 1) y0 y1 y2 y3 y4 y5))
 | 0 => fun _ _ _ _ _ _ r h => by simp [feed_States.l0] at h
 | k + 1 => by
  have ih0 := feed_States.mono_l k
  ·
   intro y0 y1 y2 y3 y4 y5
   unfold feed_States.l0
   repeat' first
   | (with_reducible exact ih0 _ _ _ _ _ _)
   | (with_reducible exact feed_grid_right.mono _ _ _ _ _)
   | (with_reducible exact LeO.refl _)
   | (with_reducible exact LeO.none _)
   | (with_reducible refine LeO.ite ?_ ?_)
   | (with_reducible refine LeO.bind ?_ (fun _ => ?_))
   | exact ih0 _ _ _ _ _ _
   | exact feed_grid_right.mono _ _ _ _ _
   | exact LeO.none _
   | refine LeO.ite ?_ ?_
   | refine LeO.bind ?_ (fun _ => ?_)
theorem feed_States.mono : ∀ a0 a1 a2 k, LeO (feed_States.f k a0 a1 a2) (feed_States.f (k + 1) a0 a1 a2) := by
 intro a0 a1 a2 k
 have ih0 := feed_States.mono_l k
 unfold feed_States.f
 repeat' first
   | (with_reducible exact ih0 _ _ _ _ _ _)
   | (with_reducible exact feed_grid_right.mono _ _ _ _ _)
   | (with_reducible exact LeO.refl _)
   | (with_reducible exact LeO.none _)
   | (with_reducible refine LeO.ite ?_ ?_)
   | (with_reducible refine LeO.bind ?_ (fun _ => ?_))
   | exact ih0 _ _ _ _ _ _
   | exact feed_grid_right.mono _ _ _ _ _
   | exact LeO.none _
   | refine LeO.ite ?_ ?_
   | refine LeO.bind ?_ (fun _ => ?_)
set_option maxHeartbeats 8000000 in
set_option maxRecDepth 100000 in
theorem feed_States.calls (k : Nat) (a0_0 : Int) (A0_1 : Option Addr) (c0_1 : Nat) (l0_1 : List (S69)) (A0_2 : Option Addr) (c0_2 : Nat) (l0_2 : List (S71)) (r1 : Int) (r2 : Int) (w : World) (hr0_1 : Kd.C k69 w A0_1 l0_1.length l0_1) (hc0_1 : l0_1.length ≤ c0_1) (hr0_2 : Kd.C k71 w A0_2 l0_2.length l0_2) (hc0_2 : l0_2.length ≤ c0_2) (hT : Tab.Tabs w) (h : feed_States.f k a0_0 l0_1 l0_2 = some (r1, r2)) :
  Calls Tryd.prog 17 #[.agg #[.int .i64 a0_0, .slice A0_1 l0_1.length c0_1, .slice A0_2 l0_2.length c0_2]] w fun e w' => e = .returned (.tuple #[.int .i64 r1, .int .i64 r2]) ∧ Below w.heap.size w w' := by
 have HT := Aside0.mk hT
 clear hT
 have hu25 := Tryd.underlying25
 have hu73 := Tryd.underlying73
 have HR0_1 := Aside0.mk hr0_1
 have HC0_1 := Aside0.mk hc0_1
 clear hr0_1 hc0_1
 have HR0_2 := Aside0.mk hr0_2
 have HC0_2 := Aside0.mk hc0_2
 clear hr0_2 hc0_2
 have HB := Aside0.mk (Below.refl w.heap.size w)
 have H : ((feed_open.f a0_0 l0_1 l0_2 0).bind fun bt147 => (if bt147.2 = 0 then ((feed_grid_all.f bt147.1 l0_1 l0_2).bind fun t156 => (feed_States.l0 k 0 t156 0 bt147.1 l0_1 l0_2)) else (some (0, bt147.2)))) = some (r1, r2) := h
 clear h
 replace H := Option.bind_eq_some_iff.mp H
 obtain ⟨⟨t147, t154⟩, A20, H⟩ := H
 replace H : (if t154 = 0 then ((feed_grid_all.f t147 l0_1 l0_2).bind fun t156 => (feed_States.l0 k 0 t156 0 t147 l0_1 l0_2)) else (some (0, t154))) = some (r1, r2) := H
 have A2 := Aside0.mk A20
 clear A20
 by_cases c3 : t154 = 0
 ·
  rw [if_pos c3] at H
  have c3b0 : (t154 == 0) = true := beq_iff_eq.mpr c3
  have c3b1 : (t154 != 0) = false := bne_eq_false_iff_eq.mpr c3
  clear c3
  replace H := Option.bind_eq_some_iff.mp H
  obtain ⟨t156, A40, H⟩ := H
  replace H : (feed_States.l0 k 0 t156 0 t147 l0_1 l0_2) = some (r1, r2) := H
  have A4 := Aside0.mk A40
  clear A40
  have H' := Aside0.mk H
  clear H
  go_enter Tryd.func17, Tryd.ntmps17
  go_wp2_with (first | ((with_reducible refine gate_dst (N := 1) rfl ?_); refine box_event ?hg (N := 1) ?hd (cs := #[.int .i64 a0_0, .slice A0_1 l0_1.length c0_1, .slice A0_2 l0_2.length c0_2]) (t := 25) ?hr ?_; (case hd => rfl); (case hg => rfl); (case hr => first | (go_simp; done) | (go_simp; rfl)); intro gb146 hg w5 hbox hb; have n0_ := Aside0.mk (below_step bel hb); have n1_ := Aside0.mk (hbox); have n2_ := Aside0.mk ((by rw [hg]; exact (below_size bel) : w.heap.size ≤ gb146)); have n3_ := n2_; clear HB; have HB := n0_; have BK146 := n1_; have GW146 := n2_; have GE146 := n3_; clear n0_ n1_ n2_ n3_; clear hb hbox hg; have hcz6_0 := blkc BK146.out 0 (.int .i64 a0_0) rfl; have hcz6_1 := blkc BK146.out 1 (.slice A0_1 l0_1.length c0_1) rfl; have hcz6_2 := blkc BK146.out 2 (.slice A0_2 l0_2.length c0_2) rfl; have hfz6_0 := blk_frozen BK146.out 0; have hfz6_1 := blk_frozen BK146.out 1; have hfz6_2 := blk_frozen BK146.out 2) | ((with_reducible refine gate_callee (f := 46) rfl ?_); refine goesL_ (some 10) rfl rfl Tryd.func46 (by kernel_rfl) rfl #[.agg #[.int .i64 a0_0, .slice A0_1 l0_1.length c0_1, .slice A0_2 l0_2.length c0_2], .int .i64 0] rfl mapz ?_; (with_reducible refine (feed_open.calls a0_0 _ _ l0_1 _ _ l0_2 0 t147 t154 _ ?side1 ?side2 ?side3 ?side4 A2.out).mono ?_); (case side1 => exact cbz HR0_1); (case side2 => exact HC0_1.out); (case side3 => exact cbz HR0_2); (case side4 => exact HC0_2.out); rintro e w7 ⟨rfl, hb⟩; refine ⟨_, rfl, ?_⟩; have n0_ := Aside0.mk (blk_below (g := gb146) blkz hb); have n1_ := Aside0.mk (below_step bel hb); clear BK146; clear HB; have BK146 := n0_; have HB := n1_; clear n0_ n1_; (try clear hb); (try clear hb2); (try clear hk); (try clear hi)) | ((with_reducible refine gate_dst (N := 4) rfl ?_); refine box_event ?hg (N := 4) ?hd (cs := #[.int .i64 0, .slice none 0 0, .slice none 0 0]) (t := 73) ?hr ?_; (case hd => rfl); (case hg => rfl); (case hr => first | (go_simp; done) | (go_simp; rfl)); intro gb155 hg w8 hbox hb; have n0_ := Aside0.mk (blk_below (g := gb146) blkz hb); have n1_ := Aside0.mk (below_step bel hb); have n2_ := Aside0.mk (hbox); have n3_ := Aside0.mk ((by rw [hg]; exact (below_size bel) : w.heap.size ≤ gb155)); have n4_ := n3_; have n5_ := Aside0.mk ((by rw [hg]; exact Nat.ne_of_lt (blk_lt (g := gb146) (o := .cells #[.int .i64 a0_0, .slice A0_1 l0_1.length c0_1, .slice A0_2 l0_2.length c0_2] 25 (0, 0)) blkz) : gb146 ≠ gb155)); have n6_ := Aside0.mk ((by rw [hg]; exact Nat.ne_of_gt (blk_lt (g := gb146) (o := .cells #[.int .i64 a0_0, .slice A0_1 l0_1.length c0_1, .slice A0_2 l0_2.length c0_2] 25 (0, 0)) blkz) : gb155 ≠ gb146)); clear BK146; clear HB; have BK146 := n0_; have HB := n1_; have BK155 := n2_; have GW155 := n3_; have GE155 := n4_; have NB146_155 := n5_; have NB155_146 := n6_; clear n0_ n1_ n2_ n3_ n4_ n5_ n6_; clear hb hbox hg; have hnb9 := NB155_146.out; have hnc9 := NB146_155.out; have hcz10_0 := blkc BK155.out 0 (.int .i64 0) rfl; have hcz10_1 := blkc BK155.out 1 (.slice none 0 0) rfl; have hcz10_2 := blkc BK155.out 2 (.slice none 0 0) rfl; have hfz10_0 := blk_frozen BK155.out 0; have hfz10_1 := blk_frozen BK155.out 1; have hfz10_2 := blk_frozen BK155.out 2) | ((with_reducible refine gate_callee (f := 52) rfl ?_); refine goesL_ (some 17) rfl rfl Tryd.func52 (by kernel_rfl) rfl #[.agg #[.int .i64 t147, .slice A0_1 l0_1.length c0_1, .slice A0_2 l0_2.length c0_2]] rfl mapz ?_; (with_reducible refine (feed_grid_all.calls t147 _ _ l0_1 _ _ l0_2 t156 _ ?side1 ?side2 ?side3 ?side4 A4.out).mono ?_); (case side1 => exact cbz HR0_1); (case side2 => exact HC0_1.out); (case side3 => exact cbz HR0_2); (case side4 => exact HC0_2.out); rintro e w11 ⟨rfl, hb⟩; refine ⟨_, rfl, ?_⟩; have n0_ := Aside0.mk (blk_below (g := gb146) (o := .cells #[.int .i64 a0_0, .slice A0_1 l0_1.length c0_1, .slice A0_2 l0_2.length c0_2] 25 (0, 0)) (by (with_reducible repeat (first | refine blk_drewN ?_ _ | refine blk_drew ?_ | refine blk_alloc ?_ _)); refine blk_far ?_ NB146_155.out _; (with_reducible repeat (first | refine blk_drewN ?_ _ | refine blk_drew ?_ | refine blk_alloc ?_ _)); refine blk_far ?_ NB146_155.out _; (with_reducible repeat (first | refine blk_drewN ?_ _ | refine blk_drew ?_ | refine blk_alloc ?_ _)); refine blk_far ?_ NB146_155.out _; (with_reducible repeat (first | refine blk_drewN ?_ _ | refine blk_drew ?_ | refine blk_alloc ?_ _)); exact BK146.out) hb); have n1_ := Aside0.mk (blk_below (g := gb155) (o := .cells #[.int .i64 t147, .slice A0_1 l0_1.length c0_1, .slice A0_2 l0_2.length c0_2] 73 (0, 0)) (by (with_reducible repeat (first | refine blk_drewN ?_ _ | refine blk_drew ?_ | refine blk_alloc ?_ _)); refine blk_put (cs := #[.int .i64 t147, .slice A0_1 l0_1.length c0_1, .slice none 0 0]) ?_ 2 _ rfl; (with_reducible repeat (first | refine blk_drewN ?_ _ | refine blk_drew ?_ | refine blk_alloc ?_ _)); refine blk_put (cs := #[.int .i64 t147, .slice none 0 0, .slice none 0 0]) ?_ 1 _ rfl; (with_reducible repeat (first | refine blk_drewN ?_ _ | refine blk_drew ?_ | refine blk_alloc ?_ _)); refine blk_put (cs := #[.int .i64 0, .slice none 0 0, .slice none 0 0]) ?_ 0 _ rfl; (with_reducible repeat (first | refine blk_drewN ?_ _ | refine blk_drew ?_ | refine blk_alloc ?_ _)); exact BK155.out) hb); have n2_ := Aside0.mk (below_step bel hb); clear BK146; clear BK155; clear HB; have BK146 := n0_; have BK155 := n1_; have HB := n2_; clear n0_ n1_ n2_; (try clear hb); (try clear hb2); (try clear hk); (try clear hi)))
  go_loopg [6, 18] k (fun kq v6 v18 w' => ∃ (x6_1 : Int) (x18_1 : Int), v6 = .int .i64 x6_1 ∧ v18 = .int .i64 x18_1 ∧ Aside0 (feed_States.l0 kq x6_1 t156 x18_1 t147 l0_1 l0_2 = some (r1, r2)) ∧ Aside0 (kq ≤ k) ∧ Aside0 (w'.heap[gb146]? = some (.cells #[.int .i64 a0_0, (.slice A0_1 l0_1.length c0_1), (.slice A0_2 l0_2.length c0_2)] 25 (0, 0))) ∧ Aside0 (w'.heap[gb155]? = some (.cells #[.int .i64 t147, (.slice A0_1 l0_1.length c0_1), (.slice A0_2 l0_2.length c0_2)] 73 (0, 0))) ∧ Aside0 (Below w.heap.size w w'))
  case atStart => exact ⟨(0), (0), rsz, rsz, H', ⟨Nat.le_refl _⟩, ⟨by (with_reducible repeat (first | refine blk_drewN ?_ _ | refine blk_drew ?_ | refine blk_alloc ?_ _)); exact BK146.out⟩, ⟨by (with_reducible repeat (first | refine blk_drewN ?_ _ | refine blk_drew ?_ | refine blk_alloc ?_ _)); exact BK155.out⟩, ⟨by repeat (first | (with_reducible first | exact HB.out | apply below_alloc | apply pw_below_drewN | apply below_drew1 | refine below_set ?_ GE146.out | refine below_set ?_ GE155.out) | exact HB.out)⟩⟩
  case round =>
   clear H'
   try clear c1
   try clear p2
   try clear c3
   try clear c3b0
   try clear c3b1
   try clear c4
   try clear c5
   try clear c9
   try clear hcz10_0
   try clear hcz10_1
   try clear hcz10_2
   try clear hcz6_0
   try clear hcz6_1
   try clear hcz6_2
   try clear hfz10_0
   try clear hfz10_1
   try clear hfz10_2
   try clear hfz6_0
   try clear hfz6_1
   try clear hfz6_2
   obtain ⟨x6_1, x18_1, rfl, rfl, HA, HK1, BK146, BK155, HB⟩ := hrel
   cases gk with
   | zero => exact absurd HA.out (by simp [feed_States.l0])
   | succ k1 =>
    have H := HA.out
    clear HA
    simp only [feed_States.l0] at H
    by_cases c12 : x18_1 < t156
    ·
     rw [if_pos c12] at H
     have c12b0 : decide (x18_1 < t156) = true := decide_eq_true c12
     clear c12
     replace H := Option.bind_eq_some_iff.mp H
     obtain ⟨t157, A130, H⟩ := H
     replace H : (if t157 = true then (feed_States.l0 k1 (wrap64 (x6_1 + 1)) t156 (wrap64 (x18_1 + 1)) t147 l0_1 l0_2) else (feed_States.l0 k1 x6_1 t156 (wrap64 (x18_1 + 1)) t147 l0_1 l0_2)) = some (r1, r2) := H
     have A13 := Aside0.mk A130
     clear A130
     by_cases c14 : t157 = true
     ·
      subst c14
      have H1 : (feed_States.l0 k1 (wrap64 (x6_1 + 1)) t156 (wrap64 (x18_1 + 1)) t147 l0_1 l0_2) = some (r1, r2) := by rw [if_pos rfl] at H; exact H
      clear H
      have H := H1
      clear H1
      have H' := Aside0.mk H
      clear H
      have hnb15 := NB155_146.out
      have hnc15 := NB146_155.out
      have hcz16_0 := blkc BK155.out 0 (.int .i64 t147) rfl
      have hcz16_1 := blkc BK155.out 1 (.slice A0_1 l0_1.length c0_1) rfl
      have hcz16_2 := blkc BK155.out 2 (.slice A0_2 l0_2.length c0_2) rfl
      have hfz16_0 := blk_frozen BK155.out 0
      have hfz16_1 := blk_frozen BK155.out 1
      have hfz16_2 := blk_frozen BK155.out 2
      go_wp2_with (first | ((with_reducible refine gate_callee (f := 50) rfl ?_); refine goesL_ (some 23) rfl rfl Tryd.func50 (by kernel_rfl) rfl #[.agg #[.int .i64 t147, .slice A0_1 l0_1.length c0_1, .slice A0_2 l0_2.length c0_2], .int .i64 x18_1] rfl mapz ?_; (with_reducible refine (feed_grid_right.calls k1 t147 _ _ l0_1 _ _ l0_2 x18_1 true _ ?side1 ?side2 ?side3 ?side4 ?sideT A13.out).mono ?_); (case sideT => first | exact HT.out | exact Tab.Tabs.below HT.out bel | (with_reducible repeat (first | exact HT.out | apply Tab.Tabs.alloc | apply Tab.Tabs.drewN | apply Tab.Tabs.drew))); (case side1 => exact cbz HR0_1); (case side2 => exact HC0_1.out); (case side3 => exact cbz HR0_2); (case side4 => exact HC0_2.out); rintro e w17 ⟨rfl, hb⟩; refine ⟨_, rfl, ?_⟩; have n0_ := Aside0.mk (blk_below (g := gb146) blkz hb); have n1_ := Aside0.mk (blk_below (g := gb155) blkz hb); have n2_ := Aside0.mk (below_step bel hb); clear BK146; clear BK155; clear HB; have BK146 := n0_; have BK155 := n1_; have HB := n2_; clear n0_ n1_ n2_; (try clear hb); (try clear hb2); (try clear hk); (try clear hi)))
      go_roundg k1
      case measure => have := HK1.out; omega
      case rel => exact ⟨(wrap64 (x6_1 + 1)), (wrap64 (x18_1 + 1)), rsz, rsz, H', ⟨by have := HK1.out; omega⟩, ⟨by (with_reducible repeat (first | refine blk_drewN ?_ _ | refine blk_drew ?_ | refine blk_alloc ?_ _)); exact BK146.out⟩, ⟨by (with_reducible repeat (first | refine blk_drewN ?_ _ | refine blk_drew ?_ | refine blk_alloc ?_ _)); exact BK155.out⟩, ⟨by repeat (first | (with_reducible first | exact HB.out | apply below_alloc | apply pw_below_drewN | apply below_drew1 | refine below_set ?_ GE146.out | refine below_set ?_ GE155.out) | exact HB.out)⟩⟩
     ·
      replace c14 := Bool.eq_false_iff.mpr c14
      subst c14
      have H1 : (feed_States.l0 k1 x6_1 t156 (wrap64 (x18_1 + 1)) t147 l0_1 l0_2) = some (r1, r2) := by rw [if_neg (show ¬ (false = true) by decide)] at H; exact H
      clear H
      have H := H1
      clear H1
      have H' := Aside0.mk H
      clear H
      have hnb18 := NB155_146.out
      have hnc18 := NB146_155.out
      have hcz19_0 := blkc BK155.out 0 (.int .i64 t147) rfl
      have hcz19_1 := blkc BK155.out 1 (.slice A0_1 l0_1.length c0_1) rfl
      have hcz19_2 := blkc BK155.out 2 (.slice A0_2 l0_2.length c0_2) rfl
      have hfz19_0 := blk_frozen BK155.out 0
      have hfz19_1 := blk_frozen BK155.out 1
      have hfz19_2 := blk_frozen BK155.out 2
      go_wp2_with (first | ((with_reducible refine gate_callee (f := 50) rfl ?_); refine goesL_ (some 23) rfl rfl Tryd.func50 (by kernel_rfl) rfl #[.agg #[.int .i64 t147, .slice A0_1 l0_1.length c0_1, .slice A0_2 l0_2.length c0_2], .int .i64 x18_1] rfl mapz ?_; (with_reducible refine (feed_grid_right.calls k1 t147 _ _ l0_1 _ _ l0_2 x18_1 false _ ?side1 ?side2 ?side3 ?side4 ?sideT A13.out).mono ?_); (case sideT => first | exact HT.out | exact Tab.Tabs.below HT.out bel | (with_reducible repeat (first | exact HT.out | apply Tab.Tabs.alloc | apply Tab.Tabs.drewN | apply Tab.Tabs.drew))); (case side1 => exact cbz HR0_1); (case side2 => exact HC0_1.out); (case side3 => exact cbz HR0_2); (case side4 => exact HC0_2.out); rintro e w20 ⟨rfl, hb⟩; refine ⟨_, rfl, ?_⟩; have n0_ := Aside0.mk (blk_below (g := gb146) blkz hb); have n1_ := Aside0.mk (blk_below (g := gb155) blkz hb); have n2_ := Aside0.mk (below_step bel hb); clear BK146; clear BK155; clear HB; have BK146 := n0_; have BK155 := n1_; have HB := n2_; clear n0_ n1_ n2_; (try clear hb); (try clear hb2); (try clear hk); (try clear hi)))
      go_roundg k1
      case measure => have := HK1.out; omega
      case rel => exact ⟨(x6_1), (wrap64 (x18_1 + 1)), rsz, rsz, H', ⟨by have := HK1.out; omega⟩, ⟨by (with_reducible repeat (first | refine blk_drewN ?_ _ | refine blk_drew ?_ | refine blk_alloc ?_ _)); exact BK146.out⟩, ⟨by (with_reducible repeat (first | refine blk_drewN ?_ _ | refine blk_drew ?_ | refine blk_alloc ?_ _)); exact BK155.out⟩, ⟨by repeat (first | (with_reducible first | exact HB.out | apply below_alloc | apply pw_below_drewN | apply below_drew1 | refine below_set ?_ GE146.out | refine below_set ?_ GE155.out) | exact HB.out)⟩⟩
    ·
     rw [if_neg c12] at H
     have c12b0 : decide (x18_1 < t156) = false := decide_eq_false c12
     clear c12
     simp only [Option.some.injEq, Prod.mk.injEq] at H
     obtain ⟨rfl, rfl⟩ := H
     go_wp2
     go_ret2
     exact ⟨by first | rfl | (simp [errW_none, errW_some] <;> rfl) | (simp [*, errW_none, errW_some] <;> rfl), by repeat (first | (with_reducible first | exact HB.out | apply below_alloc | apply pw_below_drewN | apply below_drew1 | refine below_set ?_ GE146.out | refine below_set ?_ GE155.out) | exact HB.out)⟩
 ·
  rw [if_neg c3] at H
  have c3b0 : (t154 == 0) = false := beq_eq_false_iff_ne.mpr c3
  have c3b1 : (t154 != 0) = true := bne_iff_ne.mpr c3
  simp only [Option.some.injEq, Prod.mk.injEq] at H
  obtain ⟨rfl, rfl⟩ := H
  go_enter Tryd.func17, Tryd.ntmps17
  go_wp2_with (first | ((with_reducible refine gate_dst (N := 1) rfl ?_); refine box_event ?hg (N := 1) ?hd (cs := #[.int .i64 a0_0, .slice A0_1 l0_1.length c0_1, .slice A0_2 l0_2.length c0_2]) (t := 25) ?hr ?_; (case hd => rfl); (case hg => rfl); (case hr => first | (go_simp; done) | (go_simp; rfl)); intro gb146 hg w21 hbox hb; have n0_ := Aside0.mk (below_step bel hb); have n1_ := Aside0.mk (hbox); have n2_ := Aside0.mk ((by rw [hg]; exact (below_size bel) : w.heap.size ≤ gb146)); have n3_ := n2_; clear HB; have HB := n0_; have BK146 := n1_; have GW146 := n2_; have GE146 := n3_; clear n0_ n1_ n2_ n3_; clear hb hbox hg; have hcz22_0 := blkc BK146.out 0 (.int .i64 a0_0) rfl; have hcz22_1 := blkc BK146.out 1 (.slice A0_1 l0_1.length c0_1) rfl; have hcz22_2 := blkc BK146.out 2 (.slice A0_2 l0_2.length c0_2) rfl; have hfz22_0 := blk_frozen BK146.out 0; have hfz22_1 := blk_frozen BK146.out 1; have hfz22_2 := blk_frozen BK146.out 2) | ((with_reducible refine gate_callee (f := 46) rfl ?_); refine goesL_ (some 10) rfl rfl Tryd.func46 (by kernel_rfl) rfl #[.agg #[.int .i64 a0_0, .slice A0_1 l0_1.length c0_1, .slice A0_2 l0_2.length c0_2], .int .i64 0] rfl mapz ?_; (with_reducible refine (feed_open.calls a0_0 _ _ l0_1 _ _ l0_2 0 t147 t154 _ ?side1 ?side2 ?side3 ?side4 A2.out).mono ?_); (case side1 => exact cbz HR0_1); (case side2 => exact HC0_1.out); (case side3 => exact cbz HR0_2); (case side4 => exact HC0_2.out); rintro e w23 ⟨rfl, hb⟩; refine ⟨_, rfl, ?_⟩; have n0_ := Aside0.mk (blk_below (g := gb146) blkz hb); have n1_ := Aside0.mk (below_step bel hb); clear BK146; clear HB; have BK146 := n0_; have HB := n1_; clear n0_ n1_; (try clear hb); (try clear hb2); (try clear hk); (try clear hi)) | ((with_reducible refine gate_dst (N := 4) rfl ?_); refine box_event ?hg (N := 4) ?hd (cs := #[.int .i64 0, .slice none 0 0, .slice none 0 0]) (t := 73) ?hr ?_; (case hd => rfl); (case hg => rfl); (case hr => first | (go_simp; done) | (go_simp; rfl)); intro gb155 hg w24 hbox hb; have n0_ := Aside0.mk (blk_below (g := gb146) blkz hb); have n1_ := Aside0.mk (below_step bel hb); have n2_ := Aside0.mk (hbox); have n3_ := Aside0.mk ((by rw [hg]; exact (below_size bel) : w.heap.size ≤ gb155)); have n4_ := n3_; have n5_ := Aside0.mk ((by rw [hg]; exact Nat.ne_of_lt (blk_lt (g := gb146) (o := .cells #[.int .i64 a0_0, .slice A0_1 l0_1.length c0_1, .slice A0_2 l0_2.length c0_2] 25 (0, 0)) blkz) : gb146 ≠ gb155)); have n6_ := Aside0.mk ((by rw [hg]; exact Nat.ne_of_gt (blk_lt (g := gb146) (o := .cells #[.int .i64 a0_0, .slice A0_1 l0_1.length c0_1, .slice A0_2 l0_2.length c0_2] 25 (0, 0)) blkz) : gb155 ≠ gb146)); clear BK146; clear HB; have BK146 := n0_; have HB := n1_; have BK155 := n2_; have GW155 := n3_; have GE155 := n4_; have NB146_155 := n5_; have NB155_146 := n6_; clear n0_ n1_ n2_ n3_ n4_ n5_ n6_; clear hb hbox hg; have hnb25 := NB155_146.out; have hnc25 := NB146_155.out; have hcz26_0 := blkc BK155.out 0 (.int .i64 0) rfl; have hcz26_1 := blkc BK155.out 1 (.slice none 0 0) rfl; have hcz26_2 := blkc BK155.out 2 (.slice none 0 0) rfl; have hfz26_0 := blk_frozen BK155.out 0; have hfz26_1 := blk_frozen BK155.out 1; have hfz26_2 := blk_frozen BK155.out 2))
  go_ret2
  exact ⟨by first | rfl | (simp [errW_none, errW_some] <;> rfl) | (simp [*, errW_none, errW_some] <;> rfl), by repeat (first | (with_reducible first | exact HB.out | apply below_alloc | apply pw_below_drewN | apply below_drew1 | refine below_set ?_ GE146.out | refine below_set ?_ GE155.out) | exact HB.out)⟩

end Go.Proofs.YtoilhnmdemnknaaDoor.XFeed

-- Written by wip/xprint.py of this repo, over the kit's print.py: out of the translation; the oracles in it are by hand. Not trusted: Lean checks it.
namespace Go.Proofs.YtoilhnmdemnknaaDoor.XFeed
open Go.RowKit Go.Proofs.YtoilhnmdemnknaaDoorW.PrintWords Go.Proofs.YtoilhnmdemnknaaDoorW.PrintLast Go.Proofs.YtoilhnmdemnknaaDoorW.PrintMore
attribute [local go_sem] max2_int min2_int max_two min_two max_three min_three max_four min_four   -- for this text's walks alone
set_option linter.unusedVariables false
set_option linter.unusedSimpArgs false

/-! ### dropperlaw05_First: function 12 -/
def dropperlaw05_First.f (k : Nat)  : Option (Bool) := (feed_Isolate.f k 3 (([(⟨0, 1⟩ : S69), (⟨1, 2⟩ : S69), (⟨0, 2⟩ : S69)] : List (S69))) (([(⟨0, 1⟩ : S71)] : List (S71))) 7 2).bind fun bt209 => ((feed_States.f k 2 (([(⟨0, 1⟩ : S69)] : List (S69))) (([(⟨0, 1⟩ : S71), (⟨1, 2⟩ : S71)] : List (S71)))).bind fun bt219 => (if bt209.2 = 0 then (if bt219.2 = 0 then (if (bt209.1.length : Int) = 2 then (some (bt219.1 == 1)) else (some false)) else (some false)) else (some false)))
theorem dropperlaw05_First.mono : ∀ k, LeO (dropperlaw05_First.f k ) (dropperlaw05_First.f (k + 1) ) := by
 intro  k
 unfold dropperlaw05_First.f
 repeat' first
   | (with_reducible exact feed_Isolate.mono _ _ _ _ _ _)
   | (with_reducible exact feed_States.mono _ _ _ _)
   | (with_reducible exact LeO.refl _)
   | (with_reducible exact LeO.none _)
   | (with_reducible refine LeO.ite ?_ ?_)
   | (with_reducible refine LeO.bind ?_ (fun _ => ?_))
   | exact feed_Isolate.mono _ _ _ _ _ _
   | exact feed_States.mono _ _ _ _
   | exact LeO.none _
   | refine LeO.ite ?_ ?_
   | refine LeO.bind ?_ (fun _ => ?_)
set_option maxHeartbeats 8000000 in
set_option maxRecDepth 100000 in
theorem dropperlaw05_First.calls (k : Nat)  (r : Bool) (w : World) (hT : Tab.Tabs w) (h : dropperlaw05_First.f k  = some r) :
  Calls Tryd.prog 12 #[] w fun e w' => e = .returned (.bool r) ∧ Below w.heap.size w w' := by
 have HT := Aside0.mk hT
 clear hT
 have hu69 := Tryd.underlying69
 have hu71 := Tryd.underlying71
 have hu25 := Tryd.underlying25
 have HB := Aside0.mk (Below.refl w.heap.size w)
 have H : ((feed_Isolate.f k 3 (([(⟨0, 1⟩ : S69), (⟨1, 2⟩ : S69), (⟨0, 2⟩ : S69)] : List (S69))) (([(⟨0, 1⟩ : S71)] : List (S71))) 7 2).bind fun bt209 => ((feed_States.f k 2 (([(⟨0, 1⟩ : S69)] : List (S69))) (([(⟨0, 1⟩ : S71), (⟨1, 2⟩ : S71)] : List (S71)))).bind fun bt219 => (if bt209.2 = 0 then (if bt219.2 = 0 then (if (bt209.1.length : Int) = 2 then (some (bt219.1 == 1)) else (some false)) else (some false)) else (some false)))) = some r := h
 clear h
 obtain ⟨y202, hy202⟩ : ∃ y_ : List (S69), y_ = (([(⟨0, 1⟩ : S69), (⟨1, 2⟩ : S69), (⟨0, 2⟩ : S69)] : List (S69))) := ⟨_, rfl⟩
 replace H : ((feed_Isolate.f k 3 y202 (([(⟨0, 1⟩ : S71)] : List (S71))) 7 2).bind fun bt209 => ((feed_States.f k 2 (([(⟨0, 1⟩ : S69)] : List (S69))) (([(⟨0, 1⟩ : S71), (⟨1, 2⟩ : S71)] : List (S71)))).bind fun bt219 => (if bt209.2 = 0 then (if bt219.2 = 0 then (if (bt209.1.length : Int) = 2 then (some (bt219.1 == 1)) else (some false)) else (some false)) else (some false)))) = some r := by first | (rw [hy202]; with_reducible exact H) | (have H2_ := (Option.bind_some _ _).symm.trans H; rw [hy202]; with_reducible exact H2_) | (have H2_ := (Option.bind_some _ _).symm.trans H; with_reducible exact H2_) | with_reducible exact H | (rw [hy202]; exact H) | exact H
 have Ny202 := Aside0.mk hy202
 clear hy202
 obtain ⟨y205, hy205⟩ : ∃ y_ : List (S71), y_ = (([(⟨0, 1⟩ : S71)] : List (S71))) := ⟨_, rfl⟩
 replace H : ((feed_Isolate.f k 3 y202 y205 7 2).bind fun bt209 => ((feed_States.f k 2 (([(⟨0, 1⟩ : S69)] : List (S69))) (([(⟨0, 1⟩ : S71), (⟨1, 2⟩ : S71)] : List (S71)))).bind fun bt219 => (if bt209.2 = 0 then (if bt219.2 = 0 then (if (bt209.1.length : Int) = 2 then (some (bt219.1 == 1)) else (some false)) else (some false)) else (some false)))) = some r := by first | (rw [hy205]; with_reducible exact H) | (have H2_ := (Option.bind_some _ _).symm.trans H; rw [hy205]; with_reducible exact H2_) | (have H2_ := (Option.bind_some _ _).symm.trans H; with_reducible exact H2_) | with_reducible exact H | (rw [hy205]; exact H) | exact H
 have Ny205 := Aside0.mk hy205
 clear hy205
 replace H := Option.bind_eq_some_iff.mp H
 obtain ⟨⟨t209, t212⟩, A10, H⟩ := H
 replace H : ((feed_States.f k 2 (([(⟨0, 1⟩ : S69)] : List (S69))) (([(⟨0, 1⟩ : S71), (⟨1, 2⟩ : S71)] : List (S71)))).bind fun bt219 => (if t212 = 0 then (if bt219.2 = 0 then (if (t209.length : Int) = 2 then (some (bt219.1 == 1)) else (some false)) else (some false)) else (some false))) = some r := H
 have A1 := Aside0.mk A10
 clear A10
 obtain ⟨y213, hy213⟩ : ∃ y_ : List (S69), y_ = (([(⟨0, 1⟩ : S69)] : List (S69))) := ⟨_, rfl⟩
 replace H : ((feed_States.f k 2 y213 (([(⟨0, 1⟩ : S71), (⟨1, 2⟩ : S71)] : List (S71)))).bind fun bt219 => (if t212 = 0 then (if bt219.2 = 0 then (if (t209.length : Int) = 2 then (some (bt219.1 == 1)) else (some false)) else (some false)) else (some false))) = some r := by first | (rw [hy213]; with_reducible exact H) | (have H2_ := (Option.bind_some _ _).symm.trans H; rw [hy213]; with_reducible exact H2_) | (have H2_ := (Option.bind_some _ _).symm.trans H; with_reducible exact H2_) | with_reducible exact H | (rw [hy213]; exact H) | exact H
 have Ny213 := Aside0.mk hy213
 clear hy213
 obtain ⟨y216, hy216⟩ : ∃ y_ : List (S71), y_ = (([(⟨0, 1⟩ : S71), (⟨1, 2⟩ : S71)] : List (S71))) := ⟨_, rfl⟩
 replace H : ((feed_States.f k 2 y213 y216).bind fun bt219 => (if t212 = 0 then (if bt219.2 = 0 then (if (t209.length : Int) = 2 then (some (bt219.1 == 1)) else (some false)) else (some false)) else (some false))) = some r := by first | (rw [hy216]; with_reducible exact H) | (have H2_ := (Option.bind_some _ _).symm.trans H; rw [hy216]; with_reducible exact H2_) | (have H2_ := (Option.bind_some _ _).symm.trans H; with_reducible exact H2_) | with_reducible exact H | (rw [hy216]; exact H) | exact H
 have Ny216 := Aside0.mk hy216
 clear hy216
 replace H := Option.bind_eq_some_iff.mp H
 obtain ⟨⟨t219, t220⟩, A20, H⟩ := H
 replace H : (if t212 = 0 then (if t220 = 0 then (if (t209.length : Int) = 2 then (some (t219 == 1)) else (some false)) else (some false)) else (some false)) = some r := H
 have A2 := Aside0.mk A20
 clear A20
 by_cases c3 : t212 = 0
 ·
  rw [if_pos c3] at H
  have c3b0 : (t212 == 0) = true := beq_iff_eq.mpr c3
  have c3b1 : (t212 != 0) = false := bne_eq_false_iff_eq.mpr c3
  clear c3
  by_cases c4 : t220 = 0
  ·
   rw [if_pos c4] at H
   have c4b0 : (t220 == 0) = true := beq_iff_eq.mpr c4
   have c4b1 : (t220 != 0) = false := bne_eq_false_iff_eq.mpr c4
   clear c4
   by_cases c5 : (t209.length : Int) = 2
   ·
    rw [if_pos c5] at H
    have c5b0 : ((t209.length : Int) == 2) = true := beq_iff_eq.mpr c5
    have c5b1 : ((t209.length : Int) != 2) = false := bne_eq_false_iff_eq.mpr c5
    clear c5
    obtain rfl := Option.some.inj H
    go_enter Tryd.func12, Tryd.ntmps12
    go_wp2_with (first | ((with_reducible refine gate_dst (N := 9) rfl ?_); (try (refine gate_guard (by rfl) ?_; dsimp only)); refine Kd.R_lit k69 _ 69 ?hg (N := 9) ?hd (xs := ([(⟨0, 1⟩ : S69), (⟨1, 2⟩ : S69), (⟨0, 2⟩ : S69)] : List (S69))) (inner := [.int .i64 0, .int .i64 1, .int .i64 1, .int .i64 2, .int .i64 0, .int .i64 2]) (ok := fun _ => True) (okp := fun _ => True) ?hr ?hp (fun _ hk => hk) trivial (Below.refl _ _) (Nat.le_refl _) (by simp) ?_; (case hd => rfl); (case hg => rfl); (case hr => first | (go_simp; done) | (go_simp; rfl)); (case hp => exact (Reps.c2 (show Kd.M k69 _ _ _ (⟨0, 1⟩ : S69) [.int .i64 0, .int .i64 1] from (k69_mkM _ _ _ (⟨0, 1⟩ : S69) )) (Reps.c2 (show Kd.M k69 _ _ _ (⟨1, 2⟩ : S69) [.int .i64 1, .int .i64 2] from (k69_mkM _ _ _ (⟨1, 2⟩ : S69) )) (Reps.c2 (show Kd.M k69 _ _ _ (⟨0, 2⟩ : S69) [.int .i64 0, .int .i64 2] from (k69_mkM _ _ _ (⟨0, 2⟩ : S69) )) (Reps.none _ _))))); intro v203 w6 ho7 hb hg_ hnew_; clear hg_ hnew_; (first | rw [← Ny202.out] at ho7 | (simp only [Int.reduceToNat] at ho7; rw [← Ny202.out] at ho7)); have n0_ := Aside0.mk (Kd.R_lower ho7 (below_size bel)); have n1_ := Aside0.mk (below_step bel hb); clear HB; have HO204 := n0_; have HB := n1_; clear n0_ n1_; clear hb ho7) | ((with_reducible refine gate_dst (N := 11) rfl ?_); (try (refine gate_guard (by rfl) ?_; dsimp only)); refine Kd.R_lit k71 _ 71 ?hg (N := 11) ?hd (xs := ([(⟨0, 1⟩ : S71)] : List (S71))) (inner := [.int .i64 0, .int .i64 1]) (ok := fun _ => True) (okp := fun _ => True) ?hr ?hp (fun _ hk => hk) trivial (Below.refl _ _) (Nat.le_refl _) (by simp) ?_; (case hd => rfl); (case hg => rfl); (case hr => first | (go_simp; done) | (go_simp; rfl)); (case hp => exact (Reps.c2 (show Kd.M k71 _ _ _ (⟨0, 1⟩ : S71) [.int .i64 0, .int .i64 1] from (k71_mkM _ _ _ (⟨0, 1⟩ : S71) )) (Reps.none _ _))); intro v206 w8 ho9 hb hg_ hnew_; clear hg_ hnew_; (first | rw [← Ny205.out] at ho9 | (simp only [Int.reduceToNat] at ho9; rw [← Ny205.out] at ho9)); have n0_ := Aside0.mk (Kd.R_below (by (with_reducible repeat (first | apply Kd.R_alloc | apply Kd.R_drewN | apply Kd.R_drew)); exact HO204.out) hb); have n1_ := Aside0.mk (Kd.R_lower ho9 (below_size bel)); have n2_ := Aside0.mk (below_step bel hb); clear HO204; clear HB; have HO204 := n0_; have HO207 := n1_; have HB := n2_; clear n0_ n1_ n2_; clear hb ho9; obtain ⟨Ao10, co10, eo10⟩ := Kd.R_slice HO207.out; subst eo10; obtain ⟨Ao11, co11, eo11⟩ := Kd.R_slice HO204.out; subst eo11) | ((with_reducible refine gate_dst (N := 1) rfl ?_); (try (refine gate_guard (by rfl) ?_; dsimp only)); refine box_event ?hg (N := 1) ?hd (cs := #[.int .i64 0, .slice none 0 0, .slice none 0 0]) (t := 25) ?hr ?_; (case hd => rfl); (case hg => rfl); (case hr => first | (go_simp; done) | (go_simp; rfl)); intro gb208 hg w12 hbox hb; have n0_ := Aside0.mk (Kd.R_below (by (with_reducible repeat (first | apply Kd.R_alloc | apply Kd.R_drewN | apply Kd.R_drew)); exact HO204.out) hb); have n1_ := Aside0.mk (Kd.R_below (by (with_reducible repeat (first | apply Kd.R_alloc | apply Kd.R_drewN | apply Kd.R_drew)); exact HO207.out) hb); have n2_ := Aside0.mk (below_step bel hb); have n3_ := Aside0.mk (hbox); have n4_ := Aside0.mk ((by rw [hg]; exact (below_size bel) : w.heap.size ≤ gb208)); have n5_ := n4_; clear HO204; clear HO207; clear HB; have HO204 := n0_; have HO207 := n1_; have HB := n2_; have BK208 := n3_; have GW208 := n4_; have GE208 := n5_; clear n0_ n1_ n2_ n3_ n4_ n5_; clear hb hbox hg; have hcz13_0 := blkc BK208.out 0 (.int .i64 0) rfl; have hcz13_1 := blkc BK208.out 1 (.slice none 0 0) rfl; have hcz13_2 := blkc BK208.out 2 (.slice none 0 0) rfl; have hfz13_0 := blk_frozen BK208.out 0; have hfz13_1 := blk_frozen BK208.out 1; have hfz13_2 := blk_frozen BK208.out 2) | ((with_reducible refine gate_callee (f := 24) rfl ?_); refine goesL_ (some 15) rfl rfl Tryd.func24 (by kernel_rfl) rfl #[.agg #[.int .i64 3, .slice Ao11 y202.length co11, .slice Ao10 y205.length co10], .int .i64 7, .int .i64 2] rfl mapz ?_; (with_reducible refine (feed_Isolate.calls k 3 _ _ y202 _ _ y205 7 2 t209 t212 _ ?side1 ?side2 ?side3 ?side4 ?sideT A1.out).mono ?_); (case sideT => first | exact HT.out | exact Tab.Tabs.below HT.out bel | (with_reducible repeat (first | exact HT.out | apply Tab.Tabs.alloc | apply Tab.Tabs.drewN | apply Tab.Tabs.drew))); (case side1 => refine (Kd.R_reads' (e := 69) (base := w.heap.size) (ok := fun k_ => True) (n := y202.length) (c := co11) ?_).2.2; exact (by (with_reducible repeat (first | apply Kd.R_alloc | apply Kd.R_drewN | apply Kd.R_drew)); exact (Kd.R_mono (Kd.R_far (p := ⟨gb208, 2, none⟩) (Kd.R_far (p := ⟨gb208, 1, none⟩) (Kd.R_far (p := ⟨gb208, 0, none⟩) (Kd.R_types HO204.out BK208.out (by decide)) (fun _ hk => hk.2) (.int .i64 3)) (fun _ hk => hk.2) (.slice Ao11 y202.length co11)) (fun _ hk => hk.2) (.slice Ao10 y205.length co10)) (fun _ h_ => h_.1)))); (case side2 => exact (Kd.R_reads' HO204.out).2.1); (case side3 => refine (Kd.R_reads' (e := 71) (base := w.heap.size) (ok := fun k_ => True) (n := y205.length) (c := co10) ?_).2.2; exact (by (with_reducible repeat (first | apply Kd.R_alloc | apply Kd.R_drewN | apply Kd.R_drew)); exact (Kd.R_mono (Kd.R_far (p := ⟨gb208, 2, none⟩) (Kd.R_far (p := ⟨gb208, 1, none⟩) (Kd.R_far (p := ⟨gb208, 0, none⟩) (Kd.R_types HO207.out BK208.out (by decide)) (fun _ hk => hk.2) (.int .i64 3)) (fun _ hk => hk.2) (.slice Ao11 y202.length co11)) (fun _ hk => hk.2) (.slice Ao10 y205.length co10)) (fun _ h_ => h_.1)))); (case side4 => exact (Kd.R_reads' HO207.out).2.1); rintro e w14 ⟨v210, rfl, ho0, hb⟩; refine ⟨_, rfl, ?_⟩; have n0_ := Aside0.mk (Kd.R_below (by (with_reducible repeat (first | apply Kd.R_alloc | apply Kd.R_drewN | apply Kd.R_drew)); exact (Kd.R_mono (Kd.R_far (p := ⟨gb208, 2, none⟩) (Kd.R_far (p := ⟨gb208, 1, none⟩) (Kd.R_far (p := ⟨gb208, 0, none⟩) (Kd.R_types HO204.out BK208.out (by decide)) (fun _ hk => hk.2) (.int .i64 3)) (fun _ hk => hk.2) (.slice Ao11 y202.length co11)) (fun _ hk => hk.2) (.slice Ao10 y205.length co10)) (fun _ h_ => h_.1))) hb); have n1_ := Aside0.mk (Kd.R_below (by (with_reducible repeat (first | apply Kd.R_alloc | apply Kd.R_drewN | apply Kd.R_drew)); exact (Kd.R_mono (Kd.R_far (p := ⟨gb208, 2, none⟩) (Kd.R_far (p := ⟨gb208, 1, none⟩) (Kd.R_far (p := ⟨gb208, 0, none⟩) (Kd.R_types HO207.out BK208.out (by decide)) (fun _ hk => hk.2) (.int .i64 3)) (fun _ hk => hk.2) (.slice Ao11 y202.length co11)) (fun _ hk => hk.2) (.slice Ao10 y205.length co10)) (fun _ h_ => h_.1))) hb); have n2_ := Aside0.mk (Kd.R_lower ho0 (below_size bel)); have n3_ := Aside0.mk (blk_below (g := gb208) (o := .cells #[.int .i64 3, .slice Ao11 y202.length co11, .slice Ao10 y205.length co10] 25 (0, 0)) (by (with_reducible repeat (first | refine blk_drewN ?_ _ | refine blk_drew ?_ | refine blk_alloc ?_ _)); refine blk_put (cs := #[.int .i64 3, .slice Ao11 y202.length co11, .slice none 0 0]) ?_ 2 _ rfl; (with_reducible repeat (first | refine blk_drewN ?_ _ | refine blk_drew ?_ | refine blk_alloc ?_ _)); refine blk_put (cs := #[.int .i64 3, .slice none 0 0, .slice none 0 0]) ?_ 1 _ rfl; (with_reducible repeat (first | refine blk_drewN ?_ _ | refine blk_drew ?_ | refine blk_alloc ?_ _)); refine blk_put (cs := #[.int .i64 0, .slice none 0 0, .slice none 0 0]) ?_ 0 _ rfl; (with_reducible repeat (first | refine blk_drewN ?_ _ | refine blk_drew ?_ | refine blk_alloc ?_ _)); exact BK208.out) hb); have n4_ := Aside0.mk (below_step bel hb); clear HO204; clear HO207; clear BK208; clear HB; have HO204 := n0_; have HO207 := n1_; have HO211 := n2_; have BK208 := n3_; have HB := n4_; clear n0_ n1_ n2_ n3_ n4_; (try clear hb); (try clear hb2); (try clear hk); (try clear hi); (try clear ho0)) | ((with_reducible refine gate_dst (N := 20) rfl ?_); (try (refine gate_guard (by rfl) ?_; dsimp only)); refine Kd.R_lit k69 _ 69 ?hg (N := 20) ?hd (xs := ([(⟨0, 1⟩ : S69)] : List (S69))) (inner := [.int .i64 0, .int .i64 1]) (ok := fun _ => True) (okp := fun _ => True) ?hr ?hp (fun _ hk => hk) trivial (Below.refl _ _) (Nat.le_refl _) (by simp) ?_; (case hd => rfl); (case hg => rfl); (case hr => first | (go_simp; done) | (go_simp; rfl)); (case hp => exact (Reps.c2 (show Kd.M k69 _ _ _ (⟨0, 1⟩ : S69) [.int .i64 0, .int .i64 1] from (k69_mkM _ _ _ (⟨0, 1⟩ : S69) )) (Reps.none _ _))); intro v214 w15 ho16 hb hg_ hnew_; clear hg_ hnew_; (first | rw [← Ny213.out] at ho16 | (simp only [Int.reduceToNat] at ho16; rw [← Ny213.out] at ho16)); have n0_ := Aside0.mk (Kd.R_elder' (by (with_reducible repeat (first | apply Kd.R_alloc | apply Kd.R_drewN | apply Kd.R_drew)); exact HO204.out) (Kd.R_base ho16) hb); have n1_ := Aside0.mk (Kd.R_below (by (with_reducible repeat (first | apply Kd.R_alloc | apply Kd.R_drewN | apply Kd.R_drew)); exact HO207.out) hb); have n2_ := Aside0.mk (Kd.R_below (by (with_reducible repeat (first | apply Kd.R_alloc | apply Kd.R_drewN | apply Kd.R_drew)); exact HO211.out) hb); have n3_ := Aside0.mk (Kd.R_lower (Kd.R_new' ho16 (Kd.R_lt (by (with_reducible repeat (first | apply Kd.R_alloc | apply Kd.R_drewN | apply Kd.R_drew)); exact HO204.out))) (below_size bel)); have n4_ := Aside0.mk (blk_below (g := gb208) blkz hb); have n5_ := Aside0.mk (below_step bel hb); clear HO204; clear HO207; clear HO211; clear BK208; clear HB; have HO204 := n0_; have HO207 := n1_; have HO211 := n2_; have HO215 := n3_; have BK208 := n4_; have HB := n5_; clear n0_ n1_ n2_ n3_ n4_ n5_; clear hb ho16) | ((with_reducible refine gate_dst (N := 23) rfl ?_); (try (refine gate_guard (by rfl) ?_; dsimp only)); refine Kd.R_lit k71 _ 71 ?hg (N := 23) ?hd (xs := ([(⟨0, 1⟩ : S71), (⟨1, 2⟩ : S71)] : List (S71))) (inner := [.int .i64 0, .int .i64 1, .int .i64 1, .int .i64 2]) (ok := fun _ => True) (okp := fun _ => True) ?hr ?hp (fun _ hk => hk) trivial (Below.refl _ _) (Nat.le_refl _) (by simp) ?_; (case hd => rfl); (case hg => rfl); (case hr => first | (go_simp; done) | (go_simp; rfl)); (case hp => exact (Reps.c2 (show Kd.M k71 _ _ _ (⟨0, 1⟩ : S71) [.int .i64 0, .int .i64 1] from (k71_mkM _ _ _ (⟨0, 1⟩ : S71) )) (Reps.c2 (show Kd.M k71 _ _ _ (⟨1, 2⟩ : S71) [.int .i64 1, .int .i64 2] from (k71_mkM _ _ _ (⟨1, 2⟩ : S71) )) (Reps.none _ _)))); intro v217 w17 ho18 hb hg_ hnew_; clear hg_ hnew_; (first | rw [← Ny216.out] at ho18 | (simp only [Int.reduceToNat] at ho18; rw [← Ny216.out] at ho18)); have n0_ := Aside0.mk (Kd.R_below (by (with_reducible repeat (first | apply Kd.R_alloc | apply Kd.R_drewN | apply Kd.R_drew)); exact HO204.out) hb); have n1_ := Aside0.mk (Kd.R_elder' (by (with_reducible repeat (first | apply Kd.R_alloc | apply Kd.R_drewN | apply Kd.R_drew)); exact HO207.out) (Kd.R_base ho18) hb); have n2_ := Aside0.mk (Kd.R_below (by (with_reducible repeat (first | apply Kd.R_alloc | apply Kd.R_drewN | apply Kd.R_drew)); exact HO211.out) hb); have n3_ := Aside0.mk (Kd.R_below (by (with_reducible repeat (first | apply Kd.R_alloc | apply Kd.R_drewN | apply Kd.R_drew)); exact HO215.out) hb); have n4_ := Aside0.mk (Kd.R_lower (Kd.R_new' ho18 (Kd.R_lt (by (with_reducible repeat (first | apply Kd.R_alloc | apply Kd.R_drewN | apply Kd.R_drew)); exact HO207.out))) (below_size bel)); have n5_ := Aside0.mk (blk_below (g := gb208) blkz hb); have n6_ := Aside0.mk (below_step bel hb); clear HO204; clear HO207; clear HO211; clear HO215; clear BK208; clear HB; have HO204 := n0_; have HO207 := n1_; have HO211 := n2_; have HO215 := n3_; have HO218 := n4_; have BK208 := n5_; have HB := n6_; clear n0_ n1_ n2_ n3_ n4_ n5_ n6_; clear hb ho18; obtain ⟨Ao19, co19, eo19⟩ := Kd.R_slice HO218.out; subst eo19; obtain ⟨Ao20, co20, eo20⟩ := Kd.R_slice HO215.out; subst eo20) | ((with_reducible refine gate_callee (f := 17) rfl ?_); refine goesL_ (some 25) rfl rfl Tryd.func17 (by kernel_rfl) rfl #[.agg #[.int .i64 2, .slice Ao20 y213.length co20, .slice Ao19 y216.length co19]] rfl mapz ?_; (with_reducible refine (feed_States.calls k 2 _ _ y213 _ _ y216 t219 t220 _ ?side1 ?side2 ?side3 ?side4 ?sideT A2.out).mono ?_); (case sideT => first | exact HT.out | exact Tab.Tabs.below HT.out bel | (with_reducible repeat (first | exact HT.out | apply Tab.Tabs.alloc | apply Tab.Tabs.drewN | apply Tab.Tabs.drew))); (case side1 => repeat (first | exact (Kd.R_reads' HO215.out).2.2 | (with_reducible refine Kd.C_alloc ?_ _) | (with_reducible refine Kd.C_drewN ?_ _) | (with_reducible refine Kd.C_drew ?_))); (case side2 => exact (Kd.R_reads' HO215.out).2.1); (case side3 => repeat (first | exact (Kd.R_reads' HO218.out).2.2 | (with_reducible refine Kd.C_alloc ?_ _) | (with_reducible refine Kd.C_drewN ?_ _) | (with_reducible refine Kd.C_drew ?_))); (case side4 => exact (Kd.R_reads' HO218.out).2.1); rintro e w21 ⟨rfl, hb⟩; refine ⟨_, rfl, ?_⟩; have n0_ := Aside0.mk (Kd.R_below (by (with_reducible repeat (first | apply Kd.R_alloc | apply Kd.R_drewN | apply Kd.R_drew)); exact HO204.out) hb); have n1_ := Aside0.mk (Kd.R_below (by (with_reducible repeat (first | apply Kd.R_alloc | apply Kd.R_drewN | apply Kd.R_drew)); exact HO207.out) hb); have n2_ := Aside0.mk (Kd.R_below (by (with_reducible repeat (first | apply Kd.R_alloc | apply Kd.R_drewN | apply Kd.R_drew)); exact HO211.out) hb); have n3_ := Aside0.mk (Kd.R_below (by (with_reducible repeat (first | apply Kd.R_alloc | apply Kd.R_drewN | apply Kd.R_drew)); exact HO215.out) hb); have n4_ := Aside0.mk (Kd.R_below (by (with_reducible repeat (first | apply Kd.R_alloc | apply Kd.R_drewN | apply Kd.R_drew)); exact HO218.out) hb); have n5_ := Aside0.mk (blk_below (g := gb208) blkz hb); have n6_ := Aside0.mk (below_step bel hb); clear HO204; clear HO207; clear HO211; clear HO215; clear HO218; clear BK208; clear HB; have HO204 := n0_; have HO207 := n1_; have HO211 := n2_; have HO215 := n3_; have HO218 := n4_; have BK208 := n5_; have HB := n6_; clear n0_ n1_ n2_ n3_ n4_ n5_ n6_; (try clear hb); (try clear hb2); (try clear hk); (try clear hi); obtain ⟨Ao22, co22, eo22⟩ := Kd.R_slice HO211.out; subst eo22))
    go_ret
    exact ⟨by first | rfl | (simp [errW_none, errW_some] <;> rfl) | (simp [*, errW_none, errW_some] <;> rfl), by repeat (first | (with_reducible first | exact HB.out | apply below_alloc | apply pw_below_drewN | apply below_drew1 | refine below_set ?_ GE208.out) | exact HB.out)⟩
   ·
    rw [if_neg c5] at H
    have c5b0 : ((t209.length : Int) == 2) = false := beq_eq_false_iff_ne.mpr c5
    have c5b1 : ((t209.length : Int) != 2) = true := bne_iff_ne.mpr c5
    obtain rfl := Option.some.inj H
    go_enter Tryd.func12, Tryd.ntmps12
    go_wp2_with (first | ((with_reducible refine gate_dst (N := 9) rfl ?_); (try (refine gate_guard (by rfl) ?_; dsimp only)); refine Kd.R_lit k69 _ 69 ?hg (N := 9) ?hd (xs := ([(⟨0, 1⟩ : S69), (⟨1, 2⟩ : S69), (⟨0, 2⟩ : S69)] : List (S69))) (inner := [.int .i64 0, .int .i64 1, .int .i64 1, .int .i64 2, .int .i64 0, .int .i64 2]) (ok := fun _ => True) (okp := fun _ => True) ?hr ?hp (fun _ hk => hk) trivial (Below.refl _ _) (Nat.le_refl _) (by simp) ?_; (case hd => rfl); (case hg => rfl); (case hr => first | (go_simp; done) | (go_simp; rfl)); (case hp => exact (Reps.c2 (show Kd.M k69 _ _ _ (⟨0, 1⟩ : S69) [.int .i64 0, .int .i64 1] from (k69_mkM _ _ _ (⟨0, 1⟩ : S69) )) (Reps.c2 (show Kd.M k69 _ _ _ (⟨1, 2⟩ : S69) [.int .i64 1, .int .i64 2] from (k69_mkM _ _ _ (⟨1, 2⟩ : S69) )) (Reps.c2 (show Kd.M k69 _ _ _ (⟨0, 2⟩ : S69) [.int .i64 0, .int .i64 2] from (k69_mkM _ _ _ (⟨0, 2⟩ : S69) )) (Reps.none _ _))))); intro v203 w23 ho24 hb hg_ hnew_; clear hg_ hnew_; (first | rw [← Ny202.out] at ho24 | (simp only [Int.reduceToNat] at ho24; rw [← Ny202.out] at ho24)); have n0_ := Aside0.mk (Kd.R_lower ho24 (below_size bel)); have n1_ := Aside0.mk (below_step bel hb); clear HB; have HO204 := n0_; have HB := n1_; clear n0_ n1_; clear hb ho24) | ((with_reducible refine gate_dst (N := 11) rfl ?_); (try (refine gate_guard (by rfl) ?_; dsimp only)); refine Kd.R_lit k71 _ 71 ?hg (N := 11) ?hd (xs := ([(⟨0, 1⟩ : S71)] : List (S71))) (inner := [.int .i64 0, .int .i64 1]) (ok := fun _ => True) (okp := fun _ => True) ?hr ?hp (fun _ hk => hk) trivial (Below.refl _ _) (Nat.le_refl _) (by simp) ?_; (case hd => rfl); (case hg => rfl); (case hr => first | (go_simp; done) | (go_simp; rfl)); (case hp => exact (Reps.c2 (show Kd.M k71 _ _ _ (⟨0, 1⟩ : S71) [.int .i64 0, .int .i64 1] from (k71_mkM _ _ _ (⟨0, 1⟩ : S71) )) (Reps.none _ _))); intro v206 w25 ho26 hb hg_ hnew_; clear hg_ hnew_; (first | rw [← Ny205.out] at ho26 | (simp only [Int.reduceToNat] at ho26; rw [← Ny205.out] at ho26)); have n0_ := Aside0.mk (Kd.R_below (by (with_reducible repeat (first | apply Kd.R_alloc | apply Kd.R_drewN | apply Kd.R_drew)); exact HO204.out) hb); have n1_ := Aside0.mk (Kd.R_lower ho26 (below_size bel)); have n2_ := Aside0.mk (below_step bel hb); clear HO204; clear HB; have HO204 := n0_; have HO207 := n1_; have HB := n2_; clear n0_ n1_ n2_; clear hb ho26; obtain ⟨Ao27, co27, eo27⟩ := Kd.R_slice HO207.out; subst eo27; obtain ⟨Ao28, co28, eo28⟩ := Kd.R_slice HO204.out; subst eo28) | ((with_reducible refine gate_dst (N := 1) rfl ?_); (try (refine gate_guard (by rfl) ?_; dsimp only)); refine box_event ?hg (N := 1) ?hd (cs := #[.int .i64 0, .slice none 0 0, .slice none 0 0]) (t := 25) ?hr ?_; (case hd => rfl); (case hg => rfl); (case hr => first | (go_simp; done) | (go_simp; rfl)); intro gb208 hg w29 hbox hb; have n0_ := Aside0.mk (Kd.R_below (by (with_reducible repeat (first | apply Kd.R_alloc | apply Kd.R_drewN | apply Kd.R_drew)); exact HO204.out) hb); have n1_ := Aside0.mk (Kd.R_below (by (with_reducible repeat (first | apply Kd.R_alloc | apply Kd.R_drewN | apply Kd.R_drew)); exact HO207.out) hb); have n2_ := Aside0.mk (below_step bel hb); have n3_ := Aside0.mk (hbox); have n4_ := Aside0.mk ((by rw [hg]; exact (below_size bel) : w.heap.size ≤ gb208)); have n5_ := n4_; clear HO204; clear HO207; clear HB; have HO204 := n0_; have HO207 := n1_; have HB := n2_; have BK208 := n3_; have GW208 := n4_; have GE208 := n5_; clear n0_ n1_ n2_ n3_ n4_ n5_; clear hb hbox hg; have hcz30_0 := blkc BK208.out 0 (.int .i64 0) rfl; have hcz30_1 := blkc BK208.out 1 (.slice none 0 0) rfl; have hcz30_2 := blkc BK208.out 2 (.slice none 0 0) rfl; have hfz30_0 := blk_frozen BK208.out 0; have hfz30_1 := blk_frozen BK208.out 1; have hfz30_2 := blk_frozen BK208.out 2) | ((with_reducible refine gate_callee (f := 24) rfl ?_); refine goesL_ (some 15) rfl rfl Tryd.func24 (by kernel_rfl) rfl #[.agg #[.int .i64 3, .slice Ao28 y202.length co28, .slice Ao27 y205.length co27], .int .i64 7, .int .i64 2] rfl mapz ?_; (with_reducible refine (feed_Isolate.calls k 3 _ _ y202 _ _ y205 7 2 t209 t212 _ ?side1 ?side2 ?side3 ?side4 ?sideT A1.out).mono ?_); (case sideT => first | exact HT.out | exact Tab.Tabs.below HT.out bel | (with_reducible repeat (first | exact HT.out | apply Tab.Tabs.alloc | apply Tab.Tabs.drewN | apply Tab.Tabs.drew))); (case side1 => refine (Kd.R_reads' (e := 69) (base := w.heap.size) (ok := fun k_ => True) (n := y202.length) (c := co28) ?_).2.2; exact (by (with_reducible repeat (first | apply Kd.R_alloc | apply Kd.R_drewN | apply Kd.R_drew)); exact (Kd.R_mono (Kd.R_far (p := ⟨gb208, 2, none⟩) (Kd.R_far (p := ⟨gb208, 1, none⟩) (Kd.R_far (p := ⟨gb208, 0, none⟩) (Kd.R_types HO204.out BK208.out (by decide)) (fun _ hk => hk.2) (.int .i64 3)) (fun _ hk => hk.2) (.slice Ao28 y202.length co28)) (fun _ hk => hk.2) (.slice Ao27 y205.length co27)) (fun _ h_ => h_.1)))); (case side2 => exact (Kd.R_reads' HO204.out).2.1); (case side3 => refine (Kd.R_reads' (e := 71) (base := w.heap.size) (ok := fun k_ => True) (n := y205.length) (c := co27) ?_).2.2; exact (by (with_reducible repeat (first | apply Kd.R_alloc | apply Kd.R_drewN | apply Kd.R_drew)); exact (Kd.R_mono (Kd.R_far (p := ⟨gb208, 2, none⟩) (Kd.R_far (p := ⟨gb208, 1, none⟩) (Kd.R_far (p := ⟨gb208, 0, none⟩) (Kd.R_types HO207.out BK208.out (by decide)) (fun _ hk => hk.2) (.int .i64 3)) (fun _ hk => hk.2) (.slice Ao28 y202.length co28)) (fun _ hk => hk.2) (.slice Ao27 y205.length co27)) (fun _ h_ => h_.1)))); (case side4 => exact (Kd.R_reads' HO207.out).2.1); rintro e w31 ⟨v210, rfl, ho0, hb⟩; refine ⟨_, rfl, ?_⟩; have n0_ := Aside0.mk (Kd.R_below (by (with_reducible repeat (first | apply Kd.R_alloc | apply Kd.R_drewN | apply Kd.R_drew)); exact (Kd.R_mono (Kd.R_far (p := ⟨gb208, 2, none⟩) (Kd.R_far (p := ⟨gb208, 1, none⟩) (Kd.R_far (p := ⟨gb208, 0, none⟩) (Kd.R_types HO204.out BK208.out (by decide)) (fun _ hk => hk.2) (.int .i64 3)) (fun _ hk => hk.2) (.slice Ao28 y202.length co28)) (fun _ hk => hk.2) (.slice Ao27 y205.length co27)) (fun _ h_ => h_.1))) hb); have n1_ := Aside0.mk (Kd.R_below (by (with_reducible repeat (first | apply Kd.R_alloc | apply Kd.R_drewN | apply Kd.R_drew)); exact (Kd.R_mono (Kd.R_far (p := ⟨gb208, 2, none⟩) (Kd.R_far (p := ⟨gb208, 1, none⟩) (Kd.R_far (p := ⟨gb208, 0, none⟩) (Kd.R_types HO207.out BK208.out (by decide)) (fun _ hk => hk.2) (.int .i64 3)) (fun _ hk => hk.2) (.slice Ao28 y202.length co28)) (fun _ hk => hk.2) (.slice Ao27 y205.length co27)) (fun _ h_ => h_.1))) hb); have n2_ := Aside0.mk (Kd.R_lower ho0 (below_size bel)); have n3_ := Aside0.mk (blk_below (g := gb208) (o := .cells #[.int .i64 3, .slice Ao28 y202.length co28, .slice Ao27 y205.length co27] 25 (0, 0)) (by (with_reducible repeat (first | refine blk_drewN ?_ _ | refine blk_drew ?_ | refine blk_alloc ?_ _)); refine blk_put (cs := #[.int .i64 3, .slice Ao28 y202.length co28, .slice none 0 0]) ?_ 2 _ rfl; (with_reducible repeat (first | refine blk_drewN ?_ _ | refine blk_drew ?_ | refine blk_alloc ?_ _)); refine blk_put (cs := #[.int .i64 3, .slice none 0 0, .slice none 0 0]) ?_ 1 _ rfl; (with_reducible repeat (first | refine blk_drewN ?_ _ | refine blk_drew ?_ | refine blk_alloc ?_ _)); refine blk_put (cs := #[.int .i64 0, .slice none 0 0, .slice none 0 0]) ?_ 0 _ rfl; (with_reducible repeat (first | refine blk_drewN ?_ _ | refine blk_drew ?_ | refine blk_alloc ?_ _)); exact BK208.out) hb); have n4_ := Aside0.mk (below_step bel hb); clear HO204; clear HO207; clear BK208; clear HB; have HO204 := n0_; have HO207 := n1_; have HO211 := n2_; have BK208 := n3_; have HB := n4_; clear n0_ n1_ n2_ n3_ n4_; (try clear hb); (try clear hb2); (try clear hk); (try clear hi); (try clear ho0)) | ((with_reducible refine gate_dst (N := 20) rfl ?_); (try (refine gate_guard (by rfl) ?_; dsimp only)); refine Kd.R_lit k69 _ 69 ?hg (N := 20) ?hd (xs := ([(⟨0, 1⟩ : S69)] : List (S69))) (inner := [.int .i64 0, .int .i64 1]) (ok := fun _ => True) (okp := fun _ => True) ?hr ?hp (fun _ hk => hk) trivial (Below.refl _ _) (Nat.le_refl _) (by simp) ?_; (case hd => rfl); (case hg => rfl); (case hr => first | (go_simp; done) | (go_simp; rfl)); (case hp => exact (Reps.c2 (show Kd.M k69 _ _ _ (⟨0, 1⟩ : S69) [.int .i64 0, .int .i64 1] from (k69_mkM _ _ _ (⟨0, 1⟩ : S69) )) (Reps.none _ _))); intro v214 w32 ho33 hb hg_ hnew_; clear hg_ hnew_; (first | rw [← Ny213.out] at ho33 | (simp only [Int.reduceToNat] at ho33; rw [← Ny213.out] at ho33)); have n0_ := Aside0.mk (Kd.R_elder' (by (with_reducible repeat (first | apply Kd.R_alloc | apply Kd.R_drewN | apply Kd.R_drew)); exact HO204.out) (Kd.R_base ho33) hb); have n1_ := Aside0.mk (Kd.R_below (by (with_reducible repeat (first | apply Kd.R_alloc | apply Kd.R_drewN | apply Kd.R_drew)); exact HO207.out) hb); have n2_ := Aside0.mk (Kd.R_below (by (with_reducible repeat (first | apply Kd.R_alloc | apply Kd.R_drewN | apply Kd.R_drew)); exact HO211.out) hb); have n3_ := Aside0.mk (Kd.R_lower (Kd.R_new' ho33 (Kd.R_lt (by (with_reducible repeat (first | apply Kd.R_alloc | apply Kd.R_drewN | apply Kd.R_drew)); exact HO204.out))) (below_size bel)); have n4_ := Aside0.mk (blk_below (g := gb208) blkz hb); have n5_ := Aside0.mk (below_step bel hb); clear HO204; clear HO207; clear HO211; clear BK208; clear HB; have HO204 := n0_; have HO207 := n1_; have HO211 := n2_; have HO215 := n3_; have BK208 := n4_; have HB := n5_; clear n0_ n1_ n2_ n3_ n4_ n5_; clear hb ho33) | ((with_reducible refine gate_dst (N := 23) rfl ?_); (try (refine gate_guard (by rfl) ?_; dsimp only)); refine Kd.R_lit k71 _ 71 ?hg (N := 23) ?hd (xs := ([(⟨0, 1⟩ : S71), (⟨1, 2⟩ : S71)] : List (S71))) (inner := [.int .i64 0, .int .i64 1, .int .i64 1, .int .i64 2]) (ok := fun _ => True) (okp := fun _ => True) ?hr ?hp (fun _ hk => hk) trivial (Below.refl _ _) (Nat.le_refl _) (by simp) ?_; (case hd => rfl); (case hg => rfl); (case hr => first | (go_simp; done) | (go_simp; rfl)); (case hp => exact (Reps.c2 (show Kd.M k71 _ _ _ (⟨0, 1⟩ : S71) [.int .i64 0, .int .i64 1] from (k71_mkM _ _ _ (⟨0, 1⟩ : S71) )) (Reps.c2 (show Kd.M k71 _ _ _ (⟨1, 2⟩ : S71) [.int .i64 1, .int .i64 2] from (k71_mkM _ _ _ (⟨1, 2⟩ : S71) )) (Reps.none _ _)))); intro v217 w34 ho35 hb hg_ hnew_; clear hg_ hnew_; (first | rw [← Ny216.out] at ho35 | (simp only [Int.reduceToNat] at ho35; rw [← Ny216.out] at ho35)); have n0_ := Aside0.mk (Kd.R_below (by (with_reducible repeat (first | apply Kd.R_alloc | apply Kd.R_drewN | apply Kd.R_drew)); exact HO204.out) hb); have n1_ := Aside0.mk (Kd.R_elder' (by (with_reducible repeat (first | apply Kd.R_alloc | apply Kd.R_drewN | apply Kd.R_drew)); exact HO207.out) (Kd.R_base ho35) hb); have n2_ := Aside0.mk (Kd.R_below (by (with_reducible repeat (first | apply Kd.R_alloc | apply Kd.R_drewN | apply Kd.R_drew)); exact HO211.out) hb); have n3_ := Aside0.mk (Kd.R_below (by (with_reducible repeat (first | apply Kd.R_alloc | apply Kd.R_drewN | apply Kd.R_drew)); exact HO215.out) hb); have n4_ := Aside0.mk (Kd.R_lower (Kd.R_new' ho35 (Kd.R_lt (by (with_reducible repeat (first | apply Kd.R_alloc | apply Kd.R_drewN | apply Kd.R_drew)); exact HO207.out))) (below_size bel)); have n5_ := Aside0.mk (blk_below (g := gb208) blkz hb); have n6_ := Aside0.mk (below_step bel hb); clear HO204; clear HO207; clear HO211; clear HO215; clear BK208; clear HB; have HO204 := n0_; have HO207 := n1_; have HO211 := n2_; have HO215 := n3_; have HO218 := n4_; have BK208 := n5_; have HB := n6_; clear n0_ n1_ n2_ n3_ n4_ n5_ n6_; clear hb ho35; obtain ⟨Ao36, co36, eo36⟩ := Kd.R_slice HO218.out; subst eo36; obtain ⟨Ao37, co37, eo37⟩ := Kd.R_slice HO215.out; subst eo37) | ((with_reducible refine gate_callee (f := 17) rfl ?_); refine goesL_ (some 25) rfl rfl Tryd.func17 (by kernel_rfl) rfl #[.agg #[.int .i64 2, .slice Ao37 y213.length co37, .slice Ao36 y216.length co36]] rfl mapz ?_; (with_reducible refine (feed_States.calls k 2 _ _ y213 _ _ y216 t219 t220 _ ?side1 ?side2 ?side3 ?side4 ?sideT A2.out).mono ?_); (case sideT => first | exact HT.out | exact Tab.Tabs.below HT.out bel | (with_reducible repeat (first | exact HT.out | apply Tab.Tabs.alloc | apply Tab.Tabs.drewN | apply Tab.Tabs.drew))); (case side1 => repeat (first | exact (Kd.R_reads' HO215.out).2.2 | (with_reducible refine Kd.C_alloc ?_ _) | (with_reducible refine Kd.C_drewN ?_ _) | (with_reducible refine Kd.C_drew ?_))); (case side2 => exact (Kd.R_reads' HO215.out).2.1); (case side3 => repeat (first | exact (Kd.R_reads' HO218.out).2.2 | (with_reducible refine Kd.C_alloc ?_ _) | (with_reducible refine Kd.C_drewN ?_ _) | (with_reducible refine Kd.C_drew ?_))); (case side4 => exact (Kd.R_reads' HO218.out).2.1); rintro e w38 ⟨rfl, hb⟩; refine ⟨_, rfl, ?_⟩; have n0_ := Aside0.mk (Kd.R_below (by (with_reducible repeat (first | apply Kd.R_alloc | apply Kd.R_drewN | apply Kd.R_drew)); exact HO204.out) hb); have n1_ := Aside0.mk (Kd.R_below (by (with_reducible repeat (first | apply Kd.R_alloc | apply Kd.R_drewN | apply Kd.R_drew)); exact HO207.out) hb); have n2_ := Aside0.mk (Kd.R_below (by (with_reducible repeat (first | apply Kd.R_alloc | apply Kd.R_drewN | apply Kd.R_drew)); exact HO211.out) hb); have n3_ := Aside0.mk (Kd.R_below (by (with_reducible repeat (first | apply Kd.R_alloc | apply Kd.R_drewN | apply Kd.R_drew)); exact HO215.out) hb); have n4_ := Aside0.mk (Kd.R_below (by (with_reducible repeat (first | apply Kd.R_alloc | apply Kd.R_drewN | apply Kd.R_drew)); exact HO218.out) hb); have n5_ := Aside0.mk (blk_below (g := gb208) blkz hb); have n6_ := Aside0.mk (below_step bel hb); clear HO204; clear HO207; clear HO211; clear HO215; clear HO218; clear BK208; clear HB; have HO204 := n0_; have HO207 := n1_; have HO211 := n2_; have HO215 := n3_; have HO218 := n4_; have BK208 := n5_; have HB := n6_; clear n0_ n1_ n2_ n3_ n4_ n5_ n6_; (try clear hb); (try clear hb2); (try clear hk); (try clear hi); obtain ⟨Ao39, co39, eo39⟩ := Kd.R_slice HO211.out; subst eo39))
    go_ret
    exact ⟨by first | rfl | (simp [errW_none, errW_some] <;> rfl) | (simp [*, errW_none, errW_some] <;> rfl), by repeat (first | (with_reducible first | exact HB.out | apply below_alloc | apply pw_below_drewN | apply below_drew1 | refine below_set ?_ GE208.out) | exact HB.out)⟩
  ·
   rw [if_neg c4] at H
   have c4b0 : (t220 == 0) = false := beq_eq_false_iff_ne.mpr c4
   have c4b1 : (t220 != 0) = true := bne_iff_ne.mpr c4
   obtain rfl := Option.some.inj H
   go_enter Tryd.func12, Tryd.ntmps12
   go_wp2_with (first | ((with_reducible refine gate_dst (N := 9) rfl ?_); (try (refine gate_guard (by rfl) ?_; dsimp only)); refine Kd.R_lit k69 _ 69 ?hg (N := 9) ?hd (xs := ([(⟨0, 1⟩ : S69), (⟨1, 2⟩ : S69), (⟨0, 2⟩ : S69)] : List (S69))) (inner := [.int .i64 0, .int .i64 1, .int .i64 1, .int .i64 2, .int .i64 0, .int .i64 2]) (ok := fun _ => True) (okp := fun _ => True) ?hr ?hp (fun _ hk => hk) trivial (Below.refl _ _) (Nat.le_refl _) (by simp) ?_; (case hd => rfl); (case hg => rfl); (case hr => first | (go_simp; done) | (go_simp; rfl)); (case hp => exact (Reps.c2 (show Kd.M k69 _ _ _ (⟨0, 1⟩ : S69) [.int .i64 0, .int .i64 1] from (k69_mkM _ _ _ (⟨0, 1⟩ : S69) )) (Reps.c2 (show Kd.M k69 _ _ _ (⟨1, 2⟩ : S69) [.int .i64 1, .int .i64 2] from (k69_mkM _ _ _ (⟨1, 2⟩ : S69) )) (Reps.c2 (show Kd.M k69 _ _ _ (⟨0, 2⟩ : S69) [.int .i64 0, .int .i64 2] from (k69_mkM _ _ _ (⟨0, 2⟩ : S69) )) (Reps.none _ _))))); intro v203 w40 ho41 hb hg_ hnew_; clear hg_ hnew_; (first | rw [← Ny202.out] at ho41 | (simp only [Int.reduceToNat] at ho41; rw [← Ny202.out] at ho41)); have n0_ := Aside0.mk (Kd.R_lower ho41 (below_size bel)); have n1_ := Aside0.mk (below_step bel hb); clear HB; have HO204 := n0_; have HB := n1_; clear n0_ n1_; clear hb ho41) | ((with_reducible refine gate_dst (N := 11) rfl ?_); (try (refine gate_guard (by rfl) ?_; dsimp only)); refine Kd.R_lit k71 _ 71 ?hg (N := 11) ?hd (xs := ([(⟨0, 1⟩ : S71)] : List (S71))) (inner := [.int .i64 0, .int .i64 1]) (ok := fun _ => True) (okp := fun _ => True) ?hr ?hp (fun _ hk => hk) trivial (Below.refl _ _) (Nat.le_refl _) (by simp) ?_; (case hd => rfl); (case hg => rfl); (case hr => first | (go_simp; done) | (go_simp; rfl)); (case hp => exact (Reps.c2 (show Kd.M k71 _ _ _ (⟨0, 1⟩ : S71) [.int .i64 0, .int .i64 1] from (k71_mkM _ _ _ (⟨0, 1⟩ : S71) )) (Reps.none _ _))); intro v206 w42 ho43 hb hg_ hnew_; clear hg_ hnew_; (first | rw [← Ny205.out] at ho43 | (simp only [Int.reduceToNat] at ho43; rw [← Ny205.out] at ho43)); have n0_ := Aside0.mk (Kd.R_below (by (with_reducible repeat (first | apply Kd.R_alloc | apply Kd.R_drewN | apply Kd.R_drew)); exact HO204.out) hb); have n1_ := Aside0.mk (Kd.R_lower ho43 (below_size bel)); have n2_ := Aside0.mk (below_step bel hb); clear HO204; clear HB; have HO204 := n0_; have HO207 := n1_; have HB := n2_; clear n0_ n1_ n2_; clear hb ho43; obtain ⟨Ao44, co44, eo44⟩ := Kd.R_slice HO207.out; subst eo44; obtain ⟨Ao45, co45, eo45⟩ := Kd.R_slice HO204.out; subst eo45) | ((with_reducible refine gate_dst (N := 1) rfl ?_); (try (refine gate_guard (by rfl) ?_; dsimp only)); refine box_event ?hg (N := 1) ?hd (cs := #[.int .i64 0, .slice none 0 0, .slice none 0 0]) (t := 25) ?hr ?_; (case hd => rfl); (case hg => rfl); (case hr => first | (go_simp; done) | (go_simp; rfl)); intro gb208 hg w46 hbox hb; have n0_ := Aside0.mk (Kd.R_below (by (with_reducible repeat (first | apply Kd.R_alloc | apply Kd.R_drewN | apply Kd.R_drew)); exact HO204.out) hb); have n1_ := Aside0.mk (Kd.R_below (by (with_reducible repeat (first | apply Kd.R_alloc | apply Kd.R_drewN | apply Kd.R_drew)); exact HO207.out) hb); have n2_ := Aside0.mk (below_step bel hb); have n3_ := Aside0.mk (hbox); have n4_ := Aside0.mk ((by rw [hg]; exact (below_size bel) : w.heap.size ≤ gb208)); have n5_ := n4_; clear HO204; clear HO207; clear HB; have HO204 := n0_; have HO207 := n1_; have HB := n2_; have BK208 := n3_; have GW208 := n4_; have GE208 := n5_; clear n0_ n1_ n2_ n3_ n4_ n5_; clear hb hbox hg; have hcz47_0 := blkc BK208.out 0 (.int .i64 0) rfl; have hcz47_1 := blkc BK208.out 1 (.slice none 0 0) rfl; have hcz47_2 := blkc BK208.out 2 (.slice none 0 0) rfl; have hfz47_0 := blk_frozen BK208.out 0; have hfz47_1 := blk_frozen BK208.out 1; have hfz47_2 := blk_frozen BK208.out 2) | ((with_reducible refine gate_callee (f := 24) rfl ?_); refine goesL_ (some 15) rfl rfl Tryd.func24 (by kernel_rfl) rfl #[.agg #[.int .i64 3, .slice Ao45 y202.length co45, .slice Ao44 y205.length co44], .int .i64 7, .int .i64 2] rfl mapz ?_; (with_reducible refine (feed_Isolate.calls k 3 _ _ y202 _ _ y205 7 2 t209 t212 _ ?side1 ?side2 ?side3 ?side4 ?sideT A1.out).mono ?_); (case sideT => first | exact HT.out | exact Tab.Tabs.below HT.out bel | (with_reducible repeat (first | exact HT.out | apply Tab.Tabs.alloc | apply Tab.Tabs.drewN | apply Tab.Tabs.drew))); (case side1 => refine (Kd.R_reads' (e := 69) (base := w.heap.size) (ok := fun k_ => True) (n := y202.length) (c := co45) ?_).2.2; exact (by (with_reducible repeat (first | apply Kd.R_alloc | apply Kd.R_drewN | apply Kd.R_drew)); exact (Kd.R_mono (Kd.R_far (p := ⟨gb208, 2, none⟩) (Kd.R_far (p := ⟨gb208, 1, none⟩) (Kd.R_far (p := ⟨gb208, 0, none⟩) (Kd.R_types HO204.out BK208.out (by decide)) (fun _ hk => hk.2) (.int .i64 3)) (fun _ hk => hk.2) (.slice Ao45 y202.length co45)) (fun _ hk => hk.2) (.slice Ao44 y205.length co44)) (fun _ h_ => h_.1)))); (case side2 => exact (Kd.R_reads' HO204.out).2.1); (case side3 => refine (Kd.R_reads' (e := 71) (base := w.heap.size) (ok := fun k_ => True) (n := y205.length) (c := co44) ?_).2.2; exact (by (with_reducible repeat (first | apply Kd.R_alloc | apply Kd.R_drewN | apply Kd.R_drew)); exact (Kd.R_mono (Kd.R_far (p := ⟨gb208, 2, none⟩) (Kd.R_far (p := ⟨gb208, 1, none⟩) (Kd.R_far (p := ⟨gb208, 0, none⟩) (Kd.R_types HO207.out BK208.out (by decide)) (fun _ hk => hk.2) (.int .i64 3)) (fun _ hk => hk.2) (.slice Ao45 y202.length co45)) (fun _ hk => hk.2) (.slice Ao44 y205.length co44)) (fun _ h_ => h_.1)))); (case side4 => exact (Kd.R_reads' HO207.out).2.1); rintro e w48 ⟨v210, rfl, ho0, hb⟩; refine ⟨_, rfl, ?_⟩; have n0_ := Aside0.mk (Kd.R_below (by (with_reducible repeat (first | apply Kd.R_alloc | apply Kd.R_drewN | apply Kd.R_drew)); exact (Kd.R_mono (Kd.R_far (p := ⟨gb208, 2, none⟩) (Kd.R_far (p := ⟨gb208, 1, none⟩) (Kd.R_far (p := ⟨gb208, 0, none⟩) (Kd.R_types HO204.out BK208.out (by decide)) (fun _ hk => hk.2) (.int .i64 3)) (fun _ hk => hk.2) (.slice Ao45 y202.length co45)) (fun _ hk => hk.2) (.slice Ao44 y205.length co44)) (fun _ h_ => h_.1))) hb); have n1_ := Aside0.mk (Kd.R_below (by (with_reducible repeat (first | apply Kd.R_alloc | apply Kd.R_drewN | apply Kd.R_drew)); exact (Kd.R_mono (Kd.R_far (p := ⟨gb208, 2, none⟩) (Kd.R_far (p := ⟨gb208, 1, none⟩) (Kd.R_far (p := ⟨gb208, 0, none⟩) (Kd.R_types HO207.out BK208.out (by decide)) (fun _ hk => hk.2) (.int .i64 3)) (fun _ hk => hk.2) (.slice Ao45 y202.length co45)) (fun _ hk => hk.2) (.slice Ao44 y205.length co44)) (fun _ h_ => h_.1))) hb); have n2_ := Aside0.mk (Kd.R_lower ho0 (below_size bel)); have n3_ := Aside0.mk (blk_below (g := gb208) (o := .cells #[.int .i64 3, .slice Ao45 y202.length co45, .slice Ao44 y205.length co44] 25 (0, 0)) (by (with_reducible repeat (first | refine blk_drewN ?_ _ | refine blk_drew ?_ | refine blk_alloc ?_ _)); refine blk_put (cs := #[.int .i64 3, .slice Ao45 y202.length co45, .slice none 0 0]) ?_ 2 _ rfl; (with_reducible repeat (first | refine blk_drewN ?_ _ | refine blk_drew ?_ | refine blk_alloc ?_ _)); refine blk_put (cs := #[.int .i64 3, .slice none 0 0, .slice none 0 0]) ?_ 1 _ rfl; (with_reducible repeat (first | refine blk_drewN ?_ _ | refine blk_drew ?_ | refine blk_alloc ?_ _)); refine blk_put (cs := #[.int .i64 0, .slice none 0 0, .slice none 0 0]) ?_ 0 _ rfl; (with_reducible repeat (first | refine blk_drewN ?_ _ | refine blk_drew ?_ | refine blk_alloc ?_ _)); exact BK208.out) hb); have n4_ := Aside0.mk (below_step bel hb); clear HO204; clear HO207; clear BK208; clear HB; have HO204 := n0_; have HO207 := n1_; have HO211 := n2_; have BK208 := n3_; have HB := n4_; clear n0_ n1_ n2_ n3_ n4_; (try clear hb); (try clear hb2); (try clear hk); (try clear hi); (try clear ho0)) | ((with_reducible refine gate_dst (N := 20) rfl ?_); (try (refine gate_guard (by rfl) ?_; dsimp only)); refine Kd.R_lit k69 _ 69 ?hg (N := 20) ?hd (xs := ([(⟨0, 1⟩ : S69)] : List (S69))) (inner := [.int .i64 0, .int .i64 1]) (ok := fun _ => True) (okp := fun _ => True) ?hr ?hp (fun _ hk => hk) trivial (Below.refl _ _) (Nat.le_refl _) (by simp) ?_; (case hd => rfl); (case hg => rfl); (case hr => first | (go_simp; done) | (go_simp; rfl)); (case hp => exact (Reps.c2 (show Kd.M k69 _ _ _ (⟨0, 1⟩ : S69) [.int .i64 0, .int .i64 1] from (k69_mkM _ _ _ (⟨0, 1⟩ : S69) )) (Reps.none _ _))); intro v214 w49 ho50 hb hg_ hnew_; clear hg_ hnew_; (first | rw [← Ny213.out] at ho50 | (simp only [Int.reduceToNat] at ho50; rw [← Ny213.out] at ho50)); have n0_ := Aside0.mk (Kd.R_elder' (by (with_reducible repeat (first | apply Kd.R_alloc | apply Kd.R_drewN | apply Kd.R_drew)); exact HO204.out) (Kd.R_base ho50) hb); have n1_ := Aside0.mk (Kd.R_below (by (with_reducible repeat (first | apply Kd.R_alloc | apply Kd.R_drewN | apply Kd.R_drew)); exact HO207.out) hb); have n2_ := Aside0.mk (Kd.R_below (by (with_reducible repeat (first | apply Kd.R_alloc | apply Kd.R_drewN | apply Kd.R_drew)); exact HO211.out) hb); have n3_ := Aside0.mk (Kd.R_lower (Kd.R_new' ho50 (Kd.R_lt (by (with_reducible repeat (first | apply Kd.R_alloc | apply Kd.R_drewN | apply Kd.R_drew)); exact HO204.out))) (below_size bel)); have n4_ := Aside0.mk (blk_below (g := gb208) blkz hb); have n5_ := Aside0.mk (below_step bel hb); clear HO204; clear HO207; clear HO211; clear BK208; clear HB; have HO204 := n0_; have HO207 := n1_; have HO211 := n2_; have HO215 := n3_; have BK208 := n4_; have HB := n5_; clear n0_ n1_ n2_ n3_ n4_ n5_; clear hb ho50) | ((with_reducible refine gate_dst (N := 23) rfl ?_); (try (refine gate_guard (by rfl) ?_; dsimp only)); refine Kd.R_lit k71 _ 71 ?hg (N := 23) ?hd (xs := ([(⟨0, 1⟩ : S71), (⟨1, 2⟩ : S71)] : List (S71))) (inner := [.int .i64 0, .int .i64 1, .int .i64 1, .int .i64 2]) (ok := fun _ => True) (okp := fun _ => True) ?hr ?hp (fun _ hk => hk) trivial (Below.refl _ _) (Nat.le_refl _) (by simp) ?_; (case hd => rfl); (case hg => rfl); (case hr => first | (go_simp; done) | (go_simp; rfl)); (case hp => exact (Reps.c2 (show Kd.M k71 _ _ _ (⟨0, 1⟩ : S71) [.int .i64 0, .int .i64 1] from (k71_mkM _ _ _ (⟨0, 1⟩ : S71) )) (Reps.c2 (show Kd.M k71 _ _ _ (⟨1, 2⟩ : S71) [.int .i64 1, .int .i64 2] from (k71_mkM _ _ _ (⟨1, 2⟩ : S71) )) (Reps.none _ _)))); intro v217 w51 ho52 hb hg_ hnew_; clear hg_ hnew_; (first | rw [← Ny216.out] at ho52 | (simp only [Int.reduceToNat] at ho52; rw [← Ny216.out] at ho52)); have n0_ := Aside0.mk (Kd.R_below (by (with_reducible repeat (first | apply Kd.R_alloc | apply Kd.R_drewN | apply Kd.R_drew)); exact HO204.out) hb); have n1_ := Aside0.mk (Kd.R_elder' (by (with_reducible repeat (first | apply Kd.R_alloc | apply Kd.R_drewN | apply Kd.R_drew)); exact HO207.out) (Kd.R_base ho52) hb); have n2_ := Aside0.mk (Kd.R_below (by (with_reducible repeat (first | apply Kd.R_alloc | apply Kd.R_drewN | apply Kd.R_drew)); exact HO211.out) hb); have n3_ := Aside0.mk (Kd.R_below (by (with_reducible repeat (first | apply Kd.R_alloc | apply Kd.R_drewN | apply Kd.R_drew)); exact HO215.out) hb); have n4_ := Aside0.mk (Kd.R_lower (Kd.R_new' ho52 (Kd.R_lt (by (with_reducible repeat (first | apply Kd.R_alloc | apply Kd.R_drewN | apply Kd.R_drew)); exact HO207.out))) (below_size bel)); have n5_ := Aside0.mk (blk_below (g := gb208) blkz hb); have n6_ := Aside0.mk (below_step bel hb); clear HO204; clear HO207; clear HO211; clear HO215; clear BK208; clear HB; have HO204 := n0_; have HO207 := n1_; have HO211 := n2_; have HO215 := n3_; have HO218 := n4_; have BK208 := n5_; have HB := n6_; clear n0_ n1_ n2_ n3_ n4_ n5_ n6_; clear hb ho52; obtain ⟨Ao53, co53, eo53⟩ := Kd.R_slice HO218.out; subst eo53; obtain ⟨Ao54, co54, eo54⟩ := Kd.R_slice HO215.out; subst eo54) | ((with_reducible refine gate_callee (f := 17) rfl ?_); refine goesL_ (some 25) rfl rfl Tryd.func17 (by kernel_rfl) rfl #[.agg #[.int .i64 2, .slice Ao54 y213.length co54, .slice Ao53 y216.length co53]] rfl mapz ?_; (with_reducible refine (feed_States.calls k 2 _ _ y213 _ _ y216 t219 t220 _ ?side1 ?side2 ?side3 ?side4 ?sideT A2.out).mono ?_); (case sideT => first | exact HT.out | exact Tab.Tabs.below HT.out bel | (with_reducible repeat (first | exact HT.out | apply Tab.Tabs.alloc | apply Tab.Tabs.drewN | apply Tab.Tabs.drew))); (case side1 => repeat (first | exact (Kd.R_reads' HO215.out).2.2 | (with_reducible refine Kd.C_alloc ?_ _) | (with_reducible refine Kd.C_drewN ?_ _) | (with_reducible refine Kd.C_drew ?_))); (case side2 => exact (Kd.R_reads' HO215.out).2.1); (case side3 => repeat (first | exact (Kd.R_reads' HO218.out).2.2 | (with_reducible refine Kd.C_alloc ?_ _) | (with_reducible refine Kd.C_drewN ?_ _) | (with_reducible refine Kd.C_drew ?_))); (case side4 => exact (Kd.R_reads' HO218.out).2.1); rintro e w55 ⟨rfl, hb⟩; refine ⟨_, rfl, ?_⟩; have n0_ := Aside0.mk (Kd.R_below (by (with_reducible repeat (first | apply Kd.R_alloc | apply Kd.R_drewN | apply Kd.R_drew)); exact HO204.out) hb); have n1_ := Aside0.mk (Kd.R_below (by (with_reducible repeat (first | apply Kd.R_alloc | apply Kd.R_drewN | apply Kd.R_drew)); exact HO207.out) hb); have n2_ := Aside0.mk (Kd.R_below (by (with_reducible repeat (first | apply Kd.R_alloc | apply Kd.R_drewN | apply Kd.R_drew)); exact HO211.out) hb); have n3_ := Aside0.mk (Kd.R_below (by (with_reducible repeat (first | apply Kd.R_alloc | apply Kd.R_drewN | apply Kd.R_drew)); exact HO215.out) hb); have n4_ := Aside0.mk (Kd.R_below (by (with_reducible repeat (first | apply Kd.R_alloc | apply Kd.R_drewN | apply Kd.R_drew)); exact HO218.out) hb); have n5_ := Aside0.mk (blk_below (g := gb208) blkz hb); have n6_ := Aside0.mk (below_step bel hb); clear HO204; clear HO207; clear HO211; clear HO215; clear HO218; clear BK208; clear HB; have HO204 := n0_; have HO207 := n1_; have HO211 := n2_; have HO215 := n3_; have HO218 := n4_; have BK208 := n5_; have HB := n6_; clear n0_ n1_ n2_ n3_ n4_ n5_ n6_; (try clear hb); (try clear hb2); (try clear hk); (try clear hi)))
   go_ret
   exact ⟨by first | rfl | (simp [errW_none, errW_some] <;> rfl) | (simp [*, errW_none, errW_some] <;> rfl), by repeat (first | (with_reducible first | exact HB.out | apply below_alloc | apply pw_below_drewN | apply below_drew1 | refine below_set ?_ GE208.out) | exact HB.out)⟩
 ·
  rw [if_neg c3] at H
  have c3b0 : (t212 == 0) = false := beq_eq_false_iff_ne.mpr c3
  have c3b1 : (t212 != 0) = true := bne_iff_ne.mpr c3
  obtain rfl := Option.some.inj H
  go_enter Tryd.func12, Tryd.ntmps12
  go_wp2_with (first | ((with_reducible refine gate_dst (N := 9) rfl ?_); (try (refine gate_guard (by rfl) ?_; dsimp only)); refine Kd.R_lit k69 _ 69 ?hg (N := 9) ?hd (xs := ([(⟨0, 1⟩ : S69), (⟨1, 2⟩ : S69), (⟨0, 2⟩ : S69)] : List (S69))) (inner := [.int .i64 0, .int .i64 1, .int .i64 1, .int .i64 2, .int .i64 0, .int .i64 2]) (ok := fun _ => True) (okp := fun _ => True) ?hr ?hp (fun _ hk => hk) trivial (Below.refl _ _) (Nat.le_refl _) (by simp) ?_; (case hd => rfl); (case hg => rfl); (case hr => first | (go_simp; done) | (go_simp; rfl)); (case hp => exact (Reps.c2 (show Kd.M k69 _ _ _ (⟨0, 1⟩ : S69) [.int .i64 0, .int .i64 1] from (k69_mkM _ _ _ (⟨0, 1⟩ : S69) )) (Reps.c2 (show Kd.M k69 _ _ _ (⟨1, 2⟩ : S69) [.int .i64 1, .int .i64 2] from (k69_mkM _ _ _ (⟨1, 2⟩ : S69) )) (Reps.c2 (show Kd.M k69 _ _ _ (⟨0, 2⟩ : S69) [.int .i64 0, .int .i64 2] from (k69_mkM _ _ _ (⟨0, 2⟩ : S69) )) (Reps.none _ _))))); intro v203 w56 ho57 hb hg_ hnew_; clear hg_ hnew_; (first | rw [← Ny202.out] at ho57 | (simp only [Int.reduceToNat] at ho57; rw [← Ny202.out] at ho57)); have n0_ := Aside0.mk (Kd.R_lower ho57 (below_size bel)); have n1_ := Aside0.mk (below_step bel hb); clear HB; have HO204 := n0_; have HB := n1_; clear n0_ n1_; clear hb ho57) | ((with_reducible refine gate_dst (N := 11) rfl ?_); (try (refine gate_guard (by rfl) ?_; dsimp only)); refine Kd.R_lit k71 _ 71 ?hg (N := 11) ?hd (xs := ([(⟨0, 1⟩ : S71)] : List (S71))) (inner := [.int .i64 0, .int .i64 1]) (ok := fun _ => True) (okp := fun _ => True) ?hr ?hp (fun _ hk => hk) trivial (Below.refl _ _) (Nat.le_refl _) (by simp) ?_; (case hd => rfl); (case hg => rfl); (case hr => first | (go_simp; done) | (go_simp; rfl)); (case hp => exact (Reps.c2 (show Kd.M k71 _ _ _ (⟨0, 1⟩ : S71) [.int .i64 0, .int .i64 1] from (k71_mkM _ _ _ (⟨0, 1⟩ : S71) )) (Reps.none _ _))); intro v206 w58 ho59 hb hg_ hnew_; clear hg_ hnew_; (first | rw [← Ny205.out] at ho59 | (simp only [Int.reduceToNat] at ho59; rw [← Ny205.out] at ho59)); have n0_ := Aside0.mk (Kd.R_below (by (with_reducible repeat (first | apply Kd.R_alloc | apply Kd.R_drewN | apply Kd.R_drew)); exact HO204.out) hb); have n1_ := Aside0.mk (Kd.R_lower ho59 (below_size bel)); have n2_ := Aside0.mk (below_step bel hb); clear HO204; clear HB; have HO204 := n0_; have HO207 := n1_; have HB := n2_; clear n0_ n1_ n2_; clear hb ho59; obtain ⟨Ao60, co60, eo60⟩ := Kd.R_slice HO207.out; subst eo60; obtain ⟨Ao61, co61, eo61⟩ := Kd.R_slice HO204.out; subst eo61) | ((with_reducible refine gate_dst (N := 1) rfl ?_); (try (refine gate_guard (by rfl) ?_; dsimp only)); refine box_event ?hg (N := 1) ?hd (cs := #[.int .i64 0, .slice none 0 0, .slice none 0 0]) (t := 25) ?hr ?_; (case hd => rfl); (case hg => rfl); (case hr => first | (go_simp; done) | (go_simp; rfl)); intro gb208 hg w62 hbox hb; have n0_ := Aside0.mk (Kd.R_below (by (with_reducible repeat (first | apply Kd.R_alloc | apply Kd.R_drewN | apply Kd.R_drew)); exact HO204.out) hb); have n1_ := Aside0.mk (Kd.R_below (by (with_reducible repeat (first | apply Kd.R_alloc | apply Kd.R_drewN | apply Kd.R_drew)); exact HO207.out) hb); have n2_ := Aside0.mk (below_step bel hb); have n3_ := Aside0.mk (hbox); have n4_ := Aside0.mk ((by rw [hg]; exact (below_size bel) : w.heap.size ≤ gb208)); have n5_ := n4_; clear HO204; clear HO207; clear HB; have HO204 := n0_; have HO207 := n1_; have HB := n2_; have BK208 := n3_; have GW208 := n4_; have GE208 := n5_; clear n0_ n1_ n2_ n3_ n4_ n5_; clear hb hbox hg; have hcz63_0 := blkc BK208.out 0 (.int .i64 0) rfl; have hcz63_1 := blkc BK208.out 1 (.slice none 0 0) rfl; have hcz63_2 := blkc BK208.out 2 (.slice none 0 0) rfl; have hfz63_0 := blk_frozen BK208.out 0; have hfz63_1 := blk_frozen BK208.out 1; have hfz63_2 := blk_frozen BK208.out 2) | ((with_reducible refine gate_callee (f := 24) rfl ?_); refine goesL_ (some 15) rfl rfl Tryd.func24 (by kernel_rfl) rfl #[.agg #[.int .i64 3, .slice Ao61 y202.length co61, .slice Ao60 y205.length co60], .int .i64 7, .int .i64 2] rfl mapz ?_; (with_reducible refine (feed_Isolate.calls k 3 _ _ y202 _ _ y205 7 2 t209 t212 _ ?side1 ?side2 ?side3 ?side4 ?sideT A1.out).mono ?_); (case sideT => first | exact HT.out | exact Tab.Tabs.below HT.out bel | (with_reducible repeat (first | exact HT.out | apply Tab.Tabs.alloc | apply Tab.Tabs.drewN | apply Tab.Tabs.drew))); (case side1 => refine (Kd.R_reads' (e := 69) (base := w.heap.size) (ok := fun k_ => True) (n := y202.length) (c := co61) ?_).2.2; exact (by (with_reducible repeat (first | apply Kd.R_alloc | apply Kd.R_drewN | apply Kd.R_drew)); exact (Kd.R_mono (Kd.R_far (p := ⟨gb208, 2, none⟩) (Kd.R_far (p := ⟨gb208, 1, none⟩) (Kd.R_far (p := ⟨gb208, 0, none⟩) (Kd.R_types HO204.out BK208.out (by decide)) (fun _ hk => hk.2) (.int .i64 3)) (fun _ hk => hk.2) (.slice Ao61 y202.length co61)) (fun _ hk => hk.2) (.slice Ao60 y205.length co60)) (fun _ h_ => h_.1)))); (case side2 => exact (Kd.R_reads' HO204.out).2.1); (case side3 => refine (Kd.R_reads' (e := 71) (base := w.heap.size) (ok := fun k_ => True) (n := y205.length) (c := co60) ?_).2.2; exact (by (with_reducible repeat (first | apply Kd.R_alloc | apply Kd.R_drewN | apply Kd.R_drew)); exact (Kd.R_mono (Kd.R_far (p := ⟨gb208, 2, none⟩) (Kd.R_far (p := ⟨gb208, 1, none⟩) (Kd.R_far (p := ⟨gb208, 0, none⟩) (Kd.R_types HO207.out BK208.out (by decide)) (fun _ hk => hk.2) (.int .i64 3)) (fun _ hk => hk.2) (.slice Ao61 y202.length co61)) (fun _ hk => hk.2) (.slice Ao60 y205.length co60)) (fun _ h_ => h_.1)))); (case side4 => exact (Kd.R_reads' HO207.out).2.1); rintro e w64 ⟨v210, rfl, ho0, hb⟩; refine ⟨_, rfl, ?_⟩; have n0_ := Aside0.mk (Kd.R_below (by (with_reducible repeat (first | apply Kd.R_alloc | apply Kd.R_drewN | apply Kd.R_drew)); exact (Kd.R_mono (Kd.R_far (p := ⟨gb208, 2, none⟩) (Kd.R_far (p := ⟨gb208, 1, none⟩) (Kd.R_far (p := ⟨gb208, 0, none⟩) (Kd.R_types HO204.out BK208.out (by decide)) (fun _ hk => hk.2) (.int .i64 3)) (fun _ hk => hk.2) (.slice Ao61 y202.length co61)) (fun _ hk => hk.2) (.slice Ao60 y205.length co60)) (fun _ h_ => h_.1))) hb); have n1_ := Aside0.mk (Kd.R_below (by (with_reducible repeat (first | apply Kd.R_alloc | apply Kd.R_drewN | apply Kd.R_drew)); exact (Kd.R_mono (Kd.R_far (p := ⟨gb208, 2, none⟩) (Kd.R_far (p := ⟨gb208, 1, none⟩) (Kd.R_far (p := ⟨gb208, 0, none⟩) (Kd.R_types HO207.out BK208.out (by decide)) (fun _ hk => hk.2) (.int .i64 3)) (fun _ hk => hk.2) (.slice Ao61 y202.length co61)) (fun _ hk => hk.2) (.slice Ao60 y205.length co60)) (fun _ h_ => h_.1))) hb); have n2_ := Aside0.mk (Kd.R_lower ho0 (below_size bel)); have n3_ := Aside0.mk (blk_below (g := gb208) (o := .cells #[.int .i64 3, .slice Ao61 y202.length co61, .slice Ao60 y205.length co60] 25 (0, 0)) (by (with_reducible repeat (first | refine blk_drewN ?_ _ | refine blk_drew ?_ | refine blk_alloc ?_ _)); refine blk_put (cs := #[.int .i64 3, .slice Ao61 y202.length co61, .slice none 0 0]) ?_ 2 _ rfl; (with_reducible repeat (first | refine blk_drewN ?_ _ | refine blk_drew ?_ | refine blk_alloc ?_ _)); refine blk_put (cs := #[.int .i64 3, .slice none 0 0, .slice none 0 0]) ?_ 1 _ rfl; (with_reducible repeat (first | refine blk_drewN ?_ _ | refine blk_drew ?_ | refine blk_alloc ?_ _)); refine blk_put (cs := #[.int .i64 0, .slice none 0 0, .slice none 0 0]) ?_ 0 _ rfl; (with_reducible repeat (first | refine blk_drewN ?_ _ | refine blk_drew ?_ | refine blk_alloc ?_ _)); exact BK208.out) hb); have n4_ := Aside0.mk (below_step bel hb); clear HO204; clear HO207; clear BK208; clear HB; have HO204 := n0_; have HO207 := n1_; have HO211 := n2_; have BK208 := n3_; have HB := n4_; clear n0_ n1_ n2_ n3_ n4_; (try clear hb); (try clear hb2); (try clear hk); (try clear hi); (try clear ho0)) | ((with_reducible refine gate_dst (N := 20) rfl ?_); (try (refine gate_guard (by rfl) ?_; dsimp only)); refine Kd.R_lit k69 _ 69 ?hg (N := 20) ?hd (xs := ([(⟨0, 1⟩ : S69)] : List (S69))) (inner := [.int .i64 0, .int .i64 1]) (ok := fun _ => True) (okp := fun _ => True) ?hr ?hp (fun _ hk => hk) trivial (Below.refl _ _) (Nat.le_refl _) (by simp) ?_; (case hd => rfl); (case hg => rfl); (case hr => first | (go_simp; done) | (go_simp; rfl)); (case hp => exact (Reps.c2 (show Kd.M k69 _ _ _ (⟨0, 1⟩ : S69) [.int .i64 0, .int .i64 1] from (k69_mkM _ _ _ (⟨0, 1⟩ : S69) )) (Reps.none _ _))); intro v214 w65 ho66 hb hg_ hnew_; clear hg_ hnew_; (first | rw [← Ny213.out] at ho66 | (simp only [Int.reduceToNat] at ho66; rw [← Ny213.out] at ho66)); have n0_ := Aside0.mk (Kd.R_elder' (by (with_reducible repeat (first | apply Kd.R_alloc | apply Kd.R_drewN | apply Kd.R_drew)); exact HO204.out) (Kd.R_base ho66) hb); have n1_ := Aside0.mk (Kd.R_below (by (with_reducible repeat (first | apply Kd.R_alloc | apply Kd.R_drewN | apply Kd.R_drew)); exact HO207.out) hb); have n2_ := Aside0.mk (Kd.R_below (by (with_reducible repeat (first | apply Kd.R_alloc | apply Kd.R_drewN | apply Kd.R_drew)); exact HO211.out) hb); have n3_ := Aside0.mk (Kd.R_lower (Kd.R_new' ho66 (Kd.R_lt (by (with_reducible repeat (first | apply Kd.R_alloc | apply Kd.R_drewN | apply Kd.R_drew)); exact HO204.out))) (below_size bel)); have n4_ := Aside0.mk (blk_below (g := gb208) blkz hb); have n5_ := Aside0.mk (below_step bel hb); clear HO204; clear HO207; clear HO211; clear BK208; clear HB; have HO204 := n0_; have HO207 := n1_; have HO211 := n2_; have HO215 := n3_; have BK208 := n4_; have HB := n5_; clear n0_ n1_ n2_ n3_ n4_ n5_; clear hb ho66) | ((with_reducible refine gate_dst (N := 23) rfl ?_); (try (refine gate_guard (by rfl) ?_; dsimp only)); refine Kd.R_lit k71 _ 71 ?hg (N := 23) ?hd (xs := ([(⟨0, 1⟩ : S71), (⟨1, 2⟩ : S71)] : List (S71))) (inner := [.int .i64 0, .int .i64 1, .int .i64 1, .int .i64 2]) (ok := fun _ => True) (okp := fun _ => True) ?hr ?hp (fun _ hk => hk) trivial (Below.refl _ _) (Nat.le_refl _) (by simp) ?_; (case hd => rfl); (case hg => rfl); (case hr => first | (go_simp; done) | (go_simp; rfl)); (case hp => exact (Reps.c2 (show Kd.M k71 _ _ _ (⟨0, 1⟩ : S71) [.int .i64 0, .int .i64 1] from (k71_mkM _ _ _ (⟨0, 1⟩ : S71) )) (Reps.c2 (show Kd.M k71 _ _ _ (⟨1, 2⟩ : S71) [.int .i64 1, .int .i64 2] from (k71_mkM _ _ _ (⟨1, 2⟩ : S71) )) (Reps.none _ _)))); intro v217 w67 ho68 hb hg_ hnew_; clear hg_ hnew_; (first | rw [← Ny216.out] at ho68 | (simp only [Int.reduceToNat] at ho68; rw [← Ny216.out] at ho68)); have n0_ := Aside0.mk (Kd.R_below (by (with_reducible repeat (first | apply Kd.R_alloc | apply Kd.R_drewN | apply Kd.R_drew)); exact HO204.out) hb); have n1_ := Aside0.mk (Kd.R_elder' (by (with_reducible repeat (first | apply Kd.R_alloc | apply Kd.R_drewN | apply Kd.R_drew)); exact HO207.out) (Kd.R_base ho68) hb); have n2_ := Aside0.mk (Kd.R_below (by (with_reducible repeat (first | apply Kd.R_alloc | apply Kd.R_drewN | apply Kd.R_drew)); exact HO211.out) hb); have n3_ := Aside0.mk (Kd.R_below (by (with_reducible repeat (first | apply Kd.R_alloc | apply Kd.R_drewN | apply Kd.R_drew)); exact HO215.out) hb); have n4_ := Aside0.mk (Kd.R_lower (Kd.R_new' ho68 (Kd.R_lt (by (with_reducible repeat (first | apply Kd.R_alloc | apply Kd.R_drewN | apply Kd.R_drew)); exact HO207.out))) (below_size bel)); have n5_ := Aside0.mk (blk_below (g := gb208) blkz hb); have n6_ := Aside0.mk (below_step bel hb); clear HO204; clear HO207; clear HO211; clear HO215; clear BK208; clear HB; have HO204 := n0_; have HO207 := n1_; have HO211 := n2_; have HO215 := n3_; have HO218 := n4_; have BK208 := n5_; have HB := n6_; clear n0_ n1_ n2_ n3_ n4_ n5_ n6_; clear hb ho68; obtain ⟨Ao69, co69, eo69⟩ := Kd.R_slice HO218.out; subst eo69; obtain ⟨Ao70, co70, eo70⟩ := Kd.R_slice HO215.out; subst eo70) | ((with_reducible refine gate_callee (f := 17) rfl ?_); refine goesL_ (some 25) rfl rfl Tryd.func17 (by kernel_rfl) rfl #[.agg #[.int .i64 2, .slice Ao70 y213.length co70, .slice Ao69 y216.length co69]] rfl mapz ?_; (with_reducible refine (feed_States.calls k 2 _ _ y213 _ _ y216 t219 t220 _ ?side1 ?side2 ?side3 ?side4 ?sideT A2.out).mono ?_); (case sideT => first | exact HT.out | exact Tab.Tabs.below HT.out bel | (with_reducible repeat (first | exact HT.out | apply Tab.Tabs.alloc | apply Tab.Tabs.drewN | apply Tab.Tabs.drew))); (case side1 => repeat (first | exact (Kd.R_reads' HO215.out).2.2 | (with_reducible refine Kd.C_alloc ?_ _) | (with_reducible refine Kd.C_drewN ?_ _) | (with_reducible refine Kd.C_drew ?_))); (case side2 => exact (Kd.R_reads' HO215.out).2.1); (case side3 => repeat (first | exact (Kd.R_reads' HO218.out).2.2 | (with_reducible refine Kd.C_alloc ?_ _) | (with_reducible refine Kd.C_drewN ?_ _) | (with_reducible refine Kd.C_drew ?_))); (case side4 => exact (Kd.R_reads' HO218.out).2.1); rintro e w71 ⟨rfl, hb⟩; refine ⟨_, rfl, ?_⟩; have n0_ := Aside0.mk (Kd.R_below (by (with_reducible repeat (first | apply Kd.R_alloc | apply Kd.R_drewN | apply Kd.R_drew)); exact HO204.out) hb); have n1_ := Aside0.mk (Kd.R_below (by (with_reducible repeat (first | apply Kd.R_alloc | apply Kd.R_drewN | apply Kd.R_drew)); exact HO207.out) hb); have n2_ := Aside0.mk (Kd.R_below (by (with_reducible repeat (first | apply Kd.R_alloc | apply Kd.R_drewN | apply Kd.R_drew)); exact HO211.out) hb); have n3_ := Aside0.mk (Kd.R_below (by (with_reducible repeat (first | apply Kd.R_alloc | apply Kd.R_drewN | apply Kd.R_drew)); exact HO215.out) hb); have n4_ := Aside0.mk (Kd.R_below (by (with_reducible repeat (first | apply Kd.R_alloc | apply Kd.R_drewN | apply Kd.R_drew)); exact HO218.out) hb); have n5_ := Aside0.mk (blk_below (g := gb208) blkz hb); have n6_ := Aside0.mk (below_step bel hb); clear HO204; clear HO207; clear HO211; clear HO215; clear HO218; clear BK208; clear HB; have HO204 := n0_; have HO207 := n1_; have HO211 := n2_; have HO215 := n3_; have HO218 := n4_; have BK208 := n5_; have HB := n6_; clear n0_ n1_ n2_ n3_ n4_ n5_ n6_; (try clear hb); (try clear hb2); (try clear hk); (try clear hi)))
  go_ret
  exact ⟨by first | rfl | (simp [errW_none, errW_some] <;> rfl) | (simp [*, errW_none, errW_some] <;> rfl), by repeat (first | (with_reducible first | exact HB.out | apply below_alloc | apply pw_below_drewN | apply below_drew1 | refine below_set ?_ GE208.out) | exact HB.out)⟩

end Go.Proofs.YtoilhnmdemnknaaDoor.XFeed
